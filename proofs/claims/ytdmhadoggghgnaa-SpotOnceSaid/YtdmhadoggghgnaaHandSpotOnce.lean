/- The law SpotOnce: its walk, and its plain law, joined: for every input it returns true and leaves old memory as it was. -/
import Derived.Test.YtdmhadoggghgnaaWd
import Derived.Test.YtdmhadoggghgnaaPx24
namespace Go.Proofs.Ytdmhadoggghgnaa.Hand
open Go Go.RowKit Go.Proofs.Ytdmhadoggghgnaa.P Go.Proofs.YtdmhadoggghgnaaW.PrintWords Go.Proofs.YtdmhadoggghgnaaW.PrintLast Go.Proofs.YtdmhadoggghgnaaW.PrintMore Go.Proofs.Ytdmhadoggghgnaa.Mth Go.Proofs.Ytdmhadoggghgnaa.Wd
set_option linter.unusedVariables false
set_option linter.unusedSimpArgs false
theorem SpotOnce (off : Int) (ew : Bool) (fl a : Int) (w : Bool) (b : Int) (v : Bool) (n size : Int) (W : World) (h0 : (Lit.int .i64 off).wf = true) (h1 : (Lit.int .i64 fl).wf = true) (h2 : (Lit.int .i64 a).wf = true) (h3 : (Lit.int .i64 b).wf = true) (h4 : (Lit.int .i64 n).wf = true) (h5 : (Lit.int .i64 size).wf = true) :
    Calls Try.prog 8 #[.agg #[.int .i64 off, .bool ew, .int .i64 fl, .int .i64 a, .bool w, .int .i64 b, .bool v, .int .i64 n, .int .i64 size]] W fun e w' => e = .returned (.bool true) ∧ Below W.heap.size W w' := by
  clear h0 h1 h2 h3 h4 h5
  obtain ⟨K, hK⟩ : ∃ K : Nat, 80000 ≤ K := ⟨_, Nat.le_refl _⟩
  refine aqueductlaw13_SpotOnce.calls K off ew fl a w b v n size true W ?_ rfl
  unfold aqueductlaw13_SpotOnce.f
  obtain ⟨S, s1, s2, hS⟩ : ∃ S : Int, 1 ≤ S ∧ S ≤ 200 ∧ wrap64 (1 + (Int.tmod (Go.bits .and .i64 size 65535) 200)) = S := by
    rw [and_ffff, Int.tmod_eq_emod_of_nonneg (by omega)]
    exact ⟨1 + size % 65536 % 200, by omega, by omega, w64 _ _ rfl (by omega) (by omega)⟩
  rw [hS]
  clear hS
  obtain ⟨x, x1, x2, hx⟩ := part_of a S s1 (by omega)
  obtain ⟨z, z1, z2, hz⟩ := part_of off S s1 (by omega)
  rw [hx, hz]
  clear hx hz
  have ox : okS x S := ⟨s1, by omega, x1, x2⟩
  have oz : okS z S := ⟨s1, by omega, z1, z2⟩
  rw [if_neg (by omega)]
  -- from step i on: the place g steps ahead of the event's, told so far
  have loop : ∀ (d : Nat) (i : Int) (x : Int) (w : Bool) (t : Int) (K : Nat), okS x S → i + d = 2 * S → 0 ≤ i → 2 * d + 30 < K →
      t = (if gap0 x w z ew S < d then 0 else 1) → aqueductlaw13_SpotOnce.l0 K S t i x w z ew 2 = some true := by
    intro d
    induction d with
    | zero =>
      intro i x w t K h hd hi hk ht
      obtain ⟨K, rfl⟩ : ∃ m, K = m + 1 := ⟨K - 1, by omega⟩
      have hb := gap0_bd w ew h oz
      rw [if_neg (by omega)] at ht
      simp only [aqueductlaw13_SpotOnce.l0]
      rw [w64 (2 * S) (2 * S) rfl (by omega) (by omega), if_neg (by omega), if_pos ht, fixed13 _ (by omega)]; rfl
    | succ d ih =>
      intro i x w t K h hd hi hk ht
      obtain ⟨K, rfl⟩ : ∃ m, K = m + 1 := ⟨K - 1, by omega⟩
      have hb := gap0_bd w ew h oz
      have h1 := step_ok w h (show (0 : Int) ≤ 1 by omega) (show (1 : Int) ≤ S by omega)
      have g1 := gap0_to w h (show (0 : Int) ≤ 1 by omega) (show (1 : Int) ≤ S by omega)
      simp only [aqueductlaw13_SpotOnce.l0]
      rw [w64 (2 * S) (2 * S) rfl (by omega) (by omega), if_pos (by omega), next _ _ _ _ _ (by omega), nextS_ok w h (by omega) (by omega)]
      simp only [Option.bind_some, if_true]
      rw [need _ _ _ _ _ _ _ _ _ (by omega), needS_ok h h1 oz (by omega), g1]
      have d2 : ¬ (2 : Int) = 0 := by decide
      simp only [Option.bind_some, if_neg d2, if_true]
      obtain ⟨K, rfl⟩ : ∃ m, K = m + 1 := ⟨K - 1, by omega⟩
      have hz := gap0_zero (w1 := w) (w2 := ew) h oz
      have key : ∀ y : Bool, (y = decide (gap0 x w z ew S < 1)) → aqueductlaw13_SpotOnce.j1 (K + 1) S t i (decide (gap0 x w z ew S < 1)) (decide (gap0 x w z ew S < 1) != y) z ew 2 (stepS x w 1 S).1 (stepS x w 1 S).2 = some true := by
        intro y hy
        rw [← hy]
        simp only [aqueductlaw13_SpotOnce.j1]
        rw [if_neg (by simp)]
        cases y with
        | true =>
          have hg : gap0 x w z ew S < 1 := of_decide_eq_true hy.symm
          have hp := gap0_past h oz (show (0 : Int) ≤ 1 by omega) (show (1 : Int) ≤ S by omega) hg
          rw [if_pos rfl]
          rw [if_pos (by omega)] at ht
          rw [w64 (t + 1) (t + 1) rfl (by omega) (by omega), w64 (i + 1) (i + 1) rfl (by omega) (by omega)]
          refine ih (i + 1) _ _ _ K h1 (by omega) (by omega) (by omega) ?_
          rw [if_neg (by omega)]; omega
        | false =>
          have hg : ¬ gap0 x w z ew S < 1 := of_decide_eq_false hy.symm
          have hp := gap0_step h oz (show (0 : Int) ≤ 1 by omega) (show (1 : Int) ≤ S by omega) (show 1 ≤ gap0 x w z ew S by omega)
          rw [if_neg (by decide), w64 (i + 1) (i + 1) rfl (by omega) (by omega)]
          refine ih (i + 1) _ _ _ K h1 (by omega) (by omega) (by omega) ?_
          rw [ht]
          by_cases c : gap0 x w z ew S < ((d + 1 : Nat) : Int)
          · rw [if_pos c, if_pos (by omega)]
          · rw [if_neg c, if_neg (by omega)]
      by_cases e : x = z
      · rw [if_pos e]
        refine key _ ?_
        rw [Bool.eq_iff_iff]
        simp only [beq_iff_eq, decide_eq_true_eq]
        constructor
        · intro e2; rw [hz.2 ⟨e, e2⟩]; decide
        · intro hg; exact (hz.1 (by omega)).2
      · rw [if_neg e]
        refine key _ ?_
        symm
        rw [decide_eq_false_iff_not]
        intro hg
        exact e (hz.1 (by omega)).1
  obtain ⟨D, hD⟩ := Int.eq_ofNat_of_zero_le (show 0 ≤ 2 * S by omega)
  have hb := gap0_bd w ew ox oz
  refine loop D 0 x w 0 K ox (by omega) (by omega) (by omega) ?_
  rw [if_pos (by omega)]
end Go.Proofs.Ytdmhadoggghgnaa.Hand
