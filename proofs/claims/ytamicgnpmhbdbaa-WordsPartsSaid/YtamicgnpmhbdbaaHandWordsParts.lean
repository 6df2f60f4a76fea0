/- The law WordsParts: its walk, and its plain law, joined: for every input it returns true and leaves old memory as it was. -/
import Derived.Test.YtamicgnpmhbdbaaWd
import Derived.Test.YtamicgnpmhbdbaaPx13
namespace Go.Proofs.Ytamicgnpmhbdbaa.Hand
open Go Go.RowKit Go.Proofs.Ytamicgnpmhbdbaa.P Go.Proofs.YtamicgnpmhbdbaaW.PrintWords Go.Proofs.YtamicgnpmhbdbaaW.PrintLast Go.Proofs.YtamicgnpmhbdbaaW.PrintMore Go.Proofs.Ytamicgnpmhbdbaa.Mth Go.Proofs.Ytamicgnpmhbdbaa.Wd
set_option linter.unusedVariables false
set_option linter.unusedSimpArgs false
theorem getS_front (l : List Nat) (k : Nat) (h1 : 1 ≤ k) (h8 : k ≤ 8) (h : k ≤ l.length) (a : Nat) (ha : a + k ≤ l.length) : getS l (a : Int) (k : Int) true = (val ((l.drop a).take k), 0) := by
  unfold getS
  rw [if_neg (by omega), if_neg (by omega)]
  simp
theorem WordsParts_pure : aqueductlaw01_WordsParts.Pure := by
  intro s a1 a2 hs _ _
  obtain ⟨k, hk2, hk8, hk⟩ : ∃ k : Nat, 2 ≤ k ∧ k ≤ 8 ∧ wrap64 (2 + (Int.tmod (Go.bits .and .i64 a1 65535) 7)) = (k : Int) := by
    rw [and_ffff, Int.tmod_eq_emod_of_nonneg (by omega)]
    exact ⟨(2 + a1 % 65536 % 7).toNat, by omega, by omega, w64 _ _ (by omega) (by omega) (by omega)⟩
  have hk1 : wrap64 ((k : Int) - 1) = ((k - 1 : Nat) : Int) := w64 _ _ (by omega) (by omega) (by omega)
  obtain ⟨c, hc1, hck, hc⟩ : ∃ c : Nat, 1 ≤ c ∧ c < k ∧ wrap64 (1 + (Int.tmod (Go.bits .and .i64 a2 65535) ((k - 1 : Nat) : Int))) = (c : Int) := by
    clear hk hk1
    rw [and_ffff, Int.tmod_eq_emod_of_nonneg (by omega)]
    have h1 := Int.emod_nonneg (a2 % 65536) (show ((k - 1 : Nat) : Int) ≠ 0 by omega)
    have h2 := Int.emod_lt_of_pos (a2 % 65536) (show (0 : Int) < ((k - 1 : Nat) : Int) by omega)
    exact ⟨(1 + a2 % 65536 % ((k - 1 : Nat) : Int)).toNat, by omega, by omega, w64 _ _ (by omega) (by omega) (by omega)⟩
  unfold aqueductlaw01_WordsParts.f
  rw [hk, hk1, hc]
  clear hk hk1 hc
  rw [w64 ((k : Int) - (c : Int)) ((k - c : Nat) : Int) (by omega) (by omega) (by omega), w64 (8 * ((k - c : Nat) : Int)) ((8 * (k - c) : Nat) : Int) (by omega) (by omega) (by omega)]
  have d1 : ¬ ((k - 1 : Nat) : Int) = 0 := by omega
  simp only [if_neg d1]
  obtain ⟨k1, e1⟩ := get s (by omega) 0 (k : Int) true
  obtain ⟨k2, e2⟩ := get s (by omega) 0 (c : Int) true
  obtain ⟨k3, e3⟩ := get s (by omega) (c : Int) ((k - c : Nat) : Int) true
  obtain ⟨k4, e4⟩ := fixed01
  have e1 := e1 (k1 + k2 + k3 + k4) (by omega)
  have e2 := e2 (k1 + k2 + k3 + k4) (by omega)
  have e3 := e3 (k1 + k2 + k3 + k4) (by omega)
  have e4 := e4 (k1 + k2 + k3 + k4) (by omega)
  refine ⟨k1 + k2 + k3 + k4, ?_⟩
  simp only at e1 e2 e3 e4
  simp only [e1, e2, e3, e4, Option.bind_some]
  clear e1 e2 e3 e4
  by_cases h : k ≤ s.size
  · have hl := B_length s
    have g1 := getS_front (B s) k (by omega) hk8 (by omega) 0 (by omega)
    have g2 := getS_front (B s) c (by omega) (by omega) (by omega) 0 (by omega)
    have g3 := getS_front (B s) (k - c) (by omega) (by omega) (by omega) c (by omega)
    have z : ((0 : Nat) : Int) = 0 := rfl
    rw [z] at g1 g2
    rw [g1, g2, g3]
    have q6 : (0 : Int) ≤ ((8 * (k - c) : Nat) : Int) := by omega
    have hA : (B s).take k = (B s).take c ++ ((B s).drop c).take (k - c) := by
      rw [← List.take_add, show c + (k - c) = k from by omega]
    have hb1 := val_lt ((B_bt s).take k)
    have hb2 := val_lt ((B_bt s).take c)
    have hb3 := val_lt (((B_bt s).drop c).take (k - c))
    have l3 : (((B s).drop c).take (k - c)).length = k - c := by rw [List.length_take, List.length_drop]; omega
    rw [l3] at hb3
    have hV : val ((B s).take k) = val ((B s).take c) * 256 ^ (k - c) + val (((B s).drop c).take (k - c)) := by rw [hA, val_append, l3]
    have q7 : ((val ((B s).take k) : Nat) : Int) = Go.bits .or .u64 (shl .u64 ((val ((B s).take c) : Nat) : Int) ((8 * (k - c) : Nat) : Int)) ((val (((B s).drop c).take (k - c)) : Nat) : Int) := by
      rw [or_shl _ _ (k - c) (by omega) hb3 (by
        rw [List.length_take, Nat.min_eq_left (by omega)] at hb1
        rw [← hV]
        exact Nat.lt_of_lt_of_le hb1 (Nat.le_trans (Nat.pow_le_pow_right (by decide) hk8) (by decide)))]
      rw [hV]
    simp only [List.drop_zero, if_true, q6, ← q7]
  · have g1 : (getS (B s) 0 (k : Int) true).2 = 10 := by
      unfold getS
      rw [if_neg (by omega), if_pos (by rw [B_length]; omega)]
    have d10 : ¬ (10 : Int) = 0 := by decide
    have q : (s.size : Int) < (k : Int) := by omega
    simp only [g1, if_neg d10, q, if_true]
theorem WordsParts (a0 : ByteArray) (a1 a2 : Int) (w : World) (w0 : a0.size ≤ 140737488351232) (w1 : (Lit.int .i64 a1).wf = true) (w2 : (Lit.int .i64 a2).wf = true) :
    Calls Try.prog 7 #[.string a0, .int .i64 a1, .int .i64 a2] w fun e w' => e = .returned (.bool true) ∧ Below w.heap.size w w' := aqueductlaw01_WordsParts.walk WordsParts_pure a0 a1 a2 w w0 w1 w2
end Go.Proofs.Ytamicgnpmhbdbaa.Hand
