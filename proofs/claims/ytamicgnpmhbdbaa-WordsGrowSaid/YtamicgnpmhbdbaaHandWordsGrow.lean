/- The law WordsGrow: its walk, and its plain law, joined: for every input it returns true and leaves old memory as it was. -/
import Derived.Test.YtamicgnpmhbdbaaWd
import Derived.Test.YtamicgnpmhbdbaaPx12
namespace Go.Proofs.Ytamicgnpmhbdbaa.Hand
open Go Go.RowKit Go.Proofs.Ytamicgnpmhbdbaa.P Go.Proofs.YtamicgnpmhbdbaaW.PrintWords Go.Proofs.YtamicgnpmhbdbaaW.PrintLast Go.Proofs.YtamicgnpmhbdbaaW.PrintMore Go.Proofs.Ytamicgnpmhbdbaa.Mth Go.Proofs.Ytamicgnpmhbdbaa.Wd
set_option linter.unusedVariables false
set_option linter.unusedSimpArgs false
theorem WordsGrow_pure : aqueductlaw01_WordsGrow.Pure := by
  intro v a1 w1 _
  obtain ⟨h0, h1⟩ := u64_wf w1
  obtain ⟨v, rfl⟩ := Int.eq_ofNat_of_zero_le h0
  have hv : v < 18446744073709551616 := by omega
  clear w1 h0 h1
  obtain ⟨m, hm1, hm7, hm⟩ : ∃ m : Nat, 1 ≤ m ∧ m ≤ 7 ∧ wrap64 (1 + (Int.tmod (Go.bits .and .i64 a1 65535) 7)) = (m : Int) := by
    rw [and_ffff, Int.tmod_eq_emod_of_nonneg (by omega)]
    exact ⟨(1 + a1 % 65536 % 7).toNat, by omega, by omega, w64 _ _ (by omega) (by omega) (by omega)⟩
  obtain ⟨k1, e1⟩ := put v hv m true
  obtain ⟨k2, e2⟩ := put v hv ((m + 1 : Nat) : Int) true
  obtain ⟨k3, e3⟩ := put v hv 8 true
  obtain ⟨k4, e4⟩ := fixed01
  have e1 := e1 (k1 + k2 + k3 + k4) (by omega)
  have e2 := e2 (k1 + k2 + k3 + k4) (by omega)
  have e3 := e3 (k1 + k2 + k3 + k4) (by omega)
  have e4 := e4 (k1 + k2 + k3 + k4) (by omega)
  refine ⟨k1 + k2 + k3 + k4, ?_⟩
  unfold aqueductlaw01_WordsGrow.f
  simp only at e1 e2 e3 e4
  rw [hm, w64 ((m : Int) + 1) ((m + 1 : Nat) : Int) (by omega) (by omega) (by omega), w64 (8 * (m : Int)) ((8 * m : Nat) : Int) (by omega) (by omega) (by omega), w64 (8 - (m : Int)) ((8 - m : Nat) : Int) (by omega) (by omega) (by omega), shl_one m hm7]
  rw [e1, e2, e3, e4]
  clear hm e1 e2 e3 e4
  have hp : (256 : Nat) ^ m ≤ 256 ^ (m + 1) := Nat.pow_le_pow_right (by decide) (by omega)
  have p8 : putS v 8 true = (dig 8 v, 0) := by unfold putS; rw [if_pos ⟨by decide, by decide, by simpa using hv⟩]; rfl
  have s8 : ((mk (dig 8 v)).size : Int) = 8 := by rw [mk_size, dig_length]; rfl
  rw [p8]
  simp only [Option.bind_some]
  by_cases h : v < 256 ^ m
  · have p1 : putS v (m : Int) true = (dig m v, 0) := by unfold putS; rw [if_pos ⟨by omega, by omega, by simpa using h⟩]; rfl
    have p2 : putS v ((m + 1 : Nat) : Int) true = (dig (m + 1) v, 0) := by unfold putS; rw [if_pos ⟨by omega, by omega, by rw [Int.toNat_natCast]; omega⟩]; rfl
    have q1 : (mk (dig (m + 1) v)).toList = ((⟨#[0]⟩ : ByteArray) ++ mk (dig m v)).toList := by
      congr 1
      apply B_inj
      rw [B_append, B_mk (dig_bt _ _), B_mk (dig_bt _ _), dig_zero_succ m v h]; rfl
    have q2 : ((mk (dig 8 v)).extract (8 - m) (mk (dig 8 v)).size).toList = (mk (dig m v)).toList := by
      congr 1
      apply B_inj
      rw [B_extract, B_mk (dig_bt _ _), B_mk (dig_bt _ _), List.take_of_length_le (by rw [dig_length, mk_size, dig_length]; omega)]
      have := dig_drop m (8 - m) v
      rwa [show 8 - m + m = 8 from by omega] at this
    have q3 : 1 + (mk (dig m v)).size ≤ 9223372036854775807 := by rw [mk_size, dig_length]; omega
    have q4 : ((8 - m : Nat) : Int) ≤ 8 := by omega
    have q5 : (v : Int) < ((256 ^ m : Nat) : Int) := by omega
    have q6 : (0 : Int) ≤ ((8 * m : Nat) : Int) := by omega
    have q7 : (0 : Int) ≤ ((8 - m : Nat) : Int) := by omega
    rw [p1, p2]
    simp only [Int.toNat_natCast, s8, if_true, q1, q2, q3, q4, q6, q7]
    rw [decide_eq_true q5]
    rfl
  · have p1 : putS v (m : Int) true = ([], 1) := by unfold putS; rw [if_neg (by rw [Int.toNat_natCast]; omega)]
    have q5 : ¬ (v : Int) < ((256 ^ m : Nat) : Int) := by omega
    have q6 : (0 : Int) ≤ ((8 * m : Nat) : Int) := by omega
    rw [p1, decide_eq_false q5]
    simp only
    have d1 : ¬ (1 : Int) = 0 := by decide
    by_cases h2 : (putS v ((m + 1 : Nat) : Int) true).2 = 0
    · simp only [h2, if_true, if_neg d1, q6]; rfl
    · simp only [if_neg h2, if_true, if_neg d1, q6]; rfl
theorem WordsGrow (a0 a1 : Int) (w : World) (w0 : (Lit.int .u64 a0).wf = true) (w1 : (Lit.int .i64 a1).wf = true) :
    Calls Try.prog 6 #[.int .u64 a0, .int .i64 a1] w fun e w' => e = .returned (.bool true) ∧ Below w.heap.size w w' := aqueductlaw01_WordsGrow.walk WordsGrow_pure a0 a1 w w0 w1
end Go.Proofs.Ytamicgnpmhbdbaa.Hand
