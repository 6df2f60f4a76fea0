/- Floats and the meter: contracts by hand, and the laws over them. -/
import Derived.Test.YtkkfckfmjhfakaaOwn
import Derived.Test.YtkkfckfmjhfakaaMea
namespace Go.Proofs.Ytkkfckfmjhfakaa.Mt
open Go Go.RowKit Go.Proofs.YtkkfckfmjhfakaaW.PrintWords Go.Proofs.YtkkfckfmjhfakaaW.PrintLast Go.Proofs.YtkkfckfmjhfakaaW.PrintMore Go.Proofs.Ytkkfckfmjhfakaa.Mth Go.Proofs.Ytkkfckfmjhfakaa.Own Go.Proofs
set_option linter.unusedVariables false
set_option linter.unusedSimpArgs false
open Ieee (Datum signed)
/-! ### What is written, and read again -/
theorem log2_bd {m : Nat} (h : m ≠ 0) : 2 ^ m.log2 ≤ m ∧ m < 2 ^ (m.log2 + 1) := ⟨Nat.log2_self_le h, Nat.lt_log2_self⟩
theorem log2_of {m k : Nat} (h1 : 2 ^ k ≤ m) (h2 : m < 2 ^ (k + 1)) : m.log2 = k := by
  have hm : m ≠ 0 := by have := Nat.two_pow_pos k; omega
  have a : ¬ m.log2 < k := fun h => by have := (Nat.log2_lt hm).1 h; omega
  have b : m.log2 < k + 1 := (Nat.log2_lt hm).2 h2
  omega
theorem log2_mul {m : Nat} (h : m ≠ 0) (k : Nat) : (m * 2 ^ k).log2 = m.log2 + k := by
  obtain ⟨a, b⟩ := log2_bd h
  refine log2_of ?_ ?_
  · rw [Nat.pow_add]; exact Nat.mul_le_mul_right _ a
  · rw [show m.log2 + k + 1 = (m.log2 + 1) + k by omega, Nat.pow_add]; exact Nat.mul_lt_mul_of_pos_right b (Nat.two_pow_pos k)
/-- Nothing is dropped but noughts. -/
theorem cut_exact (s : Bool) (m k : Nat) (hm : m ≠ 0) : Ieee.Toward.even.cut s (m * 2 ^ k) k = m := by
  unfold Ieee.Toward.cut
  rw [log2_mul hm, show min k (m.log2 + k + 2) = k by omega, Nat.one_shiftLeft]
  have e1 : m * 2 ^ k / 2 ^ k = m := Nat.mul_div_cancel _ (Nat.two_pow_pos k)
  have e2 : m * 2 ^ k % 2 ^ k = 0 := Nat.mul_mod_left _ _
  have hp := Nat.two_pow_pos k
  dsimp only
  rw [e1, e2]
  have f1 : decide (2 ^ k < 2 * 0) = false := decide_eq_false (by omega)
  have f2 : (2 ^ k == 2 * 0) = false := beq_eq_false_iff_ne.2 (by omega)
  rw [f1, f2]
  rfl
/-- What is kept of a number has 53 digits, or is one more. -/
theorem cut_bd (s : Bool) (m k : Nat) (h1 : 2 ^ (52 + k) ≤ m) (h2 : m < 2 ^ (53 + k)) : 2 ^ 52 ≤ Ieee.Toward.even.cut s m k ∧ Ieee.Toward.even.cut s m k ≤ 2 ^ 53 := by
  have hl : m.log2 = 52 + k := log2_of h1 (by rw [show 52 + k + 1 = 53 + k by omega]; exact h2)
  unfold Ieee.Toward.cut
  rw [hl, show min k (52 + k + 2) = k by omega, Nat.one_shiftLeft]
  have hp := Nat.two_pow_pos k
  have a1 : 2 ^ 52 ≤ m / 2 ^ k := by rw [Nat.le_div_iff_mul_le hp, ← Nat.pow_add]; exact h1
  have a2 : m / 2 ^ k < 2 ^ 53 := by rw [Nat.div_lt_iff_lt_mul hp, ← Nat.pow_add]; exact h2
  dsimp only
  have b : ∀ x : Bool, x.toNat ≤ 1 := fun x => by cases x <;> decide
  exact ⟨Nat.le_trans a1 (Nat.le_add_right _ _), by have := b (decide (2 ^ k < 2 * (m % 2 ^ k)) || 2 ^ k == 2 * (m % 2 ^ k) && m / 2 ^ k % 2 == 1); omega⟩
theorem rd_word {s : Bool} {r : Nat} (h : r < 2047 * 2 ^ 52) : rd (Ieee.double.word s r) = (if r < 2 ^ 52 then Datum.number s r (-1074) else Datum.number s (2 ^ 52 + r % 2 ^ 52) (-1074 + (r / 2 ^ 52 - 1 : Nat))) := by
  have hw : Ieee.double.word s r = (if s then 2 ^ 63 + r else r) := by unfold Ieee.Format.word; rw [sw]
  have hm : (if s then 2 ^ 63 + r else r) % 2 ^ 63 = r := by split <;> omega
  have hd : ((if s then 2 ^ 63 + r else r) / 2 ^ 63 % 2 == 1) = s := by
    cases s
    · simp; omega
    · simp; omega
  rw [hw]
  unfold rd Ieee.Format.read
  rw [sw, bin, infr, lp]
  dsimp only
  rw [hm, hd]
  by_cases h1 : r < 2 ^ 52
  · rw [if_pos h1, if_pos h1]
  · rw [if_neg h1, if_neg h1, if_pos h]
theorem word_lt {s : Bool} {r : Nat} (h : r < 2 ^ 63) : Ieee.double.word s r < 2 ^ 64 := by
  unfold Ieee.Format.word; rw [sw]; split <;> omega
/-- The nearest to a number of middling greatness: a normal number. -/
theorem near_mid (s : Bool) (m : Nat) (p : Int) (hm : m ≠ 0) (h1 : -1000 ≤ p + m.log2) (h2 : p + m.log2 ≤ 1000) :
    ∃ r : Nat, Ieee.double.nearest s m p = Ieee.double.word s r ∧ 2 ^ 52 ≤ r ∧ r < 2047 * 2 ^ 52 ∧ (((r / 2 ^ 52 : Nat) : Int) = p + m.log2 + 1023 ∨ ((r / 2 ^ 52 : Nat) : Int) = p + m.log2 + 1024) := by
  obtain ⟨a, b⟩ := log2_bd hm
  unfold Ieee.Format.nearest
  rw [if_neg hm, lp, infr, bin]
  have hf : ((Ieee.double.fractionBits : Nat) : Int) = 52 := rfl
  rw [hf]
  obtain ⟨L, hL⟩ : ∃ L, m.log2 = L := ⟨_, rfl⟩
  rw [hL] at a b h1 h2 ⊢
  dsimp only
  rw [show max (p + (L : Int) - 52) (-1074) = p + L - 52 by omega]
  have key : 2 ^ 52 ≤ Ieee.Toward.even.cut s (m <<< (p - (p + (L : Int) - 52)).toNat) (p + (L : Int) - 52 - p).toNat ∧ Ieee.Toward.even.cut s (m <<< (p - (p + (L : Int) - 52)).toNat) (p + (L : Int) - 52 - p).toNat ≤ 2 ^ 53 := by
    rw [Nat.shiftLeft_eq]
    by_cases q : L ≤ 52
    · rw [show (p - (p + (L : Int) - 52)).toNat = 52 - L by omega, show (p + (L : Int) - 52 - p).toNat = 0 by omega]
      refine cut_bd s _ 0 ?_ ?_
      · rw [show 52 + 0 = L + (52 - L) by omega, Nat.pow_add]; exact Nat.mul_le_mul_right _ a
      · rw [show 53 + 0 = (L + 1) + (52 - L) by omega, Nat.pow_add]; exact Nat.mul_lt_mul_of_pos_right b (Nat.two_pow_pos _)
    · rw [show (p - (p + (L : Int) - 52)).toNat = 0 by omega, show (p + (L : Int) - 52 - p).toNat = L - 52 by omega, Nat.pow_zero, Nat.mul_one]
      exact cut_bd s m (L - 52) (by rw [show 52 + (L - 52) = L by omega]; exact a) (by rw [show 53 + (L - 52) = L + 1 by omega]; exact b)
  generalize Ieee.Toward.even.cut s (m <<< (p - (p + (L : Int) - 52)).toNat) (p + (L : Int) - 52 - p).toNat = c at key ⊢
  obtain ⟨e, he⟩ : ∃ e : Nat, p + (L : Int) - 52 - -1074 = (e : Int) := ⟨(p + (L : Int) - 52 - -1074).toNat, by omega⟩
  rw [he, Int.toNat_natCast]
  refine ⟨_, rfl, ?_, ?_, ?_⟩
  · omega
  · omega
  · have : min (e * 2 ^ 52 + c) (2047 * 2 ^ 52) = e * 2 ^ 52 + c := by omega
    rw [this]
    by_cases q : c = 2 ^ 53
    · right; omega
    · left; omega
/-- A number that is one of the kind is written as it was. -/
theorem near_exact {b : Nat} {s : Bool} {m : Nat} {i : Int} (h : rd b = .number s m i) (hb : b < 2 ^ 64) (hm : m ≠ 0) (k : Nat) : Ieee.double.nearest s (m * 2 ^ k) (i - k) = b := by
  have hs := (rd_number h).2.2.2
  have hmk : m * 2 ^ k ≠ 0 := by have := Nat.two_pow_pos k; exact Nat.mul_ne_zero hm (by omega)
  have hbs : b = (if s then 2 ^ 63 + b % 2 ^ 63 else b % 2 ^ 63) := by
    rw [hs]
    have q : b / 2 ^ 63 = 0 ∨ b / 2 ^ 63 = 1 := by omega
    rcases q with q | q <;> rw [q] <;> simp <;> omega
  have main : ∀ e : Nat, i = (e : Int) - 1074 → max (i + (m.log2 : Int) - 52) (-1074) = i → e * 2 ^ 52 + m = b % 2 ^ 63 → b % 2 ^ 63 < 2047 * 2 ^ 52 → Ieee.double.nearest s (m * 2 ^ k) (i - k) = b := by
    intro e he hx hr hlt
    unfold Ieee.Format.nearest
    rw [if_neg hmk, lp, infr, bin, log2_mul hm]
    have hf : ((Ieee.double.fractionBits : Nat) : Int) = 52 := rfl
    rw [hf]
    dsimp only
    rw [show max (i - (k : Int) + ((m.log2 + k : Nat) : Int) - 52) (-1074) = i by omega, show (i - (k : Int) - i).toNat = 0 by omega, show (i - (i - (k : Int))).toNat = k by omega, Nat.shiftLeft_zero, cut_exact s m k hm, show (i - -1074).toNat = e by omega, hr]
    unfold Ieee.Format.word
    rw [sw, Nat.min_eq_left (by omega)]
    exact hbs.symm
  unfold rd Ieee.Format.read at h
  rw [sw, bin, infr, lp] at h
  dsimp only at h
  by_cases h1 : b % 2 ^ 63 < 2 ^ 52
  · rw [if_pos h1] at h
    injection h with e1 e2 e3
    subst e2
    have hl : (b % 2 ^ 63).log2 < 52 := (Nat.log2_lt hm).2 h1
    exact main 0 (by omega) (by omega) (by omega) (by omega)
  · rw [if_neg h1] at h
    by_cases h2 : b % 2 ^ 63 < 2047 * 2 ^ 52
    · rw [if_pos h2] at h
      injection h with e1 e2 e3
      have hl : m.log2 = 52 := log2_of (by omega) (by omega)
      rw [hl] at main
      exact main (b % 2 ^ 63 / 2 ^ 52 - 1) (by omega) (by omega) (by omega) h2
    · rw [if_neg h2] at h
      split at h <;> cases h
open Ieee (Datum signed)
/-! ### Signs of rates -/
theorem foi_def (n : Int) : floatOfInt .f64 n = Ieee.double.nearest (decide (n < 0)) n.natAbs 0 := rfl
theorem foi_zero : floatOfInt .f64 0 = 0 := by decide
theorem foi_one : floatOfInt .f64 1 = 4607182418800017408 := by decide
/-- A whole number's float. -/
theorem foi_read {n : Int} (hn : n ≠ 0) (h1 : -(2 ^ 63) ≤ n) (h2 : n ≤ 2 ^ 63) : ∃ (M : Nat) (i : Int), rd (floatOfInt .f64 n) = .number (decide (n < 0)) M i ∧ 2 ^ 52 ≤ M ∧ M < 2 ^ 53 ∧ -52 ≤ i ∧ i ≤ 12 := by
  have hm : n.natAbs ≠ 0 := by omega
  have hl : n.natAbs.log2 ≤ 63 := by
    obtain ⟨a, b⟩ := log2_bd hm
    rcases Nat.lt_or_ge 63 n.natAbs.log2 with q | q
    · have := Nat.pow_le_pow_right (n := 2) (by decide) (show 64 ≤ n.natAbs.log2 from q); omega
    · exact q
  obtain ⟨r, e, r1, r2, r3⟩ := near_mid (decide (n < 0)) n.natAbs 0 hm (by omega) (by omega)
  rw [foi_def, e, rd_word r2, if_neg (by omega)]
  exact ⟨_, _, rfl, by omega, by omega, by omega, by omega⟩
theorem kd_normal {s : Bool} {r : Nat} (h1 : 2 ^ 52 ≤ r) (h2 : r < 2047 * 2 ^ 52) : kd (Ieee.double.word s r) = if s then 1 else 4 := by
  unfold kd
  rw [rd_word h2, if_neg (by omega)]
  show (if 2 ^ 52 + r % 2 ^ 52 = 0 then (if s = true then (2 : Int) else 3) else if s = true then 1 else 4) = _
  rw [if_neg (by omega)]
theorem quo_mid {x y M N : Nat} {s t : Bool} {i j : Int} (hx : rd x = .number s M i) (hy : rd y = .number t N j) (m1 : 2 ^ 52 ≤ M) (m2 : M < 2 ^ 53) (n1 : 2 ^ 52 ≤ N) (n2 : N < 2 ^ 53) (i1 : -52 ≤ i) (i2 : i ≤ 12) (j1 : -52 ≤ j) (j2 : j ≤ 12) :
    ∃ r, floatBits .quo .f64 x y = some r ∧ kd r = if (s ^^ t) then 1 else 4 := by
  have e : floatBits .quo .f64 x y = (Datum.quotient 54 (rd x) (rd y)).map Ieee.double.write := rfl
  rw [e, hx, hy]
  unfold Datum.quotient
  dsimp only
  rw [if_neg (by omega), show M.log2 = 52 from log2_of m1 m2, show N.log2 = 52 from log2_of n1 n2, Nat.shiftLeft_eq]
  have hN : 0 < N := by omega
  have a1 : 2 ^ 53 ≤ M * 2 ^ (54 + 52 - 52) / N := by rw [Nat.le_div_iff_mul_le hN]; omega
  have a2 : M * 2 ^ (54 + 52 - 52) / N < 2 ^ 55 := by rw [Nat.div_lt_iff_lt_mul hN]; omega
  have b : ∀ x : Bool, x.toNat ≤ 1 := fun x => by cases x <;> decide
  have b1 := b (M * 2 ^ (54 + 52 - 52) % N != 0)
  obtain ⟨q, hq⟩ : ∃ q, 2 * (M * 2 ^ (54 + 52 - 52) / N) + (M * 2 ^ (54 + 52 - 52) % N != 0).toNat = q := ⟨_, rfl⟩
  rw [hq]
  have q1 : 2 ^ 54 ≤ q := by omega
  have q2 : q < 2 ^ 56 := by omega
  have ql : q.log2 = 54 ∨ q.log2 = 55 := by
    rcases Nat.lt_or_ge q (2 ^ 55) with h | h
    · exact .inl (log2_of q1 h)
    · exact .inr (log2_of h q2)
  obtain ⟨r, e1, r1, r2, r3⟩ := near_mid (s ^^ t) q (i - j - ((54 + 52 - 52 : Nat) : Int) - 1) (by omega) (by omega) (by omega)
  refine ⟨_, rfl, ?_⟩
  show kd (Ieee.double.nearest (s ^^ t) q (i - j - ((54 + 52 - 52 : Nat) : Int) - 1)) = _
  rw [e1, kd_normal r1 r2]
theorem quo_inf {x y M : Nat} {s : Bool} {i j : Int} (hx : rd x = .number s M i) (hM : M ≠ 0) (hy : rd y = .number false 0 j) : ∃ r, floatBits .quo .f64 x y = some r ∧ kd r = if s then 0 else 5 := by
  have e : floatBits .quo .f64 x y = (Datum.quotient 54 (rd x) (rd y)).map Ieee.double.write := rfl
  rw [e, hx, hy]
  unfold Datum.quotient
  dsimp only
  rw [if_pos rfl, if_neg hM]
  refine ⟨_, rfl, ?_⟩
  cases s
  · show kd (Ieee.double.write (.infinity false)) = 5; decide
  · show kd (Ieee.double.write (.infinity true)) = 0; decide
theorem word_zero (s : Bool) : Ieee.double.word s 0 = if s then 2 ^ 63 else 0 := by
  unfold Ieee.Format.word; rw [sw]
theorem kd_zero_word (s : Bool) : kd (if s then 2 ^ 63 else 0) = if s then 2 else 3 := by cases s <;> decide
theorem quo_nil {x y N : Nat} {s t : Bool} {i j : Int} (hx : rd x = .number s 0 i) (hy : rd y = .number t N j) (hN : N ≠ 0) : floatBits .quo .f64 x y = some (if (s ^^ t) then 2 ^ 63 else 0) := by
  have e : floatBits .quo .f64 x y = (Datum.quotient 54 (rd x) (rd y)).map Ieee.double.write := rfl
  rw [e, hx, hy]
  unfold Datum.quotient
  dsimp only
  rw [if_neg hN]
  rw [Nat.zero_shiftLeft, Nat.zero_div, Nat.zero_mod]
  show some (Ieee.double.nearest (s ^^ t) 0 _) = _
  unfold Ieee.Format.nearest
  rw [if_pos rfl, word_zero]
/-- A number by one is it. -/
theorem quo_one {x m : Nat} {s : Bool} {i : Int} (hx : rd x = .number s m i) (hb : x < 2 ^ 64) (hm : m ≠ 0) : floatBits .quo .f64 x 4607182418800017408 = some x := by
  have e : floatBits .quo .f64 x 4607182418800017408 = (Datum.quotient 54 (rd x) (rd 4607182418800017408)).map Ieee.double.write := rfl
  rw [e, hx, rd1]
  unfold Datum.quotient
  dsimp only
  have hl : m.log2 < 53 := (Nat.log2_lt hm).2 (rd_number hx).2.2.1
  have h2 : (2 ^ 52 : Nat).log2 = 52 := by decide
  rw [if_neg (by decide), h2, Nat.shiftLeft_eq, Bool.xor_false]
  obtain ⟨k, hk⟩ : ∃ k, 54 - m.log2 = k := ⟨_, rfl⟩
  rw [show 54 + 52 - m.log2 = 52 + k by omega, Nat.pow_add, Nat.mul_comm (2 ^ 52) (2 ^ k), ← Nat.mul_assoc, Nat.mul_div_cancel _ (by decide), Nat.mul_mod_left]
  show some (Ieee.double.nearest s (2 * (m * 2 ^ k) + 0) (i - -52 - ((52 + k : Nat) : Int) - 1)) = some x
  rw [show 2 * (m * 2 ^ k) + 0 = m * 2 ^ (k + 1) by rw [Nat.add_zero, Nat.pow_succ, Nat.mul_comm 2 (m * 2 ^ k), Nat.mul_assoc], show i - -52 - ((52 + k : Nat) : Int) - 1 = i - ((k + 1 : Nat) : Int) by omega, near_exact hx hb hm]
/-- Nought and a number. -/
theorem zero_add_num {x m : Nat} {s : Bool} {i : Int} (hx : rd x = .number s m i) (hb : x < 2 ^ 64) : floatBits .add .f64 0 x = some (if m = 0 then 0 else x) := by
  have e : floatBits .add .f64 0 x = (Datum.sum (rd 0) (rd x)).map Ieee.double.write := rfl
  have hi := (rd_number hx).1
  rw [e, hx, rd0]
  unfold Datum.sum
  dsimp only
  rw [show min (-1074) i = -1074 by omega, signed_eq, signed_eq, show (sgn false 0 : Int) = 0 from rfl, Int.zero_mul, Int.zero_add]
  obtain ⟨k, hk⟩ : ∃ k : Nat, i - -1074 = (k : Int) := ⟨(i - -1074).toNat, by omega⟩
  rw [hk, Int.toNat_natCast]
  by_cases hm : m = 0
  · subst hm
    rw [if_pos rfl]
    have z : sgn s 0 * 2 ^ k = 0 := by unfold sgn; cases s <;> simp
    rw [z, if_pos rfl]
    rfl
  · rw [if_neg hm]
    have hp := pow_pos' k
    have ab : (sgn s m * 2 ^ k).natAbs = m * 2 ^ k := by
      rw [Int.natAbs_mul, Int.natAbs_pow]
      have : (sgn s m).natAbs = m := by unfold sgn; cases s <;> simp
      rw [this]; rfl
    have nz : sgn s m * 2 ^ k ≠ 0 := by
      intro z
      rw [z] at ab
      have := Nat.two_pow_pos k
      exact (Nat.mul_ne_zero hm (by omega)) ab.symm
    have sg : decide (sgn s m * 2 ^ k < 0) = s := by
      unfold sgn
      cases s
      · rw [decide_eq_false_iff_not]; have := Int.mul_nonneg (show (0 : Int) ≤ (m : Int) by omega) (Int.le_of_lt hp); simpa using this
      · rw [decide_eq_true_iff]; exact Int.mul_neg_of_neg_of_pos (by simp; omega) hp
    rw [if_neg nz, ab]
    show some (Ieee.double.nearest (decide (sgn s m * 2 ^ k < 0)) (m * 2 ^ k) (-1074)) = some x
    rw [sg]
    have := near_exact hx hb hm k
    rw [show i - (k : Int) = -1074 by omega] at this
    rw [this]
end Go.Proofs.Ytkkfckfmjhfakaa.Mt
