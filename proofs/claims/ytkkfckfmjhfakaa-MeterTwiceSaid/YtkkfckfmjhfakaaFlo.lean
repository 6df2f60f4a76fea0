/- Floats and the meter: contracts by hand, and the laws over them. -/
import Derived.Test.YtkkfckfmjhfakaaOwn
import Derived.Test.YtkkfckfmjhfakaaPx0
import Derived.Test.YtkkfckfmjhfakaaMth
import Derived.Laws.FloatArith
import Derived.Laws.Cover2
import Derived.Laws.Externs
import Derived.WalkLawsBesides
namespace Go.Proofs.Ytkkfckfmjhfakaa.Mt
open Go Go.RowKit Go.Proofs.YtkkfckfmjhfakaaW.PrintWords Go.Proofs.YtkkfckfmjhfakaaW.PrintLast Go.Proofs.YtkkfckfmjhfakaaW.PrintMore Go.Proofs.Ytkkfckfmjhfakaa.Mth Go.Proofs.Ytkkfckfmjhfakaa.Own Go.Proofs
set_option linter.unusedVariables false
set_option linter.unusedSimpArgs false
/-! ### Floats as data -/
open Ieee (Datum signed)
abbrev rd (b : Nat) : Datum := Ieee.double.read b
/-- The order of two numbers, as the model has it. -/
abbrev ord (a b : Nat) : Option Ordering := FloatKind.f64.format.order a b
theorem sw : Ieee.double.signWeight = 2 ^ 63 := by decide
theorem bin : Ieee.double.binade = 2 ^ 52 := by decide
theorem infr : Ieee.double.infRung = 2047 * 2 ^ 52 := by decide
theorem lp : Ieee.double.leastPlace = -1074 := by decide
/-- A number's sign, digits, place. -/
theorem rd_number {b : Nat} {s : Bool} {m : Nat} {i : Int} (h : rd b = .number s m i) : -1074 ≤ i ∧ i ≤ 971 ∧ m < 2 ^ 53 ∧ s = (b / 2 ^ 63 % 2 == 1) := by
  unfold rd Ieee.Format.read at h
  rw [sw, bin, infr, lp] at h
  dsimp only at h
  by_cases h1 : b % 2 ^ 63 < 2 ^ 52
  · rw [if_pos h1] at h
    injection h with e1 e2 e3
    refine ⟨by omega, by omega, by omega, e1.symm⟩
  · rw [if_neg h1] at h
    by_cases h2 : b % 2 ^ 63 < 2047 * 2 ^ 52
    · rw [if_pos h2] at h
      injection h with e1 e2 e3
      refine ⟨by omega, by omega, by omega, e1.symm⟩
    · rw [if_neg h2] at h
      split at h <;> cases h
theorem rd_sign {b : Nat} : (rd b).neg = (b / 2 ^ 63 % 2 == 1) := by
  unfold rd Ieee.Format.read
  rw [sw, bin, infr, lp]
  dsimp only
  split
  · rfl
  · split
    · rfl
    · split <;> rfl
def sgn (s : Bool) (m : Nat) : Int := if s then -(m : Int) else (m : Int)
theorem signed_eq (s : Bool) (m u : Nat) : signed s m u = sgn s m * 2 ^ u := by
  unfold Ieee.signed sgn
  rw [Nat.shiftLeft_eq]
  split
  · rw [Int.neg_mul]; push_cast; rfl
  · push_cast; rfl
/-- What a number is worth, in units of the least place; 0 of what is no number. -/
def worth : Datum → Int
  | .number s m i => sgn s m * 2 ^ (i + 1074).toNat
  | _ => 0
def ky (b : Nat) : Int := worth (rd b)
theorem cmp_scale (x y : Int) (c : Nat) : compare (x * 2 ^ c) (y * 2 ^ c) = compare x y := by
  have hp : (0 : Int) < 2 ^ c := Int.pow_pos (by decide)
  rw [Int.compare_eq_ite_lt, Int.compare_eq_ite_lt]
  have e1 : (x * 2 ^ c < y * 2 ^ c) ↔ x < y := ⟨fun h => Int.lt_of_mul_lt_mul_right h (Int.le_of_lt hp), fun h => Int.mul_lt_mul_of_pos_right h hp⟩
  have e2 : (y * 2 ^ c < x * 2 ^ c) ↔ y < x := ⟨fun h => Int.lt_of_mul_lt_mul_right h (Int.le_of_lt hp), fun h => Int.mul_lt_mul_of_pos_right h hp⟩
  simp only [e1, e2]
theorem ord_number {a b : Nat} {s t : Bool} {m n : Nat} {i j : Int} (ha : rd a = .number s m i) (hb : rd b = .number t n j) : ord a b = some (compare (ky a) (ky b)) := by
  have qa := rd_number ha
  have qb := rd_number hb
  unfold ky ord
  show Datum.order (rd a) (rd b) = _
  rw [ha, hb]
  unfold Datum.order worth
  dsimp only
  rw [signed_eq, signed_eq]
  obtain ⟨c, hc⟩ : ∃ c : Nat, min i j + 1074 = (c : Int) := ⟨(min i j + 1074).toNat, by omega⟩
  rw [show (i + 1074).toNat = (i - min i j).toNat + c by omega, show (j + 1074).toNat = (j - min i j).toNat + c by omega, Int.pow_add, Int.pow_add, ← Int.mul_assoc, ← Int.mul_assoc, cmp_scale]
/-- A number's kind. -/
def kdD : Datum → Int
  | .nan _ _ => 6
  | .infinity s => if s then 0 else 5
  | .number s m _ => if m = 0 then (if s then 2 else 3) else if s then 1 else 4
def kd (b : Nat) : Int := kdD (rd b)
theorem nan_read (t : Nat) : (t % 2) * 2 ^ 63 + 0x7ff0000000000000 + 1 + (t / 2) % (2 ^ 52 - 1) < 2 ^ 64 ∧ (rd ((t % 2) * 2 ^ 63 + 0x7ff0000000000000 + 1 + (t / 2) % (2 ^ 52 - 1))).isNaN = true := by
  obtain ⟨k, hk⟩ : ∃ k, (t / 2) % (2 ^ 52 - 1) = k := ⟨_, rfl⟩
  have hk' : k < 2 ^ 52 - 1 := by omega
  obtain ⟨j, hj⟩ : ∃ j, t % 2 = j := ⟨_, rfl⟩
  have hj' : j < 2 := by omega
  rw [hk, hj]
  clear hk hj
  refine ⟨by omega, ?_⟩
  unfold rd Ieee.Format.read
  rw [sw, bin, infr, lp]
  dsimp only
  rw [if_neg (by omega), if_neg (by omega), if_neg (by omega)]
  rfl
/-- What an operation's bits are: those of the standard, or any NaN's. -/
def Res (op : BinOp) (x y r : Nat) : Prop := r < 2 ^ 64 ∧ match floatBits op .f64 x y with | some q => r = q | none => (rd r).isNaN = true
theorem run_fl (op : BinOp) (hop : op = .add ∨ op = .sub ∨ op = .quo) (t : TypeId) (x y : Nat) (w : World) :
    ∃ r w', (binOp op t (.float .f64 x) (.float .f64 y)).run Try.prog w = .ok (.float .f64 r) w' ∧ Res op x y r ∧ Below w.heap.size w w' := by
  cases h : floatBits op .f64 x y with
  | some r =>
    refine ⟨r, w, run_float_arith w op t .f64 x y r h, ⟨?_, by rw [h]⟩, Below.refl _ _⟩
    have := floatBits_wf h
    simpa [Lit.wf] using this
  | none =>
    refine ⟨_, w.drew, ?_, ⟨(nan_read (w.tape w.drawn (.nanBits .f64 x y))).1, by rw [h]; exact (nan_read (w.tape w.drawn (.nanBits .f64 x y))).2⟩, below_drew1 (Below.refl _ _)⟩
    rcases hop with rfl | rfl | rfl
    all_goals
      have h' := h
      unfold floatBits at h'
      simp only at h'
      simp [binOp, Op.floatArith, h', Question.forced, Question.cut]
theorem res_wf {op : BinOp} {x y r : Nat} (h : Res op x y r) : r < 2 ^ 64 := h.1
theorem res_some {op : BinOp} {x y r q : Nat} (h : Res op x y r) (hq : floatBits op .f64 x y = some q) : r = q := by
  have := h.2
  rw [hq] at this
  exact this
theorem res_none {op : BinOp} {x y r : Nat} (h : Res op x y r) (hq : floatBits op .f64 x y = none) : (rd r).isNaN = true := by
  have := h.2
  rw [hq] at this
  exact this
/-! kinds, by what the functions ask -/
theorem ord_def (a b : Nat) : ord a b = Datum.order (rd a) (rd b) := rfl
theorem nan_cases {d : Datum} (h : d.isNaN = true) : ∃ s f, d = .nan s f := by
  cases d with
  | nan s f => exact ⟨s, f, rfl⟩
  | number s m i => cases h
  | infinity s => cases h
theorem ord_self (b : Nat) : (ord b b != some .eq) = (rd b).isNaN := by
  cases h : rd b with
  | nan s f => rw [ord_def, h]; rfl
  | infinity s => rw [ord_def, h]; cases s <;> rfl
  | number s m i => rw [ord_number h h, Int.compare_eq_ite_lt, if_neg (by omega), if_neg (by omega)]; rfl
theorem ky0 : ky 0 = 0 := by decide
theorem rd0 : rd 0 = .number false 0 (-1074) := by decide
theorem pow_pos' (c : Nat) : (0 : Int) < 2 ^ c := Int.pow_pos (by decide)
theorem worth_lt {s : Bool} {m : Nat} {i : Int} : worth (.number s m i) < 0 ↔ s = true ∧ m ≠ 0 := by
  show sgn s m * 2 ^ (i + 1074).toNat < 0 ↔ _
  have hp := pow_pos' (i + 1074).toNat
  constructor
  · intro h
    have : sgn s m < 0 := by
      rcases Int.lt_or_le (sgn s m) 0 with q | q
      · exact q
      · have := Int.mul_nonneg q (Int.le_of_lt hp); omega
    unfold sgn at this
    cases s with
    | true => exact ⟨rfl, by simp at this; omega⟩
    | false => simp at this; omega
  · rintro ⟨rfl, hm⟩
    exact Int.mul_neg_of_neg_of_pos (by unfold sgn; simp; omega) hp
theorem worth_gt {s : Bool} {m : Nat} {i : Int} : 0 < worth (.number s m i) ↔ s = false ∧ m ≠ 0 := by
  show 0 < sgn s m * 2 ^ (i + 1074).toNat ↔ _
  have hp := pow_pos' (i + 1074).toNat
  constructor
  · intro h
    have : 0 < sgn s m := by
      rcases Int.lt_or_le 0 (sgn s m) with q | q
      · exact q
      · have := Int.mul_nonpos_of_nonpos_of_nonneg q (Int.le_of_lt hp); omega
    unfold sgn at this
    cases s with
    | true => simp at this; omega
    | false => exact ⟨rfl, by simp at this; omega⟩
  · rintro ⟨rfl, hm⟩
    exact Int.mul_pos (by unfold sgn; simp; omega) hp
/-- less, greater than nought. -/
theorem ord_lt0 (b : Nat) : (ord b 0 == some .lt) = decide (kd b = 0 ∨ kd b = 1) := by
  unfold kd kdD
  cases h : rd b with
  | nan s f => rw [ord_def, h]; rfl
  | infinity s => rw [ord_def, h, rd0]; cases s <;> rfl
  | number s m i =>
    rw [ord_number h rd0, ky0, Int.compare_eq_ite_lt]
    have q : ky b < 0 ↔ s = true ∧ m ≠ 0 := by unfold ky; rw [h]; exact worth_lt
    have q2 : 0 < ky b ↔ s = false ∧ m ≠ 0 := by unfold ky; rw [h]; exact worth_gt
    by_cases hm : m = 0
    · rw [if_neg (by rw [q]; simp [hm])]
      cases s <;> simp [hm] <;> split <;> decide
    · cases s
      · rw [if_neg (by rw [q]; simp), if_pos (by rw [q2]; exact ⟨rfl, hm⟩)]; simp [hm]
      · rw [if_pos (by rw [q]; exact ⟨rfl, hm⟩)]; simp [hm]
theorem ord_gt0 (b : Nat) : (ord b 0 == some .gt) = decide (kd b = 4 ∨ kd b = 5) := by
  unfold kd kdD
  cases h : rd b with
  | nan s f => rw [ord_def, h]; rfl
  | infinity s => rw [ord_def, h, rd0]; cases s <;> rfl
  | number s m i =>
    rw [ord_number h rd0, ky0, Int.compare_eq_ite_lt]
    have q : ky b < 0 ↔ s = true ∧ m ≠ 0 := by unfold ky; rw [h]; exact worth_lt
    have q2 : 0 < ky b ↔ s = false ∧ m ≠ 0 := by unfold ky; rw [h]; exact worth_gt
    by_cases hm : m = 0
    · rw [if_neg (by rw [q]; simp [hm])]
      rw [if_neg (by rw [q2]; simp [hm])]
      cases s <;> simp [hm]
    · cases s
      · rw [if_neg (by rw [q]; simp), if_pos (by rw [q2]; exact ⟨rfl, hm⟩)]; simp [hm]
      · rw [if_pos (by rw [q]; exact ⟨rfl, hm⟩)]; simp [hm]
theorem pow_le' {a b : Nat} (h : a ≤ b) : (2 : Int) ^ a ≤ 2 ^ b := by
  have q := Nat.pow_le_pow_right (n := 2) (by decide) h
  exact_mod_cast q
theorem xor_top {b : Nat} (h : b < 2 ^ 64) : (b ^^^ 2 ^ 63) % 2 ^ 63 = b % 2 ^ 63 ∧ (b ^^^ 2 ^ 63) / 2 ^ 63 = 1 - b / 2 ^ 63 ∧ b ^^^ 2 ^ 63 < 2 ^ 64 := by
  refine ⟨by rw [Nat.xor_mod_two_pow, Nat.mod_self, Nat.xor_zero], ?_, Nat.xor_lt_two_pow h (by decide)⟩
  rw [Nat.xor_div_two_pow, Nat.div_self (by decide)]
  have q : b / 2 ^ 63 = 0 ∨ b / 2 ^ 63 = 1 := by omega
  rcases q with q | q <;> rw [q] <;> rfl
theorem rd_flip {b c : Nat} (hm : c % 2 ^ 63 = b % 2 ^ 63) (hd : c / 2 ^ 63 = 1 - b / 2 ^ 63) (hb : b < 2 ^ 64) : rd c = (rd b).opposite := by
  unfold rd Ieee.Format.read
  rw [sw, bin, infr, lp]
  dsimp only
  rw [hm, hd]
  have q : b / 2 ^ 63 = 0 ∨ b / 2 ^ 63 = 1 := by omega
  rcases q with q | q <;> rw [q] <;> (split; rfl; split; rfl; split <;> rfl)
theorem rd_neg {b : Nat} (h : b < 2 ^ 64) : rd (b ^^^ 2 ^ 63) = (rd b).opposite := rd_flip (xor_top h).1 (xor_top h).2.1 h
theorem neg_run (b : Nat) (w : World) : (Op.unary .neg (.float .f64 b)).run Try.prog w = .ok (.float .f64 (b ^^^ 2 ^ 63)) w := by
  unfold Op.unary
  rfl
theorem rd_max : rd 9218868437227405311 = .number false (2 ^ 53 - 1) 971 := by decide
/-- greater than the greatest number. -/
theorem ord_max (b : Nat) : (ord b 9218868437227405311 == some .gt) = decide (kd b = 5) := by
  unfold kd kdD
  cases h : rd b with
  | nan s f => rw [ord_def, h]; rfl
  | infinity s => rw [ord_def, h, rd_max]; cases s <;> rfl
  | number s m i =>
    obtain ⟨h1, h2, h3, -⟩ := rd_number h
    rw [ord_number h rd_max, Int.compare_eq_ite_lt]
    have le : ky b ≤ ky 9218868437227405311 := by
      unfold ky
      rw [h, rd_max]
      show sgn s m * 2 ^ (i + 1074).toNat ≤ sgn false (2 ^ 53 - 1) * 2 ^ ((971 : Int) + 1074).toNat
      have e1 : sgn s m ≤ sgn false (2 ^ 53 - 1) := by unfold sgn; cases s <;> simp <;> omega
      have e2 : (2 : Int) ^ (i + 1074).toNat ≤ 2 ^ ((971 : Int) + 1074).toNat := pow_le' (by omega)
      refine Int.le_trans (Int.mul_le_mul_of_nonneg_right e1 (Int.le_of_lt (pow_pos' _))) ?_
      exact Int.mul_le_mul_of_nonneg_left e2 (by decide)
    rw [if_neg (by omega : ¬ ky 9218868437227405311 < ky b)]
    have t : decide ((if m = 0 then (if s = true then (2 : Int) else 3) else if s = true then 1 else 4) = 5) = false := by
      rw [decide_eq_false_iff_not]; split <;> split <;> decide
    rw [t]
    split <;> rfl
theorem kd_opp (d : Datum) : (kdD d.opposite = 5) ↔ kdD d = 0 := by
  cases d with
  | nan s f => simp [Datum.opposite, kdD]
  | infinity s => cases s <;> simp [Datum.opposite, kdD]
  | number s m i => cases s <;> simp [Datum.opposite, kdD] <;> split <;> decide
theorem kd_nan (b : Nat) : (rd b).isNaN = decide (kd b = 6) := by
  unfold kd kdD
  cases h : rd b with
  | nan s f => rfl
  | infinity s => cases s <;> rfl
  | number s m i =>
    symm
    show decide ((if m = 0 then (if s = true then (2 : Int) else 3) else if s = true then 1 else 4) = 6) = false
    rw [decide_eq_false_iff_not]; split <;> split <;> decide
theorem kd_range (b : Nat) : 0 ≤ kd b ∧ kd b ≤ 6 := by
  unfold kd kdD
  cases h : rd b with
  | nan s f => exact ⟨by show (0 : Int) ≤ 6; decide, by show (6 : Int) ≤ 6; decide⟩
  | infinity s => cases s <;> simp
  | number s m i => dsimp only; split <;> split <;> decide
theorem bits_run (b : Nat) (w : World) : (callFunc 34 #[.float .f64 b]).run Try.prog w = .ok (.value (.int .u64 b)) w := by
  rw [run_callFunc_extern (e := Extern.MathFloatBits.float64bits) Try.func34 (by kernel_rfl) (by kernel_rfl) (by kernel_rfl) (by kernel_rfl)]
  rfl
theorem kd_sign {b : Nat} (h : b < 2 ^ 64) (h2 : kd b = 2 ∨ kd b = 3) : decide (2 ^ 63 ≤ b) = decide (kd b = 2) := by
  unfold kd kdD at h2 ⊢
  cases hr : rd b with
  | nan s f => rw [hr] at h2; simp at h2
  | infinity s => rw [hr] at h2; cases s <;> simp at h2
  | number s m i =>
    rw [hr] at h2
    obtain ⟨-, -, -, hs⟩ := rd_number hr
    have e : s = decide (2 ^ 63 ≤ b) := by
      rw [hs]
      by_cases q : 2 ^ 63 ≤ b
      · rw [decide_eq_true q, show b / 2 ^ 63 = 1 by omega]; rfl
      · rw [decide_eq_false q, show b / 2 ^ 63 = 0 by omega]; rfl
    rw [← e]
    dsimp only at h2 ⊢
    by_cases hm : m = 0
    · subst hm; cases s <;> rfl
    · simp only [if_neg hm] at h2; cases s <;> simp at h2
end Go.Proofs.Ytkkfckfmjhfakaa.Mt
