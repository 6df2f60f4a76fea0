/- What the functions that the law  reaches come to, as lists of bytes and numbers; for strings of at most 2^48 bytes. -/
import Derived.Test.YtdmhadoggghgnaaMth
import Derived.Test.YtdmhadoggghgnaaPx3
import Derived.Test.YtdmhadoggghgnaaPx4
import Derived.Test.YtdmhadoggghgnaaPx5
import Derived.Test.YtdmhadoggghgnaaPx6
import Derived.Test.YtdmhadoggghgnaaPx7
import Derived.Test.YtdmhadoggghgnaaPx8
import Derived.Test.YtdmhadoggghgnaaPx9
import Derived.Test.YtdmhadoggghgnaaPx10
import Derived.Test.YtdmhadoggghgnaaPx11
import Derived.Test.YtdmhadoggghgnaaPx12
import Derived.Test.YtdmhadoggghgnaaPx13
import Derived.Test.YtdmhadoggghgnaaPx14
import Derived.Test.YtdmhadoggghgnaaPx17
import Derived.Test.YtdmhadoggghgnaaPx18
import Derived.Test.YtdmhadoggghgnaaPx20
import Derived.Test.YtdmhadoggghgnaaPx15
namespace Go.Proofs.Ytdmhadoggghgnaa.Wd
open Go Go.RowKit Go.Proofs.Ytdmhadoggghgnaa.P Go.Proofs.YtdmhadoggghgnaaW.PrintWords Go.Proofs.YtdmhadoggghgnaaW.PrintLast Go.Proofs.YtdmhadoggghgnaaW.PrintMore Go.Proofs.Ytdmhadoggghgnaa.Mth
set_option linter.unusedVariables false
set_option linter.unusedSimpArgs false

/-! Turn. -/
theorem turn_loop (s : ByteArray) (hs : s.size ≤ 281474976710656) : ∀ (d i k : Nat) (buf : List Int), i ≤ s.size → s.size - i = d → d < k → buf.length = s.size →
    (∀ j, j < i → buf.getD (s.size - 1 - j) 0 = bt s (j : Int)) → words_Turn.l0 k s buf (s.size : Int) (i : Int) = some (mk (B s).reverse) := by
  intro d
  induction d with
  | zero =>
    intro i k buf hi hd hk hl hb
    obtain ⟨k, rfl⟩ : ∃ m, k = m + 1 := ⟨k - 1, by omega⟩
    obtain rfl : i = s.size := by omega
    simp only [words_Turn.l0]
    rw [if_neg (by omega)]
    have e : buf = (B s).reverse.map (fun (x : Nat) => (x : Int)) := by
      apply List.ext_getElem
      · rw [List.length_map, List.length_reverse, B_length, hl]
      · intro n h1 h2
        have h3 := hb (s.size - 1 - n) (by omega)
        rw [show s.size - 1 - (s.size - 1 - n) = n from by omega, List.getD_eq_getElem?_getD, List.getElem?_eq_getElem h1, bt_eq] at h3
        rw [List.getElem_map, List.getElem_reverse]
        simp only [Option.getD_some] at h3
        rw [h3, List.getD_eq_getElem?_getD, List.getElem?_eq_getElem (by rw [B_length]; omega)]
        simp [B_length]
    rw [e, strOfNums_cast]
  | succ d ih =>
    intro i k buf hi hd hk hl hb
    obtain ⟨k, rfl⟩ : ∃ m, k = m + 1 := ⟨k - 1, by omega⟩
    simp only [words_Turn.l0]
    have e1 : wrap64 ((s.size : Int) - 1) = (s.size : Int) - 1 := wrap64_in (by omega) (by omega)
    have e2 : wrap64 ((s.size : Int) - 1 - (i : Int)) = (s.size : Int) - 1 - (i : Int) := wrap64_in (by omega) (by omega)
    have e3 : wrap64 ((i : Int) + 1) = ((i + 1 : Nat) : Int) := by rw [wrap64_in (by omega) (by omega)]; omega
    rw [e1, e2, e3]
    rw [if_pos (by omega), if_pos (by omega), if_pos (by omega), if_pos (by omega), if_pos (by omega)]
    have e4 : ((s.size : Int) - 1 - (i : Int)).toNat = s.size - 1 - i := by omega
    rw [e4]
    apply ih (i + 1) k _ (by omega) (by omega) (by omega) (by rw [List.length_set]; exact hl)
    intro j hj
    rw [List.getD_eq_getElem?_getD, List.getElem?_set]
    by_cases hji : j = i
    · subst hji
      rw [if_pos rfl, if_pos (by omega)]; rfl
    · rw [if_neg (by omega), ← List.getD_eq_getElem?_getD]
      exact hb j (by omega)
theorem turn_at (s : ByteArray) (hs : s.size ≤ 281474976710656) (k : Nat) (hk : s.size < k) : words_Turn.f k s = some (mk (B s).reverse) := by
  unfold words_Turn.f
  rw [if_pos (by omega), if_pos (by omega)]
  exact turn_loop s hs s.size 0 k _ (by omega) (by omega) hk (by simp) (fun j hj => by omega)
theorem turn (s : ByteArray) (hs : s.size ≤ 281474976710656) : Ev (fun k => words_Turn.f k s) (mk (B s).reverse) :=
  ⟨s.size + 1, fun k hk => turn_at s hs k (by omega)⟩
/-! Get. -/
theorem get_loop (s : ByteArray) (n : Nat) (hn : s.size = n) (h8 : n ≤ 8) : ∀ (d i k : Nat), i ≤ n → n - i = d → d < k →
    words_Get.l0 k s ((val ((B s).take i) : Nat) : Int) (n : Int) (i : Int) = some (((val (B s) : Nat) : Int), 0) := by
  intro d
  induction d with
  | zero =>
    intro i k hi hd hk
    obtain ⟨k, rfl⟩ : ∃ m, k = m + 1 := ⟨k - 1, by omega⟩
    obtain rfl : i = n := by omega
    simp only [words_Get.l0]
    rw [if_neg (by omega), List.take_of_length_le (by rw [B_length]; omega)]
  | succ d ih =>
    intro i k hi hd hk
    obtain ⟨k, rfl⟩ : ∃ m, k = m + 1 := ⟨k - 1, by omega⟩
    simp only [words_Get.l0]
    rw [if_pos (by omega), if_pos (by omega), if_pos (by omega), bt_eq]
    have e3 : wrap64 ((i : Int) + 1) = ((i + 1 : Nat) : Int) := by rw [wrap64_in (by omega) (by omega)]; omega
    have hb : (B s).getD i 0 < 256 := getD_lt (B_bt s) i
    have hl := B_length s
    have ht : (B s).take (i + 1) = (B s).take i ++ [(B s).getD i 0] := by
      rw [List.take_succ_eq_append_getElem (by omega), List.getD_eq_getElem?_getD, List.getElem?_eq_getElem (by omega)]; rfl
    have hv := val_lt ((B_bt s).take (i + 1))
    rw [ht, val_snoc, List.length_append, List.length_singleton, List.length_take, Nat.min_eq_left (by omega)] at hv
    have hp : 256 ^ (i + 1) ≤ 256 ^ 8 := Nat.pow_le_pow_right (by decide) (by omega)
    rw [e3, or_byte (by omega) hb, ← val_snoc, ← ht]
    exact ih (i + 1) k (by omega) (by omega) (by omega)
/-- The number of n bytes at a place. -/
def getS (l : List Nat) (at' n : Int) (big : Bool) : Nat × Int :=
  if n < 1 ∨ n > 8 then (0, 1)
  else if at' < 0 ∨ at' > (l.length : Int) - n then (0, 10)
  else (val (if big then (l.drop at'.toNat).take n.toNat else ((l.drop at'.toNat).take n.toNat).reverse), 0)
theorem get (s : ByteArray) (hs : s.size ≤ 281474976710656) (at' n : Int) (big : Bool) :
    Ev (fun k => words_Get.f k s at' n big) (((getS (B s) at' n big).1 : Int), (getS (B s) at' n big).2) := by
  unfold getS
  rw [B_length]
  refine ⟨20, fun k hk => ?_⟩
  obtain ⟨k, rfl⟩ : ∃ m, k = m + 1 := ⟨k - 1, by omega⟩
  show words_Get.f (k + 1) s at' n big = _
  unfold words_Get.f
  by_cases h1 : n < 1
  · rw [if_pos h1, if_pos (Or.inl h1)]
    simp only [words_Get.j0]
    rw [if_pos trivial]; rfl
  rw [if_neg h1]
  by_cases h2 : n > 8
  · rw [if_pos (Or.inr h2), decide_eq_true h2]
    simp only [words_Get.j0]
    rw [if_pos trivial]; rfl
  rw [if_neg (by omega), decide_eq_false h2]
  simp only [words_Get.j0]
  rw [if_neg (by decide)]
  have e1 : wrap64 ((s.size : Int) - n) = (s.size : Int) - n := wrap64_in (by omega) (by omega)
  rw [e1]
  by_cases h3 : at' < 0
  · rw [if_pos h3, if_pos (Or.inl h3)]; rfl
  rw [if_neg h3]
  by_cases h4 : at' > (s.size : Int) - n
  · rw [if_pos h4, if_pos (Or.inr h4)]; rfl
  have hR : ¬ (at' < 0 ∨ at' > (s.size : Int) - n) := by omega
  rw [if_neg h4, if_neg hR]
  have e2 : wrap64 (at' + n) = at' + n := wrap64_in (by omega) (by omega)
  rw [e2, if_pos (by omega), if_pos (by omega), if_pos (by omega)]
  obtain ⟨a, rfl⟩ := Int.eq_ofNat_of_zero_le (show 0 ≤ at' by omega)
  obtain ⟨m, rfl⟩ := Int.eq_ofNat_of_zero_le (show 0 ≤ n by omega)
  have e3 : ((a : Int) + (m : Int)).toNat = a + m := by omega
  simp only [Int.toNat_natCast, e3]
  have eB : B (s.extract a (a + m)) = ((B s).drop a).take m := by
    rw [B_extract, List.drop_take]; congr 1; omega
  have es : (s.extract a (a + m)).size = m := by rw [← B_length, eB, List.length_take, List.length_drop, B_length]; omega
  obtain ⟨k, rfl⟩ : ∃ j, k = j + 1 := ⟨k - 1, by omega⟩
  cases big with
  | true =>
    rw [if_pos rfl, if_pos rfl]
    simp only [words_Get.j1]
    have := get_loop (s.extract a (a + m)) m es (by omega) m 0 k (by omega) (by omega) (by omega)
    rw [eB] at this
    exact this
  | false =>
    rw [if_neg (by decide), if_neg (by decide)]
    rw [turn_at _ (by omega) _ (by omega)]
    simp only [Option.bind_some, words_Get.j1]
    have hb := ((B_bt (s.extract a (a + m))).reverse)
    have := get_loop (mk (B (s.extract a (a + m))).reverse) m (by rw [mk_size, List.length_reverse, B_length, es]) (by omega) m 0 k (by omega) (by omega) (by omega)
    rw [B_mk hb, eB] at this
    rw [eB]
    exact this
/-! Put. -/
theorem may (v : Nat) (hv : v < 18446744073709551616) (n : Int) : words_may.f (v : Int) n = some (decide (1 ≤ n ∧ n ≤ 8 ∧ v < 256 ^ n.toNat)) := by
  unfold words_may.f
  by_cases h1 : n ≥ 1
  · rw [if_pos h1]
    by_cases h2 : n ≤ 8
    · rw [if_pos h2]
      obtain ⟨m, rfl⟩ := Int.eq_ofNat_of_zero_le (show 0 ≤ n by omega)
      by_cases h3 : (m : Int) = 8
      · rw [if_pos h3]
        obtain rfl : m = 8 := by omega
        have : v < 256 ^ (8 : Nat) := by omega
        simp [this]
      · rw [if_neg h3]
        have e : wrap64 (8 * (m : Int)) = ((8 * m : Nat) : Int) := by rw [wrap64_in (by omega) (by omega)]; omega
        rw [e, if_pos (by omega), shr8 v m (by omega)]
        congr 1
        rw [Bool.eq_iff_iff]
        simp only [beq_iff_eq, decide_eq_true_eq, Int.toNat_natCast]
        rw [show ((v / 256 ^ m : Nat) : Int) = 0 ↔ v / 256 ^ m = 0 by omega, Nat.div_eq_zero_iff]
        have := pow_pos' m
        omega
    · rw [if_neg h2]; congr 1; symm; rw [decide_eq_false_iff_not]; omega
  · rw [if_neg h1]; congr 1; symm; rw [decide_eq_false_iff_not]; omega
theorem put_loop (v n : Nat) (h8 : n ≤ 8) (big : Bool) : ∀ (d i k : Nat) (buf : List Int), i ≤ n → n - i = d → d + 10 < k → buf.length = n →
    (∀ j, j < i → buf.getD (n - 1 - j) 0 = ((v / 256 ^ j % 256 : Nat) : Int)) →
    words_Put.l0 k (v : Int) (n : Int) big buf (n : Int) (i : Int) = some (mk (if big then dig n v else (dig n v).reverse), 0) := by
  intro d
  induction d with
  | zero =>
    intro i k buf hi hd hk hl hb
    obtain ⟨k, rfl⟩ : ∃ m, k = m + 1 := ⟨k - 1, by omega⟩
    obtain rfl : i = n := by omega
    simp only [words_Put.l0]
    rw [if_neg (by omega)]
    have e : buf = (dig i v).map (fun (x : Nat) => (x : Int)) := by
      apply List.ext_getElem
      · rw [List.length_map, dig_length, hl]
      · intro m h1 h2
        have h3 := hb (i - 1 - m) (by omega)
        rw [show i - 1 - (i - 1 - m) = m from by omega, List.getD_eq_getElem?_getD, List.getElem?_eq_getElem h1] at h3
        simp only [Option.getD_some] at h3
        rw [List.getElem_map, h3]
        have h4 := dig_get i v (i - 1 - m) (by omega)
        rw [show i - 1 - (i - 1 - m) = m from by omega, List.getD_eq_getElem?_getD, List.getElem?_eq_getElem (by rw [dig_length]; omega)] at h4
        simp only [Option.getD_some] at h4
        rw [h4]
    rw [e, strOfNums_cast]
    cases big with
    | true => rw [if_pos rfl, if_pos rfl]
    | false =>
      rw [if_neg (by decide), if_neg (by decide), turn_at _ (by rw [mk_size, dig_length]; omega) _ (by rw [mk_size, dig_length]; omega)]
      simp only [Option.bind_some]
      rw [B_mk (dig_bt i v)]
  | succ d ih =>
    intro i k buf hi hd hk hl hb
    obtain ⟨k, rfl⟩ : ∃ m, k = m + 1 := ⟨k - 1, by omega⟩
    simp only [words_Put.l0]
    have e0 : wrap64 (8 * (i : Int)) = ((8 * i : Nat) : Int) := by rw [wrap64_in (by omega) (by omega)]; omega
    have e1 : wrap64 ((n : Int) - 1) = (n : Int) - 1 := wrap64_in (by omega) (by omega)
    have e2 : wrap64 ((n : Int) - 1 - (i : Int)) = (n : Int) - 1 - (i : Int) := wrap64_in (by omega) (by omega)
    have e3 : wrap64 ((i : Int) + 1) = ((i + 1 : Nat) : Int) := by rw [wrap64_in (by omega) (by omega)]; omega
    rw [e0, e1, e2, e3, shr8 v i (by omega)]
    rw [if_pos (by omega), if_pos (by omega), if_pos (by omega), if_pos (by omega)]
    have e4 : ((n : Int) - 1 - (i : Int)).toNat = n - 1 - i := by omega
    rw [e4]
    apply ih (i + 1) k _ (by omega) (by omega) (by omega) (by rw [List.length_set]; exact hl)
    intro j hj
    rw [List.getD_eq_getElem?_getD, List.getElem?_set]
    by_cases hji : j = i
    · subst hji
      rw [if_pos rfl, if_pos (by omega)]
      simp
    · rw [if_neg (by omega), ← List.getD_eq_getElem?_getD]
      exact hb j (by omega)
/-- The n bytes of a number. -/
def putS (v : Nat) (n : Int) (big : Bool) : List Nat × Int :=
  if 1 ≤ n ∧ n ≤ 8 ∧ v < 256 ^ n.toNat then ((if big then dig n.toNat v else (dig n.toNat v).reverse), 0) else ([], 1)
theorem put (v : Nat) (hv : v < 18446744073709551616) (n : Int) (big : Bool) :
    Ev (fun k => words_Put.f k (v : Int) n big) (mk (putS v n big).1, (putS v n big).2) := by
  refine ⟨30, fun k hk => ?_⟩
  show words_Put.f k (v : Int) n big = _
  unfold words_Put.f putS
  rw [may v hv]
  simp only [Option.bind_some]
  by_cases h : 1 ≤ n ∧ n ≤ 8 ∧ v < 256 ^ n.toNat
  · rw [decide_eq_true h, if_pos rfl, if_pos h, if_pos (by omega), if_pos (by omega)]
    obtain ⟨m, rfl⟩ := Int.eq_ofNat_of_zero_le (show 0 ≤ n by omega)
    simp only [Int.toNat_natCast]
    exact put_loop v m (by omega) big m 0 k _ (by omega) (by omega) (by omega) (by simp) (fun j hj => by omega)
  · rw [decide_eq_false h, if_neg (by decide), if_neg h]; rfl
theorem putS_bt (v : Nat) (n : Int) (big : Bool) : Bt (putS v n big).1 := by
  unfold putS
  split
  · cases big
    · exact (dig_bt _ _).reverse
    · exact dig_bt _ _
  · exact Bt.nil
theorem putS_len {v : Nat} {n : Int} {big : Bool} (h : (putS v n big).2 = 0) : ((putS v n big).1.length : Int) = n ∧ 1 ≤ n ∧ n ≤ 8 ∧ v < 256 ^ n.toNat := by
  unfold putS at *
  split
  · rename_i h'
    cases big <;> simp [dig_length] <;> omega
  · rename_i h'
    rw [if_neg h'] at h
    exact absurd h (by decide)
/-! Places of a ring. -/
def checkS (at' size : Int) : Int := if size < 1 ∨ size > 32768 then 130 else if at' < 0 ∨ at' ≥ size then 1 else 0
def okS (at' size : Int) : Prop := 1 ≤ size ∧ size ≤ 32768 ∧ 0 ≤ at' ∧ at' < size
theorem checkS_ok {a s : Int} (h : okS a s) : checkS a s = 0 := by
  obtain ⟨h1, h2, h3, h4⟩ := h
  unfold checkS; rw [if_neg (by omega), if_neg (by omega)]
theorem okS_of {a s : Int} (h : checkS a s = 0) : okS a s := by
  unfold checkS at h; unfold okS
  split at h
  · exact absurd h (by decide)
  · split at h
    · exact absurd h (by decide)
    · omega
def stepS (at' : Int) (w : Bool) (n size : Int) : Int × Bool := if at' + n ≥ size then (at' + n - size, !w) else (at' + n, w)
def nextS (at' : Int) (w : Bool) (n size : Int) : Int × Bool × Int :=
  if checkS at' size = 0 then (if n < 0 ∨ n > size then (0, false, 1) else ((stepS at' w n size).1, (stepS at' w n size).2, 0)) else (0, false, checkS at' size)
def gap0 (a1 : Int) (w1 : Bool) (a2 : Int) (w2 : Bool) (size : Int) : Int :=
  if (w1 != w2) = true then a2 - a1 + size else if a2 - a1 < 0 then a2 - a1 + 2 * size else a2 - a1
def gapS (a1 : Int) (w1 : Bool) (a2 : Int) (w2 : Bool) (size : Int) : Int × Int :=
  if checkS a1 size = 0 then (if checkS a2 size = 0 then (gap0 a1 w1 a2 w2 size, 0) else (0, checkS a2 size)) else (0, checkS a1 size)
theorem check (at' : Int) (w : Bool) (size : Int) (k : Nat) (hk : 1 ≤ k) : spot_Check.f k at' w size = some (checkS at' size) := by
  obtain ⟨k, rfl⟩ : ∃ m, k = m + 1 := ⟨k - 1, by omega⟩
  unfold spot_Check.f checkS
  by_cases h1 : size < 1
  · have hA : size < 1 ∨ size > 32768 := .inl h1
    rw [if_pos h1, if_pos hA]
    simp only [spot_Check.j0, if_true]
  · by_cases h2 : size > 32768
    · have hA : size < 1 ∨ size > 32768 := .inr h2
      rw [if_neg h1, if_pos hA, decide_eq_true h2]
      simp only [spot_Check.j0, if_true]
    · have hA : ¬ (size < 1 ∨ size > 32768) := by omega
      rw [if_neg h1, if_neg hA, decide_eq_false h2]
      simp only [spot_Check.j0]
      rw [if_neg (by decide)]
      by_cases h3 : at' < 0
      · have hB : at' < 0 ∨ at' ≥ size := .inl h3
        rw [if_pos h3, if_pos hB]
      · rw [if_neg h3]
        by_cases h4 : at' ≥ size
        · have hB : at' < 0 ∨ at' ≥ size := .inr h4
          rw [if_pos h4, if_pos hB]
        · have hB : ¬ (at' < 0 ∨ at' ≥ size) := by omega
          rw [if_neg h4, if_neg hB]
theorem next (at' : Int) (w : Bool) (n size : Int) (k : Nat) (hk : 1 ≤ k) : spot_Next.f k at' w n size = some (nextS at' w n size) := by
  unfold spot_Next.f nextS
  rw [check _ _ _ _ hk]
  obtain ⟨k, rfl⟩ : ∃ m, k = m + 1 := ⟨k - 1, by omega⟩
  simp only [Option.bind_some]
  by_cases hc : checkS at' size = 0
  · obtain ⟨c1, c2, c3, c4⟩ := okS_of hc
    rw [if_pos hc, if_pos hc]
    by_cases h1 : n < 0
    · have hA : n < 0 ∨ n > size := .inl h1
      rw [if_pos h1, if_pos hA]
      simp only [spot_Next.j0, if_true]
    · by_cases h2 : n > size
      · have hA : n < 0 ∨ n > size := .inr h2
        rw [if_neg h1, if_pos hA, decide_eq_true h2]
        simp only [spot_Next.j0, if_true]
      · have hR : ¬ (n < 0 ∨ n > size) := by omega
        rw [if_neg h1, decide_eq_false h2]
        simp only [spot_Next.j0]
        rw [if_neg (by decide), if_neg hR]
        unfold stepS
        rw [w64 (at' + n) (at' + n) rfl (by omega) (by omega)]
        by_cases h3 : at' + n ≥ size
        · simp only [if_pos h3]
          rw [w64 (at' + n - size) (at' + n - size) rfl (by omega) (by omega)]
        · simp only [if_neg h3]
  · rw [if_neg hc, if_neg hc]
theorem gap (a1 : Int) (w1 : Bool) (a2 : Int) (w2 : Bool) (size : Int) (k : Nat) (hk : 4 ≤ k) : spot_Gap.f k a1 w1 a2 w2 size = some (gapS a1 w1 a2 w2 size) := by
  unfold spot_Gap.f gapS
  simp only [Option.bind_some]
  obtain ⟨k, rfl⟩ : ∃ m, k = m + 3 := ⟨k - 3, by omega⟩
  have e0 : rd_T25 [(⟨a1, w1⟩ : S25), (⟨a2, w2⟩ : S25)] 0 = ⟨a1, w1⟩ := rfl
  have e1 : rd_T25 [(⟨a1, w1⟩ : S25), (⟨a2, w2⟩ : S25)] 1 = ⟨a2, w2⟩ := rfl
  have l0 : ((([(⟨a1, w1⟩ : S25), (⟨a2, w2⟩ : S25)] : List S25).length : Nat) : Int) = 2 := rfl
  rw [show spot_Gap.l0 (k + 3) = spot_Gap.l0 ((k + 2) + 1) from rfl]
  simp only [spot_Gap.l0, l0, e0]
  rw [if_pos (by decide), if_pos (by decide), if_pos (by decide), check _ _ _ _ (by omega)]
  simp only [Option.bind_some]
  by_cases hc : checkS a1 size = 0
  · rw [if_pos hc, if_pos hc]
    rw [w64 (0 + 1) 1 rfl (by omega) (by omega)]
    simp only [e1]
    rw [if_pos (by decide), if_pos (by decide), if_pos (by decide), check _ _ _ _ (by omega)]
    simp only [Option.bind_some]
    by_cases hc2 : checkS a2 size = 0
    · rw [if_pos hc2, if_pos hc2]
      rw [w64 (1 + 1) 2 rfl (by omega) (by omega)]
      rw [if_neg (by decide)]
      obtain ⟨c1, c2, c3, c4⟩ := okS_of hc
      obtain ⟨d1, d2, d3, d4⟩ := okS_of hc2
      unfold gap0
      rw [w64 (a2 - a1) (a2 - a1) rfl (by omega) (by omega), w64 (a2 - a1 + size) (a2 - a1 + size) rfl (by omega) (by omega), w64 (2 * size) (2 * size) rfl (by omega) (by omega)]
      by_cases hw : (w1 != w2) = true
      · rw [if_pos hw, if_pos hw, if_neg (by omega)]
      · rw [if_neg hw, if_neg hw]
        by_cases hn : a2 - a1 < 0
        · rw [if_pos hn, if_pos hn, w64 (a2 - a1 + 2 * size) (a2 - a1 + 2 * size) rfl (by omega) (by omega)]
        · rw [if_neg hn, if_neg hn]
    · rw [if_neg hc2, if_neg hc2]
  · rw [if_neg hc, if_neg hc]
/-- Is a step to be told? -/
def needS (off : Int) (ew : Bool) (flags a1 : Int) (w1 : Bool) (a2 : Int) (w2 : Bool) (size : Int) : Bool :=
  if (gapS a1 w1 a2 w2 size).2 = 0 ∧ (gapS a1 w1 a2 w2 size).1 ≤ size then
    (if flags = 0 then (!(a1 == a2) || (!(w1 == w2))) else if flags = 2 then (decide ((gapS a1 w1 off ew size).2 = 0) && decide ((gapS a1 w1 off ew size).1 < (gapS a1 w1 a2 w2 size).1)) else false)
  else false
theorem need (off : Int) (ew : Bool) (flags a1 : Int) (w1 : Bool) (a2 : Int) (w2 : Bool) (size : Int) (k : Nat) (hk : 5 ≤ k) :
    spot_Need.f k off ew flags a1 w1 a2 w2 size = some (needS off ew flags a1 w1 a2 w2 size) := by
  unfold spot_Need.f needS
  rw [gap _ _ _ _ _ _ (by omega)]
  obtain ⟨k, rfl⟩ : ∃ m, k = m + 1 := ⟨k - 1, by omega⟩
  simp only [Option.bind_some]
  by_cases h1 : (gapS a1 w1 a2 w2 size).2 = 0
  · rw [if_pos h1]
    by_cases h2 : (gapS a1 w1 a2 w2 size).1 > size
    · rw [decide_eq_true h2, if_neg (by omega)]
      simp only [spot_Need.j0, if_true]
    · rw [decide_eq_false h2, if_pos ⟨h1, by omega⟩]
      simp only [spot_Need.j0]
      rw [if_neg (by decide)]
      by_cases h3 : flags = 0
      · rw [if_pos h3, if_pos h3]
      · rw [if_neg h3, if_neg h3]
        by_cases h4 : flags = 2
        · rw [if_pos h4, if_pos h4, gap _ _ _ _ _ _ (by omega)]
          simp only [Option.bind_some]
          by_cases h5 : (gapS a1 w1 off ew size).2 = 0
          · rw [if_pos h5, decide_eq_true h5]; simp
          · rw [if_neg h5, decide_eq_false h5]; simp
        · rw [if_neg h4, if_neg h4]
  · rw [if_neg h1, if_neg (fun h => h1 h.1)]
    simp only [spot_Need.j0, if_true]
/-! The document's places of a ring. -/
theorem rcheck (at' : Int) (w : Bool) (size : Int) (k : Nat) (hk : 1 ≤ k) : aqueductref13_Check.f k at' w size = some (checkS at' size) := by
  obtain ⟨k, rfl⟩ : ∃ m, k = m + 1 := ⟨k - 1, by omega⟩
  unfold aqueductref13_Check.f checkS
  by_cases h1 : size < 1
  · have hA : size < 1 ∨ size > 32768 := .inl h1
    rw [if_pos h1, if_pos hA]
    simp only [aqueductref13_Check.j0, if_true]
  · by_cases h2 : size > 32768
    · have hA : size < 1 ∨ size > 32768 := .inr h2
      rw [if_neg h1, if_pos hA, decide_eq_true h2]
      simp only [aqueductref13_Check.j0, if_true]
    · have hA : ¬ (size < 1 ∨ size > 32768) := by omega
      rw [if_neg h1, if_neg hA, decide_eq_false h2]
      simp only [aqueductref13_Check.j0]
      rw [if_neg (by decide), w64 (size - 1) (size - 1) rfl (by omega) (by omega)]
      by_cases h3 : at' < 0
      · have hB : at' < 0 ∨ at' ≥ size := .inl h3
        rw [if_pos h3, if_pos hB]
      · rw [if_neg h3]
        by_cases h4 : at' > size - 1
        · have hB : at' < 0 ∨ at' ≥ size := .inr (by omega)
          rw [if_pos h4, if_pos hB]
        · have hB : ¬ (at' < 0 ∨ at' ≥ size) := by omega
          rw [if_neg h4, if_neg hB]
theorem rone {at' size : Int} (w : Bool) (h : okS at' size) : aqueductref13_one.f at' w size = some (stepS at' w 1 size) := by
  obtain ⟨h1, h2, h3, h4⟩ := h
  unfold aqueductref13_one.f stepS
  rw [w64 (size - 1) (size - 1) rfl (by omega) (by omega), w64 (at' + 1) (at' + 1) rfl (by omega) (by omega)]
  by_cases h5 : at' = size - 1
  · rw [if_pos h5, if_pos (by omega), show at' + 1 - size = 0 from by omega]
  · rw [if_neg h5, if_neg (by omega)]
theorem step_ok {at' n size : Int} (w : Bool) (h : okS at' size) (h0 : 0 ≤ n) (hn : n ≤ size) : okS (stepS at' w n size).1 size := by
  obtain ⟨h1, h2, h3, h4⟩ := h
  unfold stepS okS
  split <;> simp only <;> omega
theorem step_zero {at' size : Int} (w : Bool) (h : okS at' size) : stepS at' w 0 size = (at', w) := by
  obtain ⟨h1, h2, h3, h4⟩ := h
  unfold stepS; rw [if_neg (by omega)]; simp
theorem step_succ {at' n size : Int} (w : Bool) (h : okS at' size) (h0 : 0 ≤ n) (hn : n < size) :
    stepS (stepS at' w n size).1 (stepS at' w n size).2 1 size = stepS at' w (n + 1) size := by
  obtain ⟨h1, h2, h3, h4⟩ := h
  unfold stepS
  by_cases a : at' + n ≥ size
  · simp only [if_pos a]
    rw [if_neg (by omega), if_pos (by omega)]
    congr 1; omega
  · simp only [if_neg a]
    by_cases b : at' + n + 1 ≥ size
    · rw [if_pos b, if_pos (by omega)]; congr 1; omega
    · rw [if_neg b, if_neg (by omega)]; congr 1; omega
theorem rnext_loop (at' : Int) (w : Bool) (n : Nat) (size : Int) (h : okS at' size) (hn : (n : Int) ≤ size) : ∀ (d i k : Nat), i ≤ n → n - i = d → d < k →
    aqueductref13_Next.l0 k (n : Int) size (i : Int) (stepS at' w (i : Int) size).1 (stepS at' w (i : Int) size).2 = some ((stepS at' w (n : Int) size).1, (stepS at' w (n : Int) size).2, 0) := by
  have hs := h
  obtain ⟨h1, h2, h3, h4⟩ := hs
  intro d
  induction d with
  | zero =>
    intro i k hi hd hk
    obtain ⟨k, rfl⟩ : ∃ m, k = m + 1 := ⟨k - 1, by omega⟩
    obtain rfl : i = n := by omega
    simp only [aqueductref13_Next.l0]
    rw [if_neg (by omega)]
  | succ d ih =>
    intro i k hi hd hk
    obtain ⟨k, rfl⟩ : ∃ m, k = m + 1 := ⟨k - 1, by omega⟩
    simp only [aqueductref13_Next.l0]
    rw [if_pos (by omega), rone _ (step_ok w h (by omega) (by omega)), step_succ w h (by omega) (by omega)]
    simp only [Option.bind_some]
    rw [w64 ((i : Int) + 1) ((i + 1 : Nat) : Int) (by omega) (by omega) (by omega), show ((i : Int) + 1) = ((i + 1 : Nat) : Int) from by omega]
    exact ih (i + 1) k (by omega) (by omega) (by omega)
theorem rnext (at' : Int) (w : Bool) (n size : Int) (k : Nat) (hk : 40000 ≤ k) : aqueductref13_Next.f k at' w n size = some (nextS at' w n size) := by
  unfold aqueductref13_Next.f nextS
  rw [rcheck _ _ _ _ (by omega)]
  obtain ⟨k, rfl⟩ : ∃ m, k = m + 1 := ⟨k - 1, by omega⟩
  simp only [Option.bind_some]
  by_cases hc : checkS at' size = 0
  · have ho := okS_of hc
    have ho' := ho
    obtain ⟨c1, c2, c3, c4⟩ := ho'
    rw [if_pos hc, if_pos hc]
    by_cases h1 : n < 0
    · have hA : n < 0 ∨ n > size := .inl h1
      rw [if_pos h1, if_pos hA]
      simp only [aqueductref13_Next.j0, if_true]
    · by_cases h2 : n > size
      · have hA : n < 0 ∨ n > size := .inr h2
        rw [if_neg h1, if_pos hA, decide_eq_true h2]
        simp only [aqueductref13_Next.j0, if_true]
      · have hR : ¬ (n < 0 ∨ n > size) := by omega
        rw [if_neg h1, decide_eq_false h2]
        simp only [aqueductref13_Next.j0]
        rw [if_neg (by decide), if_neg hR]
        obtain ⟨m, rfl⟩ := Int.eq_ofNat_of_zero_le (show 0 ≤ n by omega)
        have := rnext_loop at' w m size ho (by omega) m 0 k (by omega) (by omega) (by omega)
        rw [show ((0 : Nat) : Int) = 0 from rfl, step_zero w ho] at this
        exact this
  · rw [if_neg hc, if_neg hc]
theorem gap0_bd {a1 a2 size : Int} (w1 w2 : Bool) (h1 : okS a1 size) (h2 : okS a2 size) : 0 ≤ gap0 a1 w1 a2 w2 size ∧ gap0 a1 w1 a2 w2 size < 2 * size := by
  obtain ⟨p1, p2, p3, p4⟩ := h1
  obtain ⟨q1, q2, q3, q4⟩ := h2
  unfold gap0
  split
  · omega
  · split <;> omega
theorem gap0_zero {a1 a2 size : Int} {w1 w2 : Bool} (h1 : okS a1 size) (h2 : okS a2 size) : gap0 a1 w1 a2 w2 size = 0 ↔ a1 = a2 ∧ w1 = w2 := by
  obtain ⟨p1, p2, p3, p4⟩ := h1
  obtain ⟨q1, q2, q3, q4⟩ := h2
  unfold gap0
  cases w1 <;> cases w2 <;> simp <;> (try split) <;> omega
/-- A step forward is one less to go. -/
theorem gap0_step {a1 a2 size n : Int} {w1 w2 : Bool} (h1 : okS a1 size) (h2 : okS a2 size) (h0 : 0 ≤ n) (hn : n ≤ size) (hg : n ≤ gap0 a1 w1 a2 w2 size) :
    gap0 (stepS a1 w1 n size).1 (stepS a1 w1 n size).2 a2 w2 size = gap0 a1 w1 a2 w2 size - n := by
  obtain ⟨p1, p2, p3, p4⟩ := h1
  obtain ⟨q1, q2, q3, q4⟩ := h2
  unfold gap0 stepS at *
  by_cases c : a1 + n ≥ size
  · simp only [if_pos c]
    cases w1 <;> cases w2 <;> simp at * <;> (repeat' split) <;> (try split at hg) <;> omega
  · simp only [if_neg c]
    cases w1 <;> cases w2 <;> simp at * <;> (repeat' split) <;> (try split at hg) <;> omega
/-- A step past it is nearly all to go. -/
theorem gap0_past {a1 a2 size n : Int} {w1 w2 : Bool} (h1 : okS a1 size) (h2 : okS a2 size) (h0 : 0 ≤ n) (hn : n ≤ size) (hg : gap0 a1 w1 a2 w2 size < n) :
    gap0 (stepS a1 w1 n size).1 (stepS a1 w1 n size).2 a2 w2 size = gap0 a1 w1 a2 w2 size - n + 2 * size := by
  obtain ⟨p1, p2, p3, p4⟩ := h1
  obtain ⟨q1, q2, q3, q4⟩ := h2
  unfold gap0 stepS at *
  by_cases c : a1 + n ≥ size
  · simp only [if_pos c]
    cases w1 <;> cases w2 <;> simp at * <;> (repeat' split) <;> (try split at hg) <;> omega
  · simp only [if_neg c]
    cases w1 <;> cases w2 <;> simp at * <;> (repeat' split) <;> (try split at hg) <;> omega
/-- From a place to where n steps lead. -/
theorem gap0_to {a size n : Int} (w : Bool) (h : okS a size) (h0 : 0 ≤ n) (hn : n ≤ size) : gap0 a w (stepS a w n size).1 (stepS a w n size).2 size = n := by
  obtain ⟨p1, p2, p3, p4⟩ := h
  unfold gap0 stepS
  by_cases c : a + n ≥ size
  · simp only [if_pos c]
    cases w <;> simp <;> (repeat' split) <;> omega
  · simp only [if_neg c]
    cases w <;> simp <;> (repeat' split) <;> omega
theorem rgap_loop (a2 : Int) (w2 : Bool) (size : Int) (h2 : okS a2 size) : ∀ (d : Nat) (a1 : Int) (w1 : Bool) (i k : Nat), okS a1 size → gap0 a1 w1 a2 w2 size = (d : Int) → i + d ≤ 65536 → d < k →
    aqueductref13_Gap.l0 k size (i : Int) a1 w1 a2 w2 = some (((i + d : Nat) : Int), 0) := by
  intro d
  induction d with
  | zero =>
    intro a1 w1 i k h1 hd hi hk
    obtain ⟨k, rfl⟩ : ∃ m, k = m + 1 := ⟨k - 1, by omega⟩
    obtain ⟨rfl, rfl⟩ := (gap0_zero h1 h2).1 hd
    simp only [aqueductref13_Gap.l0]
    rw [if_neg (by simp)]; rfl
  | succ d ih =>
    intro a1 w1 i k h1 hd hi hk
    obtain ⟨k, rfl⟩ : ∃ m, k = m + 1 := ⟨k - 1, by omega⟩
    have hne : ¬ (a1 = a2 ∧ w1 = w2) := fun h => by rw [(gap0_zero h1 h2).2 h] at hd; omega
    have ho := h1
    obtain ⟨c1, c2, c3, c4⟩ := ho
    simp only [aqueductref13_Gap.l0]
    rw [if_pos (by
      by_cases e1 : a1 = a2
      · by_cases e2 : w1 = w2
        · exact absurd ⟨e1, e2⟩ hne
        · simp [e2]
      · simp [e1]), rone _ h1]
    simp only [Option.bind_some]
    rw [w64 ((i : Int) + 1) ((i + 1 : Nat) : Int) (by omega) (by omega) (by omega)]
    have := ih (stepS a1 w1 1 size).1 (stepS a1 w1 1 size).2 (i + 1) k (step_ok w1 h1 (by omega) (by omega)) (by rw [gap0_step h1 h2 (by omega) (by omega) (by omega), hd]; omega) (by omega) (by omega)
    rw [this]
    congr 2
    omega
theorem rgap (a1 : Int) (w1 : Bool) (a2 : Int) (w2 : Bool) (size : Int) (k : Nat) (hk : 70000 ≤ k) : aqueductref13_Gap.f k a1 w1 a2 w2 size = some (gapS a1 w1 a2 w2 size) := by
  unfold aqueductref13_Gap.f gapS
  rw [rcheck _ _ _ _ (by omega)]
  simp only [Option.bind_some]
  by_cases hc : checkS a1 size = 0
  · rw [if_pos hc, if_pos hc, rcheck _ _ _ _ (by omega)]
    simp only [Option.bind_some]
    by_cases hc2 : checkS a2 size = 0
    · rw [if_pos hc2, if_pos hc2]
      have h1 := okS_of hc
      have h2 := okS_of hc2
      obtain ⟨b1, b2⟩ := gap0_bd w1 w2 h1 h2
      obtain ⟨d, hd⟩ := Int.eq_ofNat_of_zero_le b1
      have hs := h1
      obtain ⟨c1, c2, c3, c4⟩ := hs
      have := rgap_loop a2 w2 size h2 d a1 w1 0 k h1 hd (by omega) (by omega)
      rw [show ((0 : Nat) : Int) = 0 from rfl] at this
      rw [this, hd]
      congr 2
      omega
    · rw [if_neg hc2, if_neg hc2]
  · rw [if_neg hc, if_neg hc]
theorem rneed_loop (off : Int) (ew : Bool) (flags size : Int) (n : Nat) (hn : n ≤ 32768) : ∀ (d i : Nat) (a : Int) (w : Bool) (k : Nat), okS a size → n = i + d → d < k →
    aqueductref13_Need.l0 k size (n : Int) (i : Int) off ew flags a w = some (decide (flags = 2) && decide (checkS off size = 0) && decide (gap0 a w off ew size < (d : Int))) := by
  intro d
  induction d with
  | zero =>
    intro i a w k h hd hk
    obtain ⟨k, rfl⟩ : ∃ m, k = m + 1 := ⟨k - 1, by omega⟩
    simp only [aqueductref13_Need.l0]
    rw [if_neg (by omega)]
    by_cases hc : checkS off size = 0
    · have := (gap0_bd w ew h (okS_of hc)).1
      rw [decide_eq_false (p := gap0 a w off ew size < ((0 : Nat) : Int)) (by omega)]; simp
    · rw [decide_eq_false hc]; simp
  | succ d ih =>
    intro i a w k h hd hk
    obtain ⟨k, rfl⟩ : ∃ m, k = m + 1 := ⟨k - 1, by omega⟩
    have ho := h
    obtain ⟨c1, c2, c3, c4⟩ := ho
    simp only [aqueductref13_Need.l0]
    rw [if_pos (by omega), rone _ h]
    simp only [Option.bind_some]
    rw [w64 ((i : Int) + 1) ((i + 1 : Nat) : Int) (by omega) (by omega) (by omega)]
    rw [ih (i + 1) _ _ k (step_ok w h (by omega) (by omega)) (by omega) (by omega)]
    by_cases hf : flags = 2
    · rw [if_pos hf, decide_eq_true hf]
      by_cases ha : a = off
      · rw [if_pos ha]
        subst ha
        have hc := checkS_ok h
        by_cases hw : w = ew
        · subst hw
          rw [if_pos (by simp), (gap0_zero h h).2 ⟨rfl, rfl⟩, decide_eq_true hc, decide_eq_true (p := (0 : Int) < ((d + 1 : Nat) : Int)) (by omega)]; rfl
        · rw [if_neg (by simpa using hw), decide_eq_true hc]
          have hz : gap0 a w a ew size ≠ 0 := fun hz => hw ((gap0_zero h h).1 hz).2
          have hb := (gap0_bd w ew h h).1
          rw [gap0_step h h (by omega) (by omega) (by omega)]
          congr 2
          rw [decide_eq_decide]; omega
      · rw [if_neg ha]
        by_cases hc : checkS off size = 0
        · have h2 := okS_of hc
          have hz : gap0 a w off ew size ≠ 0 := fun hz => ha ((gap0_zero h h2).1 hz).1
          have hb := (gap0_bd w ew h h2).1
          rw [gap0_step h h2 (by omega) (by omega) (by omega), decide_eq_true hc]
          congr 2
          rw [decide_eq_decide]; omega
        · rw [decide_eq_false hc]; simp
    · rw [if_neg hf, decide_eq_false hf]; simp
theorem rneed (off : Int) (ew : Bool) (flags a1 : Int) (w1 : Bool) (a2 : Int) (w2 : Bool) (size : Int) (k : Nat) (hk : 70001 ≤ k) :
    aqueductref13_Need.f k off ew flags a1 w1 a2 w2 size = some (needS off ew flags a1 w1 a2 w2 size) := by
  unfold aqueductref13_Need.f needS
  rw [rgap _ _ _ _ _ _ (by omega)]
  obtain ⟨k, rfl⟩ : ∃ m, k = m + 1 := ⟨k - 1, by omega⟩
  simp only [Option.bind_some]
  by_cases h1 : (gapS a1 w1 a2 w2 size).2 = 0
  · rw [if_pos h1]
    obtain ⟨o1, o2, hg⟩ : okS a1 size ∧ okS a2 size ∧ gapS a1 w1 a2 w2 size = (gap0 a1 w1 a2 w2 size, 0) := by
      unfold gapS at h1 ⊢
      by_cases hc : checkS a1 size = 0
      · rw [if_pos hc] at h1 ⊢
        by_cases hc2 : checkS a2 size = 0
        · rw [if_pos hc2]; exact ⟨okS_of hc, okS_of hc2, rfl⟩
        · rw [if_neg hc2] at h1; exact absurd h1 hc2
      · rw [if_neg hc] at h1; exact absurd h1 hc
    obtain ⟨b1, b2⟩ := gap0_bd w1 w2 o1 o2
    have os := o1
    obtain ⟨c1, c2, c3, c4⟩ := os
    rw [hg]
    simp only
    by_cases h2 : gap0 a1 w1 a2 w2 size > size
    · rw [decide_eq_true h2, if_neg (by omega)]
      simp only [aqueductref13_Need.j0, if_true]
    · rw [decide_eq_false h2, if_pos ⟨trivial, by omega⟩]
      simp only [aqueductref13_Need.j0]
      rw [if_neg (by decide)]
      by_cases h3 : flags = 0
      · rw [if_pos h3, if_pos h3]
        congr 1
        rw [Bool.eq_iff_iff]
        have hz := gap0_zero (w1 := w1) (w2 := w2) o1 o2
        simp only [decide_eq_true_eq, Bool.or_eq_true, Bool.not_eq_true', beq_eq_false_iff_ne]
        constructor
        · intro hp
          by_cases e1 : a1 = a2
          · by_cases e2 : w1 = w2
            · have := hz.2 ⟨e1, e2⟩; omega
            · exact .inr e2
          · exact .inl e1
        · intro hp
          have : gap0 a1 w1 a2 w2 size ≠ 0 := fun h => by
            obtain ⟨e1, e2⟩ := hz.1 h
            rcases hp with hp | hp
            · exact hp e1
            · exact hp e2
          omega
      · rw [if_neg h3, if_neg h3]
        obtain ⟨n, hn⟩ := Int.eq_ofNat_of_zero_le b1
        have := rneed_loop off ew flags size n (by omega) n 0 a1 w1 k o1 (by omega) (by omega)
        rw [show ((0 : Nat) : Int) = 0 from rfl] at this
        rw [hn, this]
        congr 1
        by_cases h4 : flags = 2
        · rw [if_pos h4, decide_eq_true h4]
          simp only [Bool.true_and]
          unfold gapS
          rw [if_pos (checkS_ok o1)]
          by_cases hc : checkS off size = 0
          · rw [if_pos hc, decide_eq_true hc]; simp
          · rw [if_neg hc, decide_eq_false hc]; simp [hc]
        · rw [if_neg h4, decide_eq_false h4]; simp
  · rw [if_neg h1, if_neg (fun h => h1 h.1)]
    simp only [aqueductref13_Need.j0, if_true]
/-! Events. -/
def two (l : List Nat) (a : Nat) : Nat := l.getD a 0 + 256 * l.getD (a + 1) 0
def parseS (l : List Nat) : Int × Bool × Int × Int :=
  if l.length = 4 then (((two l 0 % 32768 : Nat) : Int), decide (32768 ≤ two l 0), ((two l 2 : Nat) : Int), 0) else (0, false, 0, 1)
theorem two_lt {l : List Nat} (h : Bt l) (a : Nat) : two l a < 65536 := by
  have h1 := getD_lt h a
  have h2 := getD_lt h (a + 1)
  unfold two; omega
theorem val_rev2 {l : List Nat} {a : Nat} (h : a + 2 ≤ l.length) : val ((l.drop a).take 2).reverse = two l a := by
  have e : (l.drop a).take 2 = [l.getD a 0, l.getD (a + 1) 0] := by
    apply List.ext_getElem
    · rw [List.length_take, List.length_drop]; simp; omega
    · intro i h1 h2
      rw [List.getElem_take, List.getElem_drop]
      match i, h2 with
      | 0, _ => simp [List.getD_eq_getElem?_getD, List.getElem?_eq_getElem (show a < l.length by omega)]
      | 1, _ => simp [List.getD_eq_getElem?_getD, List.getElem?_eq_getElem (show a + 1 < l.length by omega)]
  rw [e]
  unfold two val
  simp
  omega
theorem get2 (s : ByteArray) (hs : s.size ≤ 281474976710656) (a : Nat) (h : a + 2 ≤ s.size) : ∃ K, ∀ k, K ≤ k → words_Get.f k s (a : Int) 2 false = some (((two (B s) a : Nat) : Int), 0) := by
  obtain ⟨K, e⟩ := get s hs (a : Int) 2 false
  refine ⟨K, fun k hk => ?_⟩
  have e := e k hk
  have : getS (B s) (a : Int) 2 false = (two (B s) a, 0) := by
    have hl := B_length s
    unfold getS
    rw [if_neg (by omega), if_neg (by omega)]
    simp only [Int.toNat_natCast]
    rw [if_neg (by decide), show (2 : Int).toNat = 2 from rfl, val_rev2 (by omega)]
  rw [this] at e
  exact e
theorem and_15 (x : Nat) (h : x < 65536) : (Go.bits .and .u64 (x : Int) 32768 != 0) = decide (32768 ≤ x) := by
  have := (bits_nat .u64 64 (by decide) wraps_u64 x (2 ^ 15) (by omega) (by decide)).1
  rw [show (((2 : Nat) ^ 15 : Nat) : Int) = 32768 from rfl] at this
  rw [this, nat_and_bit, Bool.eq_iff_iff]
  simp only [bne_iff_ne, ne_eq, decide_eq_true_eq]
  omega
theorem andNot_15 (x : Nat) (h : x < 65536) : Go.bits .andNot .i64 (x : Int) 32768 = ((x % 32768 : Nat) : Int) := by
  have := andNot_i64 x (2 ^ 15) (by omega) (by decide)
  rw [show (((2 : Nat) ^ 15 : Nat) : Int) = 32768 from rfl] at this
  rw [this, nat_and_bit]
  omega
theorem or_15 (x : Nat) (h : x < 32768) : Go.bits .or .i64 (x : Int) 32768 = ((x + 32768 : Nat) : Int) := by
  have := (bits_nat_i64 x (2 ^ 15) (by omega) (by decide)).2
  rw [show (((2 : Nat) ^ 15 : Nat) : Int) = 32768 from rfl] at this
  rw [this, nat_or_bit x 15 (by omega) (by omega) (by decide)]
theorem parse (s : ByteArray) (hs : s.size ≤ 281474976710656) : ∃ K, ∀ k, K ≤ k → spot_Parse.f k s = some (parseS (B s)) := by
  by_cases h : s.size = 4
  · obtain ⟨K1, e1⟩ := get2 s hs 0 (by omega)
    obtain ⟨K2, e2⟩ := get2 s hs 2 (by omega)
    refine ⟨K1 + K2, fun k hk => ?_⟩
    unfold spot_Parse.f parseS
    have t0 := two_lt (B_bt s) 0
    have t2 := two_lt (B_bt s) 2
    rw [if_pos (by omega), if_pos (by rw [B_length]; exact h)]
    have e1 := e1 k (by omega)
    have e2 := e2 k (by omega)
    rw [show ((0 : Nat) : Int) = 0 from rfl] at e1
    rw [show ((2 : Nat) : Int) = 2 from rfl] at e2
    rw [e1, e2]
    simp only [Option.bind_some]
    rw [w64 ((two (B s) 0 : Nat) : Int) _ rfl (by omega) (by omega), w64 ((two (B s) 2 : Nat) : Int) _ rfl (by omega) (by omega), and_15 _ t0, andNot_15 _ t0]
  · refine ⟨0, fun k _ => ?_⟩
    unfold spot_Parse.f parseS
    rw [if_neg (by omega), if_neg (by rw [B_length]; exact h)]
theorem rparse (s : ByteArray) : aqueductref13_Parse.f s = some (parseS (B s)) := by
  unfold aqueductref13_Parse.f parseS
  by_cases h : s.size = 4
  · have t0 := two_lt (B_bt s) 0
    have t2 := two_lt (B_bt s) 2
    have b0 := getD_lt (B_bt s) 0
    have b1 := getD_lt (B_bt s) 1
    have b2 := getD_lt (B_bt s) 2
    have b3 := getD_lt (B_bt s) 3
    rw [if_pos (by omega), if_pos (by omega), if_pos (by omega), if_pos (by omega), if_pos (by omega), if_pos (by rw [B_length]; exact h)]
    have g0 := bt_eq s 0
    have g1 := bt_eq s 1
    have g2 := bt_eq s 2
    have g3 := bt_eq s 3
    rw [show ((0 : Nat) : Int) = 0 from rfl] at g0
    rw [show ((1 : Nat) : Int) = 1 from rfl] at g1
    rw [show ((2 : Nat) : Int) = 2 from rfl] at g2
    rw [show ((3 : Nat) : Int) = 3 from rfl] at g3
    have e0 : two (B s) 0 = (B s).getD 0 0 + 256 * (B s).getD 1 0 := rfl
    have e2 : two (B s) 2 = (B s).getD 2 0 + 256 * (B s).getD 3 0 := rfl
    rw [g0, g1, g2, g3, e0, e2]
    generalize (B s).getD 0 0 = x0 at *
    generalize (B s).getD 1 0 = x1 at *
    generalize (B s).getD 2 0 = x2 at *
    generalize (B s).getD 3 0 = x3 at *
    clear g0 g1 g2 g3 e0 e2 t0 t2
    rw [w64 (x0 : Int) _ rfl (by omega) (by omega), w64 (x1 : Int) _ rfl (by omega) (by omega), w64 (x2 : Int) _ rfl (by omega) (by omega), w64 (x3 : Int) _ rfl (by omega) (by omega),
      w64 (256 * (x1 : Int)) _ rfl (by omega) (by omega), w64 (256 * (x3 : Int)) _ rfl (by omega) (by omega), w64 ((x0 : Int) + 256 * (x1 : Int)) ((x0 + 256 * x1 : Nat) : Int) (by omega) (by omega) (by omega),
      w64 ((x2 : Int) + 256 * (x3 : Int)) ((x2 + 256 * x3 : Nat) : Int) (by omega) (by omega) (by omega), Int.tmod_eq_emod_of_nonneg (by omega)]
    have d : decide (((x0 + 256 * x1 : Nat) : Int) ≥ 32768) = decide (32768 ≤ x0 + 256 * x1) := by rw [decide_eq_decide]; omega
    rw [d]; rfl
  · rw [if_neg (by omega), if_neg (by rw [B_length]; exact h)]
/-- An event's bytes. -/
def buildS (off : Int) (w : Bool) (flags : Int) : List Nat × Int :=
  if 0 ≤ off ∧ off < 32768 ∧ 0 ≤ flags ∧ flags < 65536 then ((dig 2 (if w then off.toNat + 32768 else off.toNat)).reverse ++ (dig 2 flags.toNat).reverse, 0) else ([], 1)
theorem buildS_bt (off : Int) (w : Bool) (flags : Int) : Bt (buildS off w flags).1 := by
  unfold buildS
  split
  · exact (dig_bt _ _).reverse.append (dig_bt _ _).reverse
  · exact Bt.nil
theorem put2 (v : Nat) (hv : v < 65536) : ∃ K, ∀ k, K ≤ k → words_Put.f k (v : Int) 2 false = some (mk (dig 2 v).reverse, 0) := by
  obtain ⟨K, e⟩ := put v (by omega) 2 false
  refine ⟨K, fun k hk => ?_⟩
  have e := e k hk
  have : putS v 2 false = ((dig 2 v).reverse, 0) := by
    unfold putS
    rw [if_pos ⟨by decide, by decide, by simpa using hv⟩]; rfl
  rw [this] at e
  exact e
theorem put2_no (v : Nat) (hv : v < 18446744073709551616) (h : 65536 ≤ v) : ∃ K, ∀ k, K ≤ k → words_Put.f k (v : Int) 2 false = some ((⟨#[]⟩ : ByteArray), 1) := by
  obtain ⟨K, e⟩ := put v hv 2 false
  refine ⟨K, fun k hk => ?_⟩
  have e := e k hk
  have : putS v 2 false = ([], 1) := by
    unfold putS
    rw [if_neg (by intro h'; have := h'.2.2; simp at this; omega)]
  rw [this] at e
  exact e
theorem build_j1 (x f : Nat) (hx : x < 65536) (hf : f < 9223372036854775808) (a : Int) (b : Bool) : ∃ K, ∀ k, K ≤ k → spot_Build.j1 k (x : Int) a b (f : Int) = some (if f < 65536 then (mk ((dig 2 x).reverse ++ (dig 2 f).reverse), 0) else ((⟨#[]⟩ : ByteArray), 1)) := by
  obtain ⟨K1, e1⟩ := put2 x hx
  by_cases h : f < 65536
  · obtain ⟨K2, e2⟩ := put2 f h
    refine ⟨K1 + K2 + 1, fun k hk => ?_⟩
    obtain ⟨k, rfl⟩ : ∃ m, k = m + 1 := ⟨k - 1, by omega⟩
    simp only [spot_Build.j1]
    rw [wraps_u64 _ (by omega) (by omega), wraps_u64 _ (by omega) (by omega), e1 k (by omega), e2 k (by omega), if_pos h]
    simp only [Option.bind_some, if_true]
    have e : mk (dig 2 x).reverse ++ mk (dig 2 f).reverse = mk ((dig 2 x).reverse ++ (dig 2 f).reverse) := by
      apply B_inj
      rw [B_append, B_mk (dig_bt _ _).reverse, B_mk (dig_bt _ _).reverse, B_mk ((dig_bt _ _).reverse.append (dig_bt _ _).reverse)]
    rw [if_pos (by rw [mk_size, mk_size, List.length_reverse, List.length_reverse, dig_length, dig_length]; decide), e]
  · obtain ⟨K2, e2⟩ := put2_no f (by omega) (by omega)
    refine ⟨K1 + K2 + 1, fun k hk => ?_⟩
    obtain ⟨k, rfl⟩ : ∃ m, k = m + 1 := ⟨k - 1, by omega⟩
    simp only [spot_Build.j1]
    rw [wraps_u64 _ (by omega) (by omega), wraps_u64 _ (by omega) (by omega), e1 k (by omega), e2 k (by omega), if_neg h]
    have d1 : ¬ (1 : Int) = 0 := by decide
    simp only [Option.bind_some, if_neg d1]
theorem build (off : Int) (w : Bool) (flags : Int) (hf : flags ≤ 9223372036854775807) : ∃ K, ∀ k, K ≤ k → spot_Build.f k off w flags = some (mk (buildS off w flags).1, (buildS off w flags).2) := by
  by_cases h1 : off < 0
  · refine ⟨1, fun k hk => ?_⟩
    obtain ⟨k, rfl⟩ : ∃ m, k = m + 1 := ⟨k - 1, by omega⟩
    unfold spot_Build.f buildS
    rw [if_pos h1, if_neg (by omega)]
    simp only [spot_Build.j0, if_true]; rfl
  by_cases h2 : off ≥ 32768
  · refine ⟨1, fun k hk => ?_⟩
    obtain ⟨k, rfl⟩ : ∃ m, k = m + 1 := ⟨k - 1, by omega⟩
    unfold spot_Build.f buildS
    rw [if_neg h1, if_pos h2, if_neg (by omega)]
    simp only [spot_Build.j0, if_true]; rfl
  by_cases h3 : flags < 0
  · refine ⟨1, fun k hk => ?_⟩
    obtain ⟨k, rfl⟩ : ∃ m, k = m + 1 := ⟨k - 1, by omega⟩
    unfold spot_Build.f buildS
    rw [if_neg h1, if_neg h2, decide_eq_true h3, if_neg (by omega)]
    simp only [spot_Build.j0, if_true]; rfl
  obtain ⟨x, rfl⟩ := Int.eq_ofNat_of_zero_le (show 0 ≤ off by omega)
  obtain ⟨f, rfl⟩ := Int.eq_ofNat_of_zero_le (show 0 ≤ flags by omega)
  obtain ⟨K1, e1⟩ := build_j1 (if w then x + 32768 else x) f (by split <;> omega) (by omega) (x : Int) w
  refine ⟨K1 + 1, fun k hk => ?_⟩
  obtain ⟨k, rfl⟩ : ∃ m, k = m + 1 := ⟨k - 1, by omega⟩
  have hR : (if (0 : Int) ≤ (x : Int) ∧ (x : Int) < 32768 ∧ (0 : Int) ≤ (f : Int) ∧ (f : Int) < 65536 then ((dig 2 (if w = true then x + 32768 else x)).reverse ++ (dig 2 f).reverse, (0 : Int)) else ([], 1)) = if f < 65536 then ((dig 2 (if w = true then x + 32768 else x)).reverse ++ (dig 2 f).reverse, 0) else ([], 1) := by
    by_cases h : f < 65536
    · rw [if_pos (by omega), if_pos h]
    · rw [if_neg (by omega), if_neg h]
  unfold spot_Build.f buildS
  simp only [Int.toNat_natCast]
  rw [if_neg h1, if_neg h2, decide_eq_false h3, hR]
  simp only [spot_Build.j0]
  rw [if_neg (by decide)]
  have e1 := e1 k (by omega)
  cases w
  · simp only [Bool.false_eq_true, if_false] at e1 ⊢
    rw [e1]
    by_cases hff : f < 65536
    · rw [if_pos hff, if_pos hff]
    · rw [if_neg hff, if_neg hff]; rfl
  · simp only [if_true] at e1 ⊢
    rw [or_15 x (by omega), e1]
    by_cases hff : f < 65536
    · rw [if_pos hff, if_pos hff]
    · rw [if_neg hff, if_neg hff]; rfl
theorem dig2 (v : Nat) (h : v < 65536) : dig 2 v = [v / 256, v % 256] := by
  simp [dig]; omega
theorem rbuild (off : Int) (w : Bool) (flags : Int) (k : Nat) (hk : 1 ≤ k) : aqueductref13_Build.f k off w flags = some (mk (buildS off w flags).1, (buildS off w flags).2) := by
  obtain ⟨k, rfl⟩ : ∃ m, k = m + 1 := ⟨k - 1, by omega⟩
  unfold aqueductref13_Build.f buildS
  by_cases h1 : off < 0
  · rw [if_pos h1, if_neg (by omega)]
    simp only [aqueductref13_Build.j0, if_true]; rfl
  by_cases h2 : off > 32767
  · rw [if_neg h1, if_pos h2, if_neg (by omega)]
    simp only [aqueductref13_Build.j0, if_true]; rfl
  by_cases h3 : flags < 0
  · rw [if_neg h1, if_neg h2, if_pos h3, if_neg (by omega)]
    simp only [aqueductref13_Build.j0, if_true]; rfl
  by_cases h4 : flags > 65535
  · rw [if_neg h1, if_neg h2, if_neg h3, decide_eq_true h4, if_neg (by omega)]
    simp only [aqueductref13_Build.j0, if_true]; rfl
  have hA : 0 ≤ off ∧ off < 32768 ∧ 0 ≤ flags ∧ flags < 65536 := by omega
  rw [if_neg h1, if_neg h2, if_neg h3, decide_eq_false h4, if_pos hA]
  simp only [aqueductref13_Build.j0]
  rw [if_neg (by decide)]
  obtain ⟨x, rfl⟩ := Int.eq_ofNat_of_zero_le (show 0 ≤ off by omega)
  obtain ⟨f, rfl⟩ := Int.eq_ofNat_of_zero_le (show 0 ≤ flags by omega)
  simp only [Int.toNat_natCast]
  rw [w64 ((x : Int) + 32768) ((x + 32768 : Nat) : Int) (by omega) (by omega) (by omega)]
  have key : ∀ y : Nat, y < 65536 → strOfNums [(Int.tmod (y : Int) 256) % 256, (wrap64 (Int.tdiv (y : Int) 256)) % 256, (Int.tmod (f : Int) 256) % 256, (wrap64 (Int.tdiv (f : Int) 256)) % 256] = mk ((dig 2 y).reverse ++ (dig 2 f).reverse) := by
    intro y hy
    rw [strOfNums_mk, dig2 y hy, dig2 f (by omega)]
    congr 1
    rw [Int.tmod_eq_emod_of_nonneg (by omega), Int.tmod_eq_emod_of_nonneg (by omega), Int.tdiv_eq_ediv_of_nonneg (by omega), Int.tdiv_eq_ediv_of_nonneg (by omega),
      w64 ((y : Int) / 256) _ rfl (by omega) (by omega), w64 ((f : Int) / 256) _ rfl (by omega) (by omega)]
    simp only [List.map_cons, List.map_nil, List.reverse_cons, List.reverse_nil, List.nil_append, List.cons_append]
    congr 1
    · omega
    congr 1
    · omega
    congr 1
    · omega
    congr 1
    omega
  cases w
  · rw [if_neg (by decide), key x (by omega)]
    simp only [Bool.false_eq_true, if_false]
  · rw [if_pos rfl, key (x + 32768) (by omega)]
    simp only [if_true]
/-- What is built is parsed as it was. -/
theorem two_build {x f : Nat} (hx : x < 65536) (hf : f < 65536) : two ((dig 2 x).reverse ++ (dig 2 f).reverse) 0 = x ∧ two ((dig 2 x).reverse ++ (dig 2 f).reverse) 2 = f := by
  rw [dig2 x hx, dig2 f hf]
  unfold two
  simp
  omega
theorem parse_build {off flags : Int} {w : Bool} (h : (buildS off w flags).2 = 0) : parseS (buildS off w flags).1 = (off, w, flags, 0) := by
  unfold buildS at h ⊢
  split at h
  · rename_i h'
    rw [if_pos h']
    obtain ⟨h1, h2, h3, h4⟩ := h'
    obtain ⟨x, rfl⟩ := Int.eq_ofNat_of_zero_le h1
    obtain ⟨f, rfl⟩ := Int.eq_ofNat_of_zero_le h3
    simp only [Int.toNat_natCast]
    obtain ⟨t0, t2⟩ := two_build (x := if w = true then x + 32768 else x) (f := f) (by split <;> omega) (by omega)
    unfold parseS
    rw [if_pos (by simp [dig_length]), t0, t2]
    cases w
    · simp only [Bool.false_eq_true, if_false]
      rw [decide_eq_false (by omega), Nat.mod_eq_of_lt (by omega)]
    · simp only [if_true]
      rw [decide_eq_true (by omega), show (x + 32768) % 32768 = x from by omega]
  · exact absurd h (by decide)
theorem build_parse {l : List Nat} (hb : Bt l) (h : (parseS l).2.2.2 = 0) : buildS (parseS l).1 (parseS l).2.1 (parseS l).2.2.1 = (l, 0) := by
  unfold parseS at h ⊢
  split at h
  · rename_i h4
    rw [if_pos h4]
    have t0 := two_lt hb 0
    have t2 := two_lt hb 2
    have b0 := getD_lt hb 0
    have b1 := getD_lt hb 1
    have b2 := getD_lt hb 2
    have b3 := getD_lt hb 3
    unfold buildS
    simp only
    rw [if_pos ⟨by omega, by omega, by omega, by omega⟩]
    simp only [Int.toNat_natCast, decide_eq_true_eq]
    have e : (if 32768 ≤ two l 0 then two l 0 % 32768 + 32768 else two l 0 % 32768) = two l 0 := by split <;> omega
    rw [e, dig2 _ t0, dig2 _ t2]
    congr 1
    match l, h4 with
    | [x0, x1, x2, x3], _ =>
      unfold two
      simp at b0 b1 b2 b3 ⊢
      omega
  · exact absurd h (by decide)
/-! Steps in several goes. -/
theorem step_add {a n m size : Int} (w : Bool) (h : okS a size) (h0 : 0 ≤ n) (hm : 0 ≤ m) (hn : n + m ≤ size) :
    stepS (stepS a w n size).1 (stepS a w n size).2 m size = stepS a w (n + m) size := by
  obtain ⟨h1, h2, h3, h4⟩ := h
  unfold stepS
  by_cases c : a + n ≥ size
  · simp only [if_pos c]
    rw [if_neg (by omega), if_pos (by omega)]
    congr 1; omega
  · simp only [if_neg c]
    by_cases b : a + n + m ≥ size
    · rw [if_pos b, if_pos (by omega)]; congr 1; omega
    · rw [if_neg b, if_neg (by omega)]; congr 1; omega
theorem step_size {a size : Int} (w : Bool) (h : okS a size) : stepS a w size size = (a, !w) := by
  obtain ⟨h1, h2, h3, h4⟩ := h
  unfold stepS
  rw [if_pos (by omega)]
  congr 1; omega
theorem nextS_ok {a n size : Int} (w : Bool) (h : okS a size) (h0 : 0 ≤ n) (hn : n ≤ size) : nextS a w n size = ((stepS a w n size).1, (stepS a w n size).2, 0) := by
  unfold nextS
  rw [if_pos (checkS_ok h), if_neg (by omega)]
theorem gapS_ok {a b size : Int} (w v : Bool) (h : okS a size) (k : okS b size) : gapS a w b v size = (gap0 a w b v size, 0) := by
  unfold gapS
  rw [if_pos (checkS_ok h), if_pos (checkS_ok k)]
/-- A size out of any number. -/
theorem size_of (x : Int) : ∃ S : Int, 1 ≤ S ∧ S ≤ 32768 ∧ wrap64 (1 + (Go.bits .and .i64 x 32767)) = S := by
  rw [and_7fff]
  exact ⟨1 + x % 32768, by omega, by omega, w64 _ _ rfl (by omega) (by omega)⟩
theorem part_of (x S : Int) (h : 1 ≤ S) (h' : S ≤ 65536) : ∃ a : Int, 0 ≤ a ∧ a < S ∧ Int.tmod (Go.bits .and .i64 x 65535) S = a := by
  rw [and_ffff, Int.tmod_eq_emod_of_nonneg (by omega)]
  exact ⟨_, Int.emod_nonneg _ (by omega), Int.emod_lt_of_pos _ (by omega), rfl⟩
theorem part_of' (x S : Int) (h : 1 ≤ S) (h' : S ≤ 65536) : ∃ a : Int, 0 ≤ a ∧ a < S ∧ Int.tmod (Go.bits .and .i64 x 32767) S = a := by
  rw [and_7fff, Int.tmod_eq_emod_of_nonneg (by omega)]
  exact ⟨_, Int.emod_nonneg _ (by omega), Int.emod_lt_of_pos _ (by omega), rfl⟩
theorem gap0_back {a b size : Int} {w v : Bool} (h : okS a size) (k : okS b size) :
    (a = b ∧ w = v ∧ gap0 a w b v size = 0 ∧ gap0 b v a w size = 0) ∨ (¬ (a = b ∧ w = v) ∧ gap0 a w b v size + gap0 b v a w size = 2 * size ∧ 0 < gap0 a w b v size ∧ 0 < gap0 b v a w size) := by
  by_cases e : a = b ∧ w = v
  · obtain ⟨rfl, rfl⟩ := e
    exact .inl ⟨rfl, rfl, (gap0_zero h h).2 ⟨rfl, rfl⟩, (gap0_zero h h).2 ⟨rfl, rfl⟩⟩
  · refine .inr ⟨e, ?_⟩
    obtain ⟨p1, p2, p3, p4⟩ := h
    obtain ⟨q1, q2, q3, q4⟩ := k
    unfold gap0
    cases w <;> cases v <;> simp at e ⊢ <;> (repeat' split) <;> omega
/-- Whether a step is to be told, of places that may be. -/
theorem needS_ok {off a b size : Int} {ew w v : Bool} {flags : Int} (h : okS a size) (k : okS b size) (e : okS off size) (hg : gap0 a w b v size ≤ size) :
    needS off ew flags a w b v size = (if flags = 0 then decide (0 < gap0 a w b v size) else if flags = 2 then decide (gap0 a w off ew size < gap0 a w b v size) else false) := by
  unfold needS
  rw [gapS_ok w v h k, gapS_ok w ew h e]
  simp only
  rw [if_pos ⟨trivial, hg⟩]
  have hz := gap0_zero (w1 := w) (w2 := v) h k
  have hb := (gap0_bd w v h k).1
  by_cases f0 : flags = 0
  · rw [if_pos f0, if_pos f0, Bool.eq_iff_iff]
    simp only [decide_eq_true_eq, Bool.or_eq_true, Bool.not_eq_true', beq_eq_false_iff_ne]
    constructor
    · intro hp
      have : gap0 a w b v size ≠ 0 := fun h => by
        obtain ⟨e1, e2⟩ := hz.1 h
        rcases hp with hp | hp
        · exact hp e1
        · exact hp e2
      omega
    · intro hp
      by_cases e1 : a = b
      · by_cases e2 : w = v
        · have := hz.2 ⟨e1, e2⟩; omega
        · exact .inr e2
      · exact .inl e1
  · rw [if_neg f0, if_neg f0]
    by_cases f2 : flags = 2
    · rw [if_pos f2, if_pos f2]; simp
    · rw [if_neg f2, if_neg f2]
/-! What is fixed. -/
theorem fixed13_at : aqueductlaw13_fixed.f 20 = some true := by decide +kernel
theorem fixed13 (k : Nat) (hk : 20 ≤ k) : aqueductlaw13_fixed.f k = some true := at_rounds (fun k => aqueductlaw13_fixed.mono k) hk fixed13_at
end Go.Proofs.Ytdmhadoggghgnaa.Wd
