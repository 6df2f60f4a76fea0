/- What the functions that the law  reaches come to, as lists of bytes and numbers; for strings of at most 2^48 bytes. -/
import Derived.Test.YtehaffldjnmblaaMth
import Derived.Test.YtehaffldjnmblaaPx2
import Derived.Test.YtehaffldjnmblaaPx3
import Derived.Test.YtehaffldjnmblaaPx4
import Derived.Test.YtehaffldjnmblaaPx5
import Derived.Test.YtehaffldjnmblaaPx6
import Derived.Test.YtehaffldjnmblaaPx7
import Derived.Test.YtehaffldjnmblaaPx8
import Derived.Test.YtehaffldjnmblaaPx9
import Derived.Test.YtehaffldjnmblaaPx10
import Derived.Test.YtehaffldjnmblaaPx16
import Derived.Test.YtehaffldjnmblaaHParse
namespace Go.Proofs.Ytehaffldjnmblaa.Wd
open Go Go.RowKit Go.Proofs.Ytehaffldjnmblaa.P Go.Proofs.YtehaffldjnmblaaW.PrintWords Go.Proofs.YtehaffldjnmblaaW.PrintLast Go.Proofs.YtehaffldjnmblaaW.PrintMore Go.Proofs.Ytehaffldjnmblaa.Mth
set_option linter.unusedVariables false
set_option linter.unusedSimpArgs false

/-! Turn. -/
theorem turn_loop (s : ByteArray) (hs : s.size ≤ 281474976710656) : ∀ (d i k : Nat) (buf : List Int), i ≤ s.size → s.size - i = d → d < k → buf.length = s.size →
    (∀ j, j < i → buf.getD (s.size - 1 - j) 0 = bt s (j : Int)) → words_Turn.l0 k s buf (s.size : Int) (i : Int) = some (mk (B s).reverse) := by
  intro d
  induction d with
  | zero =>
    intro i k buf hi hd hk hl hb
    obtain ⟨k, rfl⟩ : ∃ m, k = m + 1 := ⟨k - 1, by omega⟩
    obtain rfl : i = s.size := by omega
    simp only [words_Turn.l0]
    rw [if_neg (by omega)]
    have e : buf = (B s).reverse.map (fun (x : Nat) => (x : Int)) := by
      apply List.ext_getElem
      · rw [List.length_map, List.length_reverse, B_length, hl]
      · intro n h1 h2
        have h3 := hb (s.size - 1 - n) (by omega)
        rw [show s.size - 1 - (s.size - 1 - n) = n from by omega, List.getD_eq_getElem?_getD, List.getElem?_eq_getElem h1, bt_eq] at h3
        rw [List.getElem_map, List.getElem_reverse]
        simp only [Option.getD_some] at h3
        rw [h3, List.getD_eq_getElem?_getD, List.getElem?_eq_getElem (by rw [B_length]; omega)]
        simp [B_length]
    rw [e, strOfNums_cast]
  | succ d ih =>
    intro i k buf hi hd hk hl hb
    obtain ⟨k, rfl⟩ : ∃ m, k = m + 1 := ⟨k - 1, by omega⟩
    simp only [words_Turn.l0]
    have e1 : wrap64 ((s.size : Int) - 1) = (s.size : Int) - 1 := wrap64_in (by omega) (by omega)
    have e2 : wrap64 ((s.size : Int) - 1 - (i : Int)) = (s.size : Int) - 1 - (i : Int) := wrap64_in (by omega) (by omega)
    have e3 : wrap64 ((i : Int) + 1) = ((i + 1 : Nat) : Int) := by rw [wrap64_in (by omega) (by omega)]; omega
    rw [e1, e2, e3]
    rw [if_pos (by omega), if_pos (by omega), if_pos (by omega), if_pos (by omega), if_pos (by omega)]
    have e4 : ((s.size : Int) - 1 - (i : Int)).toNat = s.size - 1 - i := by omega
    rw [e4]
    apply ih (i + 1) k _ (by omega) (by omega) (by omega) (by rw [List.length_set]; exact hl)
    intro j hj
    rw [List.getD_eq_getElem?_getD, List.getElem?_set]
    by_cases hji : j = i
    · subst hji
      rw [if_pos rfl, if_pos (by omega)]; rfl
    · rw [if_neg (by omega), ← List.getD_eq_getElem?_getD]
      exact hb j (by omega)
theorem turn_at (s : ByteArray) (hs : s.size ≤ 281474976710656) (k : Nat) (hk : s.size < k) : words_Turn.f k s = some (mk (B s).reverse) := by
  unfold words_Turn.f
  rw [if_pos (by omega), if_pos (by omega)]
  exact turn_loop s hs s.size 0 k _ (by omega) (by omega) hk (by simp) (fun j hj => by omega)
theorem turn (s : ByteArray) (hs : s.size ≤ 281474976710656) : Ev (fun k => words_Turn.f k s) (mk (B s).reverse) :=
  ⟨s.size + 1, fun k hk => turn_at s hs k (by omega)⟩
/-! Get. -/
theorem get_loop (s : ByteArray) (n : Nat) (hn : s.size = n) (h8 : n ≤ 8) : ∀ (d i k : Nat), i ≤ n → n - i = d → d < k →
    words_Get.l0 k s ((val ((B s).take i) : Nat) : Int) (n : Int) (i : Int) = some (((val (B s) : Nat) : Int), 0) := by
  intro d
  induction d with
  | zero =>
    intro i k hi hd hk
    obtain ⟨k, rfl⟩ : ∃ m, k = m + 1 := ⟨k - 1, by omega⟩
    obtain rfl : i = n := by omega
    simp only [words_Get.l0]
    rw [if_neg (by omega), List.take_of_length_le (by rw [B_length]; omega)]
  | succ d ih =>
    intro i k hi hd hk
    obtain ⟨k, rfl⟩ : ∃ m, k = m + 1 := ⟨k - 1, by omega⟩
    simp only [words_Get.l0]
    rw [if_pos (by omega), if_pos (by omega), if_pos (by omega), bt_eq]
    have e3 : wrap64 ((i : Int) + 1) = ((i + 1 : Nat) : Int) := by rw [wrap64_in (by omega) (by omega)]; omega
    have hb : (B s).getD i 0 < 256 := getD_lt (B_bt s) i
    have hl := B_length s
    have ht : (B s).take (i + 1) = (B s).take i ++ [(B s).getD i 0] := by
      rw [List.take_succ_eq_append_getElem (by omega), List.getD_eq_getElem?_getD, List.getElem?_eq_getElem (by omega)]; rfl
    have hv := val_lt ((B_bt s).take (i + 1))
    rw [ht, val_snoc, List.length_append, List.length_singleton, List.length_take, Nat.min_eq_left (by omega)] at hv
    have hp : 256 ^ (i + 1) ≤ 256 ^ 8 := Nat.pow_le_pow_right (by decide) (by omega)
    rw [e3, or_byte (by omega) hb, ← val_snoc, ← ht]
    exact ih (i + 1) k (by omega) (by omega) (by omega)
/-- The number of n bytes at a place. -/
def getS (l : List Nat) (at' n : Int) (big : Bool) : Nat × Int :=
  if n < 1 ∨ n > 8 then (0, 1)
  else if at' < 0 ∨ at' > (l.length : Int) - n then (0, 10)
  else (val (if big then (l.drop at'.toNat).take n.toNat else ((l.drop at'.toNat).take n.toNat).reverse), 0)
theorem get (s : ByteArray) (hs : s.size ≤ 281474976710656) (at' n : Int) (big : Bool) :
    Ev (fun k => words_Get.f k s at' n big) (((getS (B s) at' n big).1 : Int), (getS (B s) at' n big).2) := by
  unfold getS
  rw [B_length]
  refine ⟨20, fun k hk => ?_⟩
  obtain ⟨k, rfl⟩ : ∃ m, k = m + 1 := ⟨k - 1, by omega⟩
  show words_Get.f (k + 1) s at' n big = _
  unfold words_Get.f
  by_cases h1 : n < 1
  · rw [if_pos h1, if_pos (Or.inl h1)]
    simp only [words_Get.j0]
    rw [if_pos trivial]; rfl
  rw [if_neg h1]
  by_cases h2 : n > 8
  · rw [if_pos (Or.inr h2), decide_eq_true h2]
    simp only [words_Get.j0]
    rw [if_pos trivial]; rfl
  rw [if_neg (by omega), decide_eq_false h2]
  simp only [words_Get.j0]
  rw [if_neg (by decide)]
  have e1 : wrap64 ((s.size : Int) - n) = (s.size : Int) - n := wrap64_in (by omega) (by omega)
  rw [e1]
  by_cases h3 : at' < 0
  · rw [if_pos h3, if_pos (Or.inl h3)]; rfl
  rw [if_neg h3]
  by_cases h4 : at' > (s.size : Int) - n
  · rw [if_pos h4, if_pos (Or.inr h4)]; rfl
  have hR : ¬ (at' < 0 ∨ at' > (s.size : Int) - n) := by omega
  rw [if_neg h4, if_neg hR]
  have e2 : wrap64 (at' + n) = at' + n := wrap64_in (by omega) (by omega)
  rw [e2, if_pos (by omega), if_pos (by omega), if_pos (by omega)]
  obtain ⟨a, rfl⟩ := Int.eq_ofNat_of_zero_le (show 0 ≤ at' by omega)
  obtain ⟨m, rfl⟩ := Int.eq_ofNat_of_zero_le (show 0 ≤ n by omega)
  have e3 : ((a : Int) + (m : Int)).toNat = a + m := by omega
  simp only [Int.toNat_natCast, e3]
  have eB : B (s.extract a (a + m)) = ((B s).drop a).take m := by
    rw [B_extract, List.drop_take]; congr 1; omega
  have es : (s.extract a (a + m)).size = m := by rw [← B_length, eB, List.length_take, List.length_drop, B_length]; omega
  obtain ⟨k, rfl⟩ : ∃ j, k = j + 1 := ⟨k - 1, by omega⟩
  cases big with
  | true =>
    rw [if_pos rfl, if_pos rfl]
    simp only [words_Get.j1]
    have := get_loop (s.extract a (a + m)) m es (by omega) m 0 k (by omega) (by omega) (by omega)
    rw [eB] at this
    exact this
  | false =>
    rw [if_neg (by decide), if_neg (by decide)]
    rw [turn_at _ (by omega) _ (by omega)]
    simp only [Option.bind_some, words_Get.j1]
    have hb := ((B_bt (s.extract a (a + m))).reverse)
    have := get_loop (mk (B (s.extract a (a + m))).reverse) m (by rw [mk_size, List.length_reverse, B_length, es]) (by omega) m 0 k (by omega) (by omega) (by omega)
    rw [B_mk hb, eB] at this
    rw [eB]
    exact this
/-! Put. -/
theorem may (v : Nat) (hv : v < 18446744073709551616) (n : Int) : words_may.f (v : Int) n = some (decide (1 ≤ n ∧ n ≤ 8 ∧ v < 256 ^ n.toNat)) := by
  unfold words_may.f
  by_cases h1 : n ≥ 1
  · rw [if_pos h1]
    by_cases h2 : n ≤ 8
    · rw [if_pos h2]
      obtain ⟨m, rfl⟩ := Int.eq_ofNat_of_zero_le (show 0 ≤ n by omega)
      by_cases h3 : (m : Int) = 8
      · rw [if_pos h3]
        obtain rfl : m = 8 := by omega
        have : v < 256 ^ (8 : Nat) := by omega
        simp [this]
      · rw [if_neg h3]
        have e : wrap64 (8 * (m : Int)) = ((8 * m : Nat) : Int) := by rw [wrap64_in (by omega) (by omega)]; omega
        rw [e, if_pos (by omega), shr8 v m (by omega)]
        congr 1
        rw [Bool.eq_iff_iff]
        simp only [beq_iff_eq, decide_eq_true_eq, Int.toNat_natCast]
        rw [show ((v / 256 ^ m : Nat) : Int) = 0 ↔ v / 256 ^ m = 0 by omega, Nat.div_eq_zero_iff]
        have := pow_pos' m
        omega
    · rw [if_neg h2]; congr 1; symm; rw [decide_eq_false_iff_not]; omega
  · rw [if_neg h1]; congr 1; symm; rw [decide_eq_false_iff_not]; omega
theorem put_loop (v n : Nat) (h8 : n ≤ 8) (big : Bool) : ∀ (d i k : Nat) (buf : List Int), i ≤ n → n - i = d → d + 10 < k → buf.length = n →
    (∀ j, j < i → buf.getD (n - 1 - j) 0 = ((v / 256 ^ j % 256 : Nat) : Int)) →
    words_Put.l0 k (v : Int) (n : Int) big buf (n : Int) (i : Int) = some (mk (if big then dig n v else (dig n v).reverse), 0) := by
  intro d
  induction d with
  | zero =>
    intro i k buf hi hd hk hl hb
    obtain ⟨k, rfl⟩ : ∃ m, k = m + 1 := ⟨k - 1, by omega⟩
    obtain rfl : i = n := by omega
    simp only [words_Put.l0]
    rw [if_neg (by omega)]
    have e : buf = (dig i v).map (fun (x : Nat) => (x : Int)) := by
      apply List.ext_getElem
      · rw [List.length_map, dig_length, hl]
      · intro m h1 h2
        have h3 := hb (i - 1 - m) (by omega)
        rw [show i - 1 - (i - 1 - m) = m from by omega, List.getD_eq_getElem?_getD, List.getElem?_eq_getElem h1] at h3
        simp only [Option.getD_some] at h3
        rw [List.getElem_map, h3]
        have h4 := dig_get i v (i - 1 - m) (by omega)
        rw [show i - 1 - (i - 1 - m) = m from by omega, List.getD_eq_getElem?_getD, List.getElem?_eq_getElem (by rw [dig_length]; omega)] at h4
        simp only [Option.getD_some] at h4
        rw [h4]
    rw [e, strOfNums_cast]
    cases big with
    | true => rw [if_pos rfl, if_pos rfl]
    | false =>
      rw [if_neg (by decide), if_neg (by decide), turn_at _ (by rw [mk_size, dig_length]; omega) _ (by rw [mk_size, dig_length]; omega)]
      simp only [Option.bind_some]
      rw [B_mk (dig_bt i v)]
  | succ d ih =>
    intro i k buf hi hd hk hl hb
    obtain ⟨k, rfl⟩ : ∃ m, k = m + 1 := ⟨k - 1, by omega⟩
    simp only [words_Put.l0]
    have e0 : wrap64 (8 * (i : Int)) = ((8 * i : Nat) : Int) := by rw [wrap64_in (by omega) (by omega)]; omega
    have e1 : wrap64 ((n : Int) - 1) = (n : Int) - 1 := wrap64_in (by omega) (by omega)
    have e2 : wrap64 ((n : Int) - 1 - (i : Int)) = (n : Int) - 1 - (i : Int) := wrap64_in (by omega) (by omega)
    have e3 : wrap64 ((i : Int) + 1) = ((i + 1 : Nat) : Int) := by rw [wrap64_in (by omega) (by omega)]; omega
    rw [e0, e1, e2, e3, shr8 v i (by omega)]
    rw [if_pos (by omega), if_pos (by omega), if_pos (by omega), if_pos (by omega)]
    have e4 : ((n : Int) - 1 - (i : Int)).toNat = n - 1 - i := by omega
    rw [e4]
    apply ih (i + 1) k _ (by omega) (by omega) (by omega) (by rw [List.length_set]; exact hl)
    intro j hj
    rw [List.getD_eq_getElem?_getD, List.getElem?_set]
    by_cases hji : j = i
    · subst hji
      rw [if_pos rfl, if_pos (by omega)]
      simp
    · rw [if_neg (by omega), ← List.getD_eq_getElem?_getD]
      exact hb j (by omega)
/-- The n bytes of a number. -/
def putS (v : Nat) (n : Int) (big : Bool) : List Nat × Int :=
  if 1 ≤ n ∧ n ≤ 8 ∧ v < 256 ^ n.toNat then ((if big then dig n.toNat v else (dig n.toNat v).reverse), 0) else ([], 1)
theorem put (v : Nat) (hv : v < 18446744073709551616) (n : Int) (big : Bool) :
    Ev (fun k => words_Put.f k (v : Int) n big) (mk (putS v n big).1, (putS v n big).2) := by
  refine ⟨30, fun k hk => ?_⟩
  show words_Put.f k (v : Int) n big = _
  unfold words_Put.f putS
  rw [may v hv]
  simp only [Option.bind_some]
  by_cases h : 1 ≤ n ∧ n ≤ 8 ∧ v < 256 ^ n.toNat
  · rw [decide_eq_true h, if_pos rfl, if_pos h, if_pos (by omega), if_pos (by omega)]
    obtain ⟨m, rfl⟩ := Int.eq_ofNat_of_zero_le (show 0 ≤ n by omega)
    simp only [Int.toNat_natCast]
    exact put_loop v m (by omega) big m 0 k _ (by omega) (by omega) (by omega) (by simp) (fun j hj => by omega)
  · rw [decide_eq_false h, if_neg (by decide), if_neg h]; rfl
theorem putS_bt (v : Nat) (n : Int) (big : Bool) : Bt (putS v n big).1 := by
  unfold putS
  split
  · cases big
    · exact (dig_bt _ _).reverse
    · exact dig_bt _ _
  · exact Bt.nil
theorem putS_len {v : Nat} {n : Int} {big : Bool} (h : (putS v n big).2 = 0) : ((putS v n big).1.length : Int) = n ∧ 1 ≤ n ∧ n ≤ 8 ∧ v < 256 ^ n.toNat := by
  unfold putS at *
  split
  · rename_i h'
    cases big <;> simp [dig_length] <;> omega
  · rename_i h'
    rw [if_neg h'] at h
    exact absurd h (by decide)
/-! The document's Get. -/
theorem rget_loop (s : ByteArray) (hs : s.size ≤ 281474976710656) (a n : Nat) (ha : a + n ≤ s.size) (h8 : n ≤ 8) (big : Bool) (l : List Nat)
    (hl : l = if big then ((B s).drop a).take n else (((B s).drop a).take n).reverse) : ∀ (d i k : Nat), i ≤ n → n - i = d → d < k →
    aqueductref01_Get.l0 k s (a : Int) (n : Int) big ((val (l.take i) : Nat) : Int) (i : Int) = some (((val l : Nat) : Int), 0) := by
  have hln : l.length = n := by
    rw [hl]
    cases big <;> simp [B_length] <;> omega
  have hlb : Bt l := by
    rw [hl]
    cases big
    · exact (((B_bt s).drop _).take _).reverse
    · exact (((B_bt s).drop _).take _)
  intro d
  induction d with
  | zero =>
    intro i k hi hd hk
    obtain ⟨k, rfl⟩ : ∃ m, k = m + 1 := ⟨k - 1, by omega⟩
    obtain rfl : i = n := by omega
    simp only [aqueductref01_Get.l0]
    rw [if_neg (by omega), List.take_of_length_le (by omega)]
  | succ d ih =>
    intro i k hi hd hk
    obtain ⟨k, rfl⟩ : ∃ m, k = m + 1 := ⟨k - 1, by omega⟩
    have hin : (i : Int) < (n : Int) := by omega
    have hb : l.getD i 0 < 256 := getD_lt hlb i
    have ht : l.take (i + 1) = l.take i ++ [l.getD i 0] := by
      rw [List.take_succ_eq_append_getElem (by omega), List.getD_eq_getElem?_getD, List.getElem?_eq_getElem (by omega)]; rfl
    have hv := val_lt (hlb.take (i + 1))
    rw [ht, val_snoc, List.length_append, List.length_singleton, List.length_take, Nat.min_eq_left (by omega)] at hv
    have hp : 256 ^ (i + 1) ≤ 256 ^ 8 := Nat.pow_le_pow_right (by decide) (by omega)
    have key : ∀ x : Int, x = ((l.getD i 0 : Nat) : Int) → IntKind.u64.wrap ((IntKind.u64.wrap (((val (l.take i) : Nat) : Int) * 256)) + (IntKind.u64.wrap x)) = ((val (l.take (i + 1)) : Nat) : Int) := by
      intro x hx
      rw [hx, ht, val_snoc]
      generalize val (l.take i) = u at *
      generalize l.getD i 0 = b at *
      have hub : u * 256 + b < 18446744073709551616 := by omega
      rw [wraps_u64 ((u : Int) * 256) (by omega) (by omega), wraps_u64 (b : Int) (by omega) (by omega), wraps_u64 _ (by omega) (by omega)]
      omega
    clear hv hp
    simp only [aqueductref01_Get.l0]
    rw [w64 ((i : Int) + 1) ((i + 1 : Nat) : Int) (by omega) (by omega) (by omega)]
    refine (if_pos hin).trans ?_
    cases big with
    | true =>
      refine (if_pos rfl).trans ?_
      rw [w64 ((a : Int) + (i : Int)) ((a + i : Nat) : Int) (by omega) (by omega) (by omega)]
      refine (if_pos (by omega)).trans ((if_pos (by omega)).trans ?_)
      rw [bt_eq]
      have : (((B s).getD (a + i) 0 : Nat) : Int) = ((l.getD i 0 : Nat) : Int) := by
        rw [hl, if_pos rfl, List.getD_eq_getElem?_getD, List.getD_eq_getElem?_getD, List.getElem?_take, if_pos (by omega), List.getElem?_drop]
      rw [key _ this]
      exact ih (i + 1) k (by omega) (by omega) (by omega)
    | false =>
      refine (if_neg (by decide)).trans ?_
      rw [w64 ((a : Int) + (n : Int)) ((a + n : Nat) : Int) (by omega) (by omega) (by omega), w64 (((a + n : Nat) : Int) - 1) (((a + n : Nat) : Int) - 1) rfl (by omega) (by omega),
        w64 (((a + n : Nat) : Int) - 1 - (i : Int)) ((a + (n - 1 - i) : Nat) : Int) (by omega) (by omega) (by omega)]
      refine (if_pos (by omega)).trans ((if_pos (by omega)).trans ?_)
      rw [bt_eq]
      have : (((B s).getD (a + (n - 1 - i)) 0 : Nat) : Int) = ((l.getD i 0 : Nat) : Int) := by
        have hn2 : (((B s).drop a).take n).length = n := by rw [List.length_take, List.length_drop, B_length]; omega
        rw [hl, if_neg (by decide), List.getD_eq_getElem?_getD, List.getD_eq_getElem?_getD, List.getElem?_reverse (by omega), hn2, List.getElem?_take, if_pos (by omega), List.getElem?_drop]
      rw [key _ this]
      exact ih (i + 1) k (by omega) (by omega) (by omega)
theorem rget (s : ByteArray) (hs : s.size ≤ 281474976710656) (at' n : Int) (big : Bool) :
    Ev (fun k => aqueductref01_Get.f k s at' n big) (((getS (B s) at' n big).1 : Int), (getS (B s) at' n big).2) := by
  unfold getS
  rw [B_length]
  refine ⟨20, fun k hk => ?_⟩
  obtain ⟨k, rfl⟩ : ∃ m, k = m + 1 := ⟨k - 1, by omega⟩
  show aqueductref01_Get.f (k + 1) s at' n big = _
  unfold aqueductref01_Get.f
  by_cases h1 : n < 1
  · rw [if_pos h1, if_pos (Or.inl h1)]
    simp only [aqueductref01_Get.j0]
    rw [if_pos trivial]; rfl
  rw [if_neg h1]
  by_cases h2 : n > 8
  · rw [if_pos (Or.inr h2), decide_eq_true h2]
    simp only [aqueductref01_Get.j0]
    rw [if_pos trivial]; rfl
  rw [if_neg (by omega), decide_eq_false h2]
  obtain ⟨k, rfl⟩ : ∃ m, k = m + 1 := ⟨k - 1, by omega⟩
  simp only [aqueductref01_Get.j0]
  rw [if_neg (by decide)]
  have e1 : wrap64 ((s.size : Int) - n) = (s.size : Int) - n := wrap64_in (by omega) (by omega)
  rw [e1]
  by_cases h3 : at' < 0
  · rw [if_pos h3, if_pos (Or.inl h3)]
    simp only [aqueductref01_Get.j1]
    rw [if_pos trivial]; rfl
  rw [if_neg h3]
  by_cases h4 : at' > (s.size : Int) - n
  · rw [decide_eq_true h4, if_pos (Or.inr h4)]
    simp only [aqueductref01_Get.j1]
    rw [if_pos trivial]; rfl
  have hR : ¬ (at' < 0 ∨ at' > (s.size : Int) - n) := by omega
  rw [decide_eq_false h4, if_neg hR]
  simp only [aqueductref01_Get.j1]
  rw [if_neg (by decide)]
  obtain ⟨a, rfl⟩ := Int.eq_ofNat_of_zero_le (show 0 ≤ at' by omega)
  obtain ⟨m, rfl⟩ := Int.eq_ofNat_of_zero_le (show 0 ≤ n by omega)
  simp only [Int.toNat_natCast]
  exact rget_loop s hs a m (by omega) (by omega) big _ rfl m 0 k (by omega) (by omega) (by omega)
/-! The document's Put. -/
theorem rput_loop (v n : Nat) (hv : v < 18446744073709551616) (h8 : n ≤ 8) (big : Bool) : ∀ (d i k : Nat), i ≤ n → n - i = d → d < k →
    aqueductref01_Put.l0 k ((v / 256 ^ i : Nat) : Int) (n : Int) big (mk (dig i v).reverse) (mk (dig i v)) (i : Int) =
      some (if 0 < v / 256 ^ n then ((⟨#[]⟩ : ByteArray), 1) else (mk (if big then dig n v else (dig n v).reverse), 0)) := by
  intro d
  induction d with
  | zero =>
    intro i k hi hd hk
    obtain ⟨k, rfl⟩ : ∃ m, k = m + 1 := ⟨k - 1, by omega⟩
    obtain rfl : i = n := by omega
    simp only [aqueductref01_Put.l0]
    rw [if_neg (by omega)]
    by_cases h : 0 < v / 256 ^ i
    · rw [if_pos (by omega), if_pos h]
    · rw [if_neg (by omega), if_neg h]
      cases big <;> simp
  | succ d ih =>
    intro i k hi hd hk
    obtain ⟨k, rfl⟩ : ∃ m, k = m + 1 := ⟨k - 1, by omega⟩
    simp only [aqueductref01_Put.l0]
    rw [if_pos (by omega)]
    simp only [Option.bind_some]
    have e3 : wrap64 ((i : Int) + 1) = ((i + 1 : Nat) : Int) := by rw [wrap64_in (by omega) (by omega)]; omega
    have ey : strOfNums [Int.tmod ((v / 256 ^ i : Nat) : Int) 256 % 256] = mk [v / 256 ^ i % 256] := by
      rw [strOfNums_mk]
      congr 1
      simp only [List.map_cons, List.map_nil]
      congr 1
      rw [Int.tmod_eq_emod_of_nonneg (Int.natCast_nonneg _)]
      generalize v / 256 ^ i = q
      omega
    have hq : v / 256 ^ i < 18446744073709551616 := Nat.lt_of_le_of_lt (Nat.div_le_self _ _) hv
    have ed : IntKind.u64.wrap (Int.tdiv ((v / 256 ^ i : Nat) : Int) 256) = ((v / 256 ^ (i + 1) : Nat) : Int) := by
      rw [Int.tdiv_eq_ediv_of_nonneg (Int.natCast_nonneg _), Nat.pow_succ, ← Nat.div_div_eq_div_mul, wrap_u64]
      generalize v / 256 ^ i = q at *
      omega
    rw [ey, ed, e3]
    rw [if_pos (by rw [mk_size, mk_size, List.length_reverse, dig_length]; simp; omega), if_pos (by rw [mk_size, mk_size, dig_length]; simp; omega)]
    have h1 : Bt [v / 256 ^ i % 256] := fun x hx => by simp at hx; omega
    have hsucc : ∀ (j v : Nat), dig (j + 1) v = (v / 256 ^ j % 256) :: dig j v := by
      intro j
      induction j with
      | zero => intro v; simp [dig]
      | succ j ihj =>
        intro v
        rw [dig, ihj (v / 256), dig, Nat.div_div_eq_div_mul, Nat.pow_succ, Nat.mul_comm 256]; rfl
    have e4 : mk [v / 256 ^ i % 256] ++ mk (dig i v) = mk (dig (i + 1) v) := by
      apply B_inj
      rw [B_append, B_mk h1, B_mk (dig_bt _ _), B_mk (dig_bt _ _), hsucc]; rfl
    have e5 : mk (dig i v).reverse ++ mk [v / 256 ^ i % 256] = mk (dig (i + 1) v).reverse := by
      apply B_inj
      rw [B_append, B_mk h1, B_mk (dig_bt _ _).reverse, B_mk (dig_bt _ _).reverse, hsucc, List.reverse_cons]
    rw [e4, e5]
    exact ih (i + 1) k (by omega) (by omega) (by omega)
theorem rput (v : Nat) (hv : v < 18446744073709551616) (n : Int) (big : Bool) :
    Ev (fun k => aqueductref01_Put.f k (v : Int) n big) (mk (putS v n big).1, (putS v n big).2) := by
  refine ⟨30, fun k hk => ?_⟩
  obtain ⟨k, rfl⟩ : ∃ m, k = m + 1 := ⟨k - 1, by omega⟩
  show aqueductref01_Put.f (k + 1) (v : Int) n big = _
  unfold aqueductref01_Put.f putS
  by_cases h1 : n < 1
  · rw [if_pos h1, if_neg (by omega)]
    simp only [aqueductref01_Put.j0]
    rw [if_pos trivial]; rfl
  rw [if_neg h1]
  by_cases h2 : n > 8
  · rw [decide_eq_true h2, if_neg (by omega)]
    simp only [aqueductref01_Put.j0]
    rw [if_pos trivial]; rfl
  rw [decide_eq_false h2]
  simp only [aqueductref01_Put.j0]
  rw [if_neg (by decide)]
  obtain ⟨m, rfl⟩ := Int.eq_ofNat_of_zero_le (show 0 ≤ n by omega)
  have := rput_loop v m hv (by omega) big m 0 k (by omega) (by omega) (by omega)
  simp only [Nat.pow_zero, Nat.div_one, dig, List.reverse_nil] at this
  have h3 : (0 < v / 256 ^ m) ↔ ¬ v < 256 ^ m := by
    rw [Nat.pos_iff_ne_zero, ne_eq, Nat.div_eq_zero_iff]
    have := pow_pos' m
    omega
  refine Eq.trans this ?_
  simp only [Int.toNat_natCast]
  by_cases h4 : v < 256 ^ m
  · have h5 : ¬ 0 < v / 256 ^ m := by rw [h3]; omega
    have h6 : 1 ≤ (m : Int) ∧ (m : Int) ≤ 8 ∧ v < 256 ^ m := ⟨by omega, by omega, h4⟩
    rw [if_neg h5, if_pos h6]
  · have h6 : ¬ (1 ≤ (m : Int) ∧ (m : Int) ≤ 8 ∧ v < 256 ^ m) := fun h => h4 h.2.2
    rw [if_pos (h3.2 h4), if_neg h6]; rfl
/-! Descriptors. -/
/-- The number of n little bytes at a place. -/
def le (l : List Nat) (a n : Nat) : Nat := val ((l.drop a).take n).reverse
theorem le_lt {l : List Nat} (h : Bt l) {a n : Nat} (hn : a + n ≤ l.length) : le l a n < 256 ^ n := by
  have := val_lt (((h.drop a).take n).reverse)
  rw [List.length_reverse, List.length_take, List.length_drop, Nat.min_eq_left (by omega)] at this
  exact this
theorem dig_le {l : List Nat} (h : Bt l) {a n : Nat} (hn : a + n ≤ l.length) : (dig n (le l a n)).reverse = (l.drop a).take n := by
  have := dig_val (((h.drop a).take n).reverse)
  rw [List.length_reverse, List.length_take, List.length_drop, Nat.min_eq_left (by omega)] at this
  unfold le
  rw [this, List.reverse_reverse]
theorem getS_le {l : List Nat} {a n : Nat} (h1 : 1 ≤ n) (h8 : n ≤ 8) (h : a + n ≤ l.length) : getS l (a : Int) (n : Int) false = (le l a n, 0) := by
  unfold getS le
  rw [if_neg (by omega), if_neg (by omega)]
  simp
def parseS (l : List Nat) : Int × Int × Int × Int × Int :=
  if l.length = 16 then (((le l 0 8 : Nat) : Int), ((le l 8 4 : Nat) : Int), ((le l 12 2 : Nat) : Int), ((le l 14 2 : Nat) : Int), 0) else (0, 0, 0, 0, 1)
theorem parse (s : ByteArray) (hs : s.size ≤ 281474976710656) : Ev (fun k => desc_Parse.f k s) (parseS (B s)) := by
  unfold parseS
  rw [B_length]
  by_cases h : s.size = 16
  · have hl : (B s).length = 16 := by rw [B_length, h]
    rw [if_pos h]
    obtain ⟨k1, e1⟩ := get s hs ((0 : Nat) : Int) ((8 : Nat) : Int) false
    obtain ⟨k2, e2⟩ := get s hs ((8 : Nat) : Int) ((4 : Nat) : Int) false
    obtain ⟨k3, e3⟩ := get s hs ((12 : Nat) : Int) ((2 : Nat) : Int) false
    obtain ⟨k4, e4⟩ := get s hs ((14 : Nat) : Int) ((2 : Nat) : Int) false
    rw [getS_le (by omega) (by omega) (by omega)] at e1 e2 e3 e4
    have b2 := le_lt (B_bt s) (a := 8) (n := 4) (by omega)
    have b3 := le_lt (B_bt s) (a := 12) (n := 2) (by omega)
    have b4 := le_lt (B_bt s) (a := 14) (n := 2) (by omega)
    simp only at e1 e2 e3 e4
    refine ⟨k1 + k2 + k3 + k4, fun k hk => ?_⟩
    show desc_Parse.f k s = _
    unfold desc_Parse.f
    rw [if_pos (by omega)]
    have e1 := e1 k (by omega)
    have e2 := e2 k (by omega)
    have e3 := e3 k (by omega)
    have e4 := e4 k (by omega)
    rw [show ((0 : Nat) : Int) = 0 from rfl, show ((8 : Nat) : Int) = 8 from rfl] at e1
    rw [show ((8 : Nat) : Int) = 8 from rfl, show ((4 : Nat) : Int) = 4 from rfl] at e2
    rw [show ((12 : Nat) : Int) = 12 from rfl, show ((2 : Nat) : Int) = 2 from rfl] at e3
    rw [show ((14 : Nat) : Int) = 14 from rfl, show ((2 : Nat) : Int) = 2 from rfl] at e4
    rw [e1, e2, e3, e4]
    simp only [Option.bind_some]
    rw [w64 _ _ rfl (show -9223372036854775808 ≤ ((le (B s) 12 2 : Nat) : Int) by omega) (by omega), w64 _ _ rfl (show -9223372036854775808 ≤ ((le (B s) 14 2 : Nat) : Int) by omega) (by omega),
      show ((le (B s) 8 4 : Nat) : Int) % 4294967296 = ((le (B s) 8 4 : Nat) : Int) from by omega]
  · refine ⟨0, fun k _ => ?_⟩
    show desc_Parse.f k s = _
    unfold desc_Parse.f
    rw [if_neg (by omega), if_neg h]
def buildS (a l : Nat) (i f : Int) : List Nat × Int :=
  if 0 ≤ i ∧ i ≤ 65535 ∧ 0 ≤ f ∧ f ≤ 65535 then ((dig 8 a).reverse ++ (dig 4 l).reverse ++ (dig 2 i.toNat).reverse ++ (dig 2 f.toNat).reverse, 0) else ([], 1)
theorem buildS_bt (a l : Nat) (i f : Int) : Bt (buildS a l i f).1 := by
  unfold buildS
  split
  · exact (((dig_bt _ _).reverse.append (dig_bt _ _).reverse).append (dig_bt _ _).reverse).append (dig_bt _ _).reverse
  · exact Bt.nil
theorem buildS_len {a l : Nat} {i f : Int} (h : (buildS a l i f).2 = 0) : (buildS a l i f).1.length = 16 := by
  unfold buildS at h ⊢
  split at h
  · rename_i h'; rw [if_pos h']; simp [dig_length]
  · exact absurd h (by decide)
theorem putS_yes {v n : Nat} (h1 : 1 ≤ n) (h8 : n ≤ 8) (hv : v < 256 ^ n) : putS v (n : Int) false = ((dig n v).reverse, 0) := by
  unfold putS; rw [if_pos ⟨by omega, by omega, by simpa using hv⟩]; rfl
theorem mk4 (p q r t : List Nat) (h1 : Bt p) (h2 : Bt q) (h3 : Bt r) (h4 : Bt t) : ((mk p ++ mk q) ++ mk r) ++ mk t = mk (p ++ q ++ r ++ t) := by
  apply B_inj
  rw [B_append, B_append, B_append, B_mk h1, B_mk h2, B_mk h3, B_mk h4, B_mk (((h1.append h2).append h3).append h4)]
theorem build (a l : Nat) (i f : Int) (ha : a < 18446744073709551616) (hl : l < 4294967296) (hi : i ≤ 9223372036854775807) (hf : f ≤ 9223372036854775807) :
    Ev (fun k => desc_Build.f k (a : Int) (l : Int) i f) (mk (buildS a l i f).1, (buildS a l i f).2) := by
  by_cases h1 : i < 0
  · refine ⟨1, fun k hk => ?_⟩
    obtain ⟨k, rfl⟩ : ∃ m, k = m + 1 := ⟨k - 1, by omega⟩
    show desc_Build.f (k + 1) (a : Int) (l : Int) i f = _
    unfold desc_Build.f buildS
    rw [if_pos h1, if_neg (by omega)]
    simp only [desc_Build.j0, if_true]; rfl
  by_cases h2 : f < 0
  · refine ⟨1, fun k hk => ?_⟩
    obtain ⟨k, rfl⟩ : ∃ m, k = m + 1 := ⟨k - 1, by omega⟩
    show desc_Build.f (k + 1) (a : Int) (l : Int) i f = _
    unfold desc_Build.f buildS
    rw [if_neg h1, decide_eq_true h2, if_neg (by omega)]
    simp only [desc_Build.j0, if_true]; rfl
  obtain ⟨x, rfl⟩ := Int.eq_ofNat_of_zero_le (show 0 ≤ i by omega)
  obtain ⟨y, rfl⟩ := Int.eq_ofNat_of_zero_le (show 0 ≤ f by omega)
  obtain ⟨k1, e1⟩ := put a ha ((8 : Nat) : Int) false
  obtain ⟨k2, e2⟩ := put l (by omega) ((4 : Nat) : Int) false
  obtain ⟨k3, e3⟩ := put x (by omega) ((2 : Nat) : Int) false
  obtain ⟨k4, e4⟩ := put y (by omega) ((2 : Nat) : Int) false
  rw [putS_yes (by omega) (by omega) (by omega)] at e1 e2
  refine ⟨k1 + k2 + k3 + k4 + 1, fun k hk => ?_⟩
  obtain ⟨k, rfl⟩ : ∃ m, k = m + 1 := ⟨k - 1, by omega⟩
  have e1 := e1 k (by omega)
  have e2 := e2 k (by omega)
  have e3 := e3 k (by omega)
  have e4 := e4 k (by omega)
  simp only at e1 e2 e3 e4
  show desc_Build.f (k + 1) (a : Int) (l : Int) (x : Int) (y : Int) = _
  unfold desc_Build.f
  rw [if_neg h1, decide_eq_false h2]
  simp only [desc_Build.j0]
  rw [if_neg (by decide), wraps_u64 _ (by omega) (by omega), wraps_u64 _ (by omega) (by omega), wraps_u64 _ (by omega) (by omega)]
  rw [show ((8 : Nat) : Int) = 8 from rfl] at e1
  rw [show ((4 : Nat) : Int) = 4 from rfl] at e2
  rw [show ((2 : Nat) : Int) = 2 from rfl] at e3 e4
  rw [e1, e2, e3, e4]
  simp only [Option.bind_some]
  unfold buildS
  have d1 : ¬ (1 : Int) = 0 := by decide
  by_cases hx : x < 65536
  · have p3 : putS x 2 false = ((dig 2 x).reverse, 0) := putS_yes (n := 2) (by omega) (by omega) (by omega)
    rw [p3]
    by_cases hy : y < 65536
    · have p4 : putS y 2 false = ((dig 2 y).reverse, 0) := putS_yes (n := 2) (by omega) (by omega) (by omega)
      have hA : (0 : Int) ≤ (x : Int) ∧ (x : Int) ≤ 65535 ∧ (0 : Int) ≤ (y : Int) ∧ (y : Int) ≤ 65535 := by omega
      rw [p4, if_pos hA]
      simp only [if_true, Int.toNat_natCast]
      have s1 : (mk (dig 8 a).reverse).size = 8 := by rw [mk_size, List.length_reverse, dig_length]
      have s2 : (mk (dig 4 l).reverse).size = 4 := by rw [mk_size, List.length_reverse, dig_length]
      have s3 : (mk (dig 2 x).reverse).size = 2 := by rw [mk_size, List.length_reverse, dig_length]
      have s4 : (mk (dig 2 y).reverse).size = 2 := by rw [mk_size, List.length_reverse, dig_length]
      rw [if_pos (by rw [s1, s2]; decide), if_pos (by rw [ByteArray.size_append, s1, s2, s3]; decide), if_pos (by rw [ByteArray.size_append, ByteArray.size_append, s1, s2, s3, s4]; decide),
        mk4 _ _ _ _ (dig_bt _ _).reverse (dig_bt _ _).reverse (dig_bt _ _).reverse (dig_bt _ _).reverse]
    · have p4 : putS y 2 false = ([], 1) := by unfold putS; rw [if_neg (by intro h'; have := h'.2.2; simp at this; omega)]
      have hA : ¬ ((0 : Int) ≤ (x : Int) ∧ (x : Int) ≤ 65535 ∧ (0 : Int) ≤ (y : Int) ∧ (y : Int) ≤ 65535) := by omega
      rw [p4, if_neg hA]
      simp only [if_true, if_neg d1]; rfl
  · have p3 : putS x 2 false = ([], 1) := by unfold putS; rw [if_neg (by intro h'; have := h'.2.2; simp at this; omega)]
    have hA : ¬ ((0 : Int) ≤ (x : Int) ∧ (x : Int) ≤ 65535 ∧ (0 : Int) ≤ (y : Int) ∧ (y : Int) ≤ 65535) := by omega
    rw [p3, if_neg hA]
    simp only [if_neg d1]; rfl
theorem le_rev {p q : List Nat} {n v : Nat} (hv : v < 256 ^ n) (r : List Nat) (hp : p.length = q.length) (a : Nat) (ha : a = p.length) : le (p ++ ((dig n v).reverse ++ r)) a n = v := by
  unfold le
  rw [ha, List.drop_append_of_le_length (by omega), List.drop_of_length_le (by omega), List.nil_append, List.take_append_of_le_length (by simp [dig_length]), List.take_of_length_le (by simp [dig_length]), List.reverse_reverse, val_dig_lt hv]
/-- What is built is parsed as it was. -/
theorem parse_build {a l : Nat} {i f : Int} (ha : a < 18446744073709551616) (hl : l < 4294967296) (h : (buildS a l i f).2 = 0) : parseS (buildS a l i f).1 = ((a : Int), (l : Int), i, f, 0) := by
  have hlen := buildS_len h
  unfold parseS
  rw [if_pos hlen]
  unfold buildS at h ⊢
  split at h
  · rename_i h'
    rw [if_pos h']
    obtain ⟨h1, h2, h3, h4⟩ := h'
    obtain ⟨x, rfl⟩ := Int.eq_ofNat_of_zero_le h1
    obtain ⟨y, rfl⟩ := Int.eq_ofNat_of_zero_le h3
    simp only [Int.toNat_natCast]
    have q1 : le ((dig 8 a).reverse ++ (dig 4 l).reverse ++ (dig 2 x).reverse ++ (dig 2 y).reverse) 0 8 = a := by
      have := le_rev (p := []) (q := []) (n := 8) (v := a) (by omega) ((dig 4 l).reverse ++ ((dig 2 x).reverse ++ (dig 2 y).reverse)) rfl 0 rfl
      simpa [List.append_assoc] using this
    have q2 : le ((dig 8 a).reverse ++ (dig 4 l).reverse ++ (dig 2 x).reverse ++ (dig 2 y).reverse) 8 4 = l := by
      have := le_rev (p := (dig 8 a).reverse) (q := (dig 8 a).reverse) (n := 4) (v := l) (by omega) ((dig 2 x).reverse ++ (dig 2 y).reverse) rfl 8 (by simp [dig_length])
      simpa [List.append_assoc] using this
    have q3 : le ((dig 8 a).reverse ++ (dig 4 l).reverse ++ (dig 2 x).reverse ++ (dig 2 y).reverse) 12 2 = x := by
      have := le_rev (p := (dig 8 a).reverse ++ (dig 4 l).reverse) (q := (dig 8 a).reverse ++ (dig 4 l).reverse) (n := 2) (v := x) (by omega) ((dig 2 y).reverse) rfl 12 (by simp [dig_length])
      simpa [List.append_assoc] using this
    have q4 : le ((dig 8 a).reverse ++ (dig 4 l).reverse ++ (dig 2 x).reverse ++ (dig 2 y).reverse) 14 2 = y := by
      have := le_rev (p := (dig 8 a).reverse ++ (dig 4 l).reverse ++ (dig 2 x).reverse) (q := (dig 8 a).reverse ++ (dig 4 l).reverse ++ (dig 2 x).reverse) (n := 2) (v := y) (by omega) [] rfl 14 (by simp [dig_length])
      simpa [List.append_assoc] using this
    rw [q1, q2, q3, q4]
  · exact absurd h (by decide)
theorem build_parse {l : List Nat} (hb : Bt l) (h : (parseS l).2.2.2.2 = 0) : ∃ a b : Nat, ∃ i f : Int, a < 18446744073709551616 ∧ b < 4294967296 ∧ 0 ≤ i ∧ i ≤ 65535 ∧ 0 ≤ f ∧ f ≤ 65535 ∧ parseS l = ((a : Int), (b : Int), i, f, 0) ∧ buildS a b i f = (l, 0) := by
  unfold parseS at h ⊢
  split at h
  · rename_i h16
    rw [if_pos h16]
    have b1 := le_lt hb (a := 0) (n := 8) (by omega)
    have b2 := le_lt hb (a := 8) (n := 4) (by omega)
    have b3 := le_lt hb (a := 12) (n := 2) (by omega)
    have b4 := le_lt hb (a := 14) (n := 2) (by omega)
    refine ⟨le l 0 8, le l 8 4, ((le l 12 2 : Nat) : Int), ((le l 14 2 : Nat) : Int), by omega, by omega, by omega, by omega, by omega, by omega, rfl, ?_⟩
    unfold buildS
    rw [if_pos ⟨by omega, by omega, by omega, by omega⟩]
    simp only [Int.toNat_natCast]
    rw [dig_le hb (by omega), dig_le hb (by omega), dig_le hb (by omega), dig_le hb (by omega)]
    congr 1
    rw [List.drop_zero, List.append_assoc, List.append_assoc]
    have j3 : (l.drop 12).take 2 ++ (l.drop 14).take 2 = (l.drop 12).take 4 := by
      rw [show (4 : Nat) = 2 + 2 from rfl, List.take_add, List.drop_drop]
    have j2 : (l.drop 8).take 4 ++ (l.drop 12).take 4 = (l.drop 8).take 8 := by
      rw [show (8 : Nat) = 4 + 4 from rfl, List.take_add, List.drop_drop]
    rw [j3, j2, ← List.take_add, List.take_of_length_le (by omega)]
  · exact absurd h (by decide)
/-! Marks. -/
def bA (m : Nat) : Bool := decide (m / 128 % 2 = 1)
def bU (m : Nat) : Bool := decide (m / 32768 % 2 = 1)
def base (m : Nat) : Nat := m - m / 128 % 2 * 128 - m / 32768 % 2 * 32768
theorem and_7 (x : Nat) (h : x < 65536) : (Go.bits .and .i64 (x : Int) 128 != 0) = bA x := by
  have := (bits_nat_i64 x (2 ^ 7) (by omega) (by decide)).1
  rw [show (((2 : Nat) ^ 7 : Nat) : Int) = 128 from rfl] at this
  unfold bA
  rw [this, nat_and_bit, Bool.eq_iff_iff]
  simp only [bne_iff_ne, ne_eq, decide_eq_true_eq]
  omega
theorem and_15 (x : Nat) (h : x < 65536) : (Go.bits .and .i64 (x : Int) 32768 != 0) = bU x := by
  have := (bits_nat_i64 x (2 ^ 15) (by omega) (by decide)).1
  rw [show (((2 : Nat) ^ 15 : Nat) : Int) = 32768 from rfl] at this
  unfold bU
  rw [this, nat_and_bit, Bool.eq_iff_iff]
  simp only [bne_iff_ne, ne_eq, decide_eq_true_eq]
  omega
theorem and_mask (x : Nat) : x &&& 32896 = x / 128 % 2 * 128 + x / 32768 % 2 * 32768 := by
  have e : (32896 : Nat) = 2 ^ 7 ||| 2 ^ 15 := by decide
  rw [e, Nat.and_or_distrib_left, nat_and_bit, nat_and_bit]
  rcases Nat.mod_two_eq_zero_or_one (x / 2 ^ 7) with h | h <;> rcases Nat.mod_two_eq_zero_or_one (x / 2 ^ 15) with g | g <;>
    rw [show (128 : Nat) = 2 ^ 7 from rfl, show (32768 : Nat) = 2 ^ 15 from rfl, h, g] <;> decide
theorem andNot_mask (x : Nat) (h : x < 65536) : Go.bits .andNot .i64 (x : Int) 32896 = ((base x : Nat) : Int) := by
  have := andNot_i64 x 32896 (by omega) (by decide)
  rw [show ((32896 : Nat) : Int) = 32896 from rfl] at this
  rw [this, and_mask]
  unfold base
  congr 1
  omega
theorem or_7 (x : Nat) (h : x < 65536) (h7 : x / 128 % 2 = 0) : Go.bits .or .i64 (x : Int) 128 = ((x + 128 : Nat) : Int) := by
  have := (bits_nat_i64 x (2 ^ 7) (by omega) (by decide)).2
  rw [show (((2 : Nat) ^ 7 : Nat) : Int) = 128 from rfl] at this
  rw [this, nat_or_bit x 7 (by omega) (by omega) (by decide)]
theorem or_15 (x : Nat) (h : x < 65536) (h15 : x / 32768 % 2 = 0) : Go.bits .or .i64 (x : Int) 32768 = ((x + 32768 : Nat) : Int) := by
  have := (bits_nat_i64 x (2 ^ 15) (by omega) (by decide)).2
  rw [show (((2 : Nat) ^ 15 : Nat) : Int) = 32768 from rfl] at this
  rw [this, nat_or_bit x 15 (by omega) (by omega) (by decide)]
def markS (m : Nat) (w u : Bool) : Nat := base m + (if w then 128 else 0) + (if w == u then 32768 else 0)
theorem mark_facts (m : Nat) (w u : Bool) (h : m < 65536) : markS m w u < 65536 ∧ bA (markS m w u) = w ∧ bU (markS m w u) = (w == u) ∧ base (markS m w u) = base m := by
  unfold markS bA bU base
  cases w <;> cases u <;> simp <;> omega
theorem markE (m : Nat) (w u : Bool) (h : m < 65536) : desc_Mark.f (m : Int) w u = some ((markS m w u : Nat) : Int) := by
  unfold desc_Mark.f markS
  rw [andNot_mask m h]
  have hb : base m < 65536 ∧ base m / 128 % 2 = 0 ∧ base m / 32768 % 2 = 0 := by unfold base; omega
  cases w
  · cases u
    · simp only [beq_self_eq_true, if_true]
      rw [if_neg (by decide), or_15 _ hb.1 hb.2.2]
      simp
    · simp
  · cases u
    · simp only [if_true]
      rw [if_neg (by decide), or_7 _ hb.1 hb.2.1]
      simp
    · simp only [beq_self_eq_true, if_true]
      rw [or_7 _ hb.1 hb.2.1, or_15 _ (by omega) (by omega)]
def availS (m : Nat) (w : Bool) : Bool := (bA m == w) && (bU m != w)
def usedS (m : Nat) (w : Bool) : Bool := (bA m == w) && (bU m == w)
theorem says (m : Nat) (w : Bool) (h : m < 65536) (k : Nat) (hk : 1 ≤ k) : desc_says.f k (m : Int) w = some (if usedS m w then 2 else if availS m w then 1 else 0) := by
  obtain ⟨k, rfl⟩ : ∃ m, k = m + 1 := ⟨k - 1, by omega⟩
  unfold desc_says.f usedS availS
  rw [and_7 m h, and_15 m h]
  cases bA m <;> cases bU m <;> cases w <;> rfl
theorem avail (m : Nat) (w : Bool) (h : m < 65536) (k : Nat) (hk : 1 ≤ k) : desc_Avail.f k (m : Int) w = some (availS m w) := by
  unfold desc_Avail.f
  rw [says m w h k hk]
  simp only [Option.bind_some]
  unfold usedS availS
  cases bA m <;> cases bU m <;> cases w <;> rfl
theorem used (m : Nat) (w : Bool) (h : m < 65536) (k : Nat) (hk : 1 ≤ k) : desc_Used.f k (m : Int) w = some (usedS m w) := by
  unfold desc_Used.f
  rw [says m w h k hk]
  simp only [Option.bind_some]
  unfold usedS availS
  cases bA m <;> cases bU m <;> cases w <;> rfl
theorem and_other (x : Nat) (h : x < 65536) : Go.bits .and .i64 (x : Int) 32639 = ((base x : Nat) : Int) := by
  have h1 := (bits_nat_i64 x 32639 (by omega) (by decide)).1
  rw [show ((32639 : Nat) : Int) = 32639 from rfl] at h1
  rw [h1]
  have e : BitVec.ofNat 64 x &&& BitVec.ofNat 64 32639 = BitVec.ofNat 64 x &&& ~~~(BitVec.ofNat 64 32896) := by
    have c : BitVec.ofNat 64 32639 = BitVec.ofNat 64 65535 &&& ~~~(BitVec.ofNat 64 32896) := by decide
    have d : BitVec.ofNat 64 x &&& BitVec.ofNat 64 65535 = BitVec.ofNat 64 x := by
      apply BitVec.eq_of_toNat_eq
      rw [BitVec.toNat_and, BitVec.toNat_ofNat, BitVec.toNat_ofNat, Nat.mod_eq_of_lt (a := x) (by omega), Nat.mod_eq_of_lt (a := 65535) (by decide)]
      have := Nat.and_two_pow_sub_one_eq_mod x 16
      rw [show 2 ^ 16 - 1 = 65535 from rfl] at this
      rw [this]; omega
    rw [c, ← BitVec.and_assoc, d]
  have e2 := congrArg BitVec.toNat e
  rw [bv_andNot, BitVec.toNat_and, BitVec.toNat_ofNat, BitVec.toNat_ofNat, BitVec.toNat_ofNat, Nat.mod_eq_of_lt (a := x) (by omega), Nat.mod_eq_of_lt (a := 32639) (by decide), Nat.mod_eq_of_lt (a := 32896) (by decide), and_mask] at e2
  rw [e2]
  unfold base
  congr 1
  omega
theorem xor_mask (x y : Nat) (hx : x < 65536) (hy : y < 65536) (h : base x = base y) : Go.bits .andNot .i64 (Go.bits .xor .i64 (x : Int) (y : Int)) 32896 = 0 := by
  have hz : x ^^^ y < 65536 := Nat.xor_lt_two_pow (n := 16) hx hy
  have e1 : Go.bits .xor .i64 (x : Int) (y : Int) = ((x ^^^ y : Nat) : Int) := by
    show IntKind.i64.wrap ((BitVec.ofInt 64 (x : Int) ^^^ BitVec.ofInt 64 (y : Int)).toNat : Int) = _
    rw [BitVec.toNat_xor, toNat_ofInt_nat (by omega), toNat_ofInt_nat (by omega)]
    exact wraps_i64 _ (by omega) (by omega)
  rw [e1, andNot_mask _ hz]
  have hx2 : (BitVec.ofNat 64 x &&& ~~~(BitVec.ofNat 64 32896)).toNat = base x := by
    rw [bv_andNot, BitVec.toNat_ofNat, BitVec.toNat_ofNat, Nat.mod_eq_of_lt (a := x) (by omega), Nat.mod_eq_of_lt (a := 32896) (by decide), and_mask]; unfold base; omega
  have hy2 : (BitVec.ofNat 64 y &&& ~~~(BitVec.ofNat 64 32896)).toNat = base y := by
    rw [bv_andNot, BitVec.toNat_ofNat, BitVec.toNat_ofNat, Nat.mod_eq_of_lt (a := y) (by omega), Nat.mod_eq_of_lt (a := 32896) (by decide), and_mask]; unfold base; omega
  have hz2 : (BitVec.ofNat 64 (x ^^^ y) &&& ~~~(BitVec.ofNat 64 32896)).toNat = base (x ^^^ y) := by
    rw [bv_andNot, BitVec.toNat_ofNat, BitVec.toNat_ofNat, Nat.mod_eq_of_lt (a := x ^^^ y) (by omega), Nat.mod_eq_of_lt (a := 32896) (by decide), and_mask]; unfold base; omega
  have hc : BitVec.ofNat 64 (x ^^^ y) = BitVec.ofNat 64 x ^^^ BitVec.ofNat 64 y := by
    apply BitVec.eq_of_toNat_eq
    rw [BitVec.toNat_xor, BitVec.toNat_ofNat, BitVec.toNat_ofNat, BitVec.toNat_ofNat, Nat.mod_eq_of_lt (a := x) (by omega), Nat.mod_eq_of_lt (a := y) (by omega), Nat.mod_eq_of_lt (a := x ^^^ y) (by omega)]
  have hq : BitVec.ofNat 64 x &&& ~~~(BitVec.ofNat 64 32896) = BitVec.ofNat 64 y &&& ~~~(BitVec.ofNat 64 32896) := by
    apply BitVec.eq_of_toNat_eq; rw [hx2, hy2, h]
  have hr : (BitVec.ofNat 64 x ^^^ BitVec.ofNat 64 y) &&& ~~~(BitVec.ofNat 64 32896) = (BitVec.ofNat 64 x &&& ~~~(BitVec.ofNat 64 32896)) ^^^ (BitVec.ofNat 64 y &&& ~~~(BitVec.ofNat 64 32896)) := by
    generalize BitVec.ofNat 64 32896 = c
    ext i hi; simp; cases c[i] <;> simp
  rw [← hz2, hc, hr, hq, BitVec.xor_self]; rfl
/-- The lowest sixteen bits of any number. -/
theorem low16 (x : Int) : ∃ m : Nat, m < 65536 ∧ Go.bits .and .i64 x 65535 = (m : Int) := by
  rw [and_ffff]
  exact ⟨(x % 65536).toNat, by omega, by omega⟩
/-! The document's descriptors. -/
theorem rparse (s : ByteArray) (hs : s.size ≤ 281474976710656) : Ev (fun k => aqueductref12_Parse.f k s) (parseS (B s)) := by
  unfold parseS
  rw [B_length]
  by_cases h : s.size = 16
  · have hl : (B s).length = 16 := by rw [B_length, h]
    rw [if_pos h]
    obtain ⟨k1, e1⟩ := rget s hs ((0 : Nat) : Int) ((8 : Nat) : Int) false
    obtain ⟨k2, e2⟩ := rget s hs ((8 : Nat) : Int) ((4 : Nat) : Int) false
    obtain ⟨k3, e3⟩ := rget s hs ((12 : Nat) : Int) ((2 : Nat) : Int) false
    obtain ⟨k4, e4⟩ := rget s hs ((14 : Nat) : Int) ((2 : Nat) : Int) false
    rw [getS_le (by omega) (by omega) (by omega)] at e1 e2 e3 e4
    have b2 := le_lt (B_bt s) (a := 8) (n := 4) (by omega)
    have b3 := le_lt (B_bt s) (a := 12) (n := 2) (by omega)
    have b4 := le_lt (B_bt s) (a := 14) (n := 2) (by omega)
    simp only at e1 e2 e3 e4
    refine ⟨k1 + k2 + k3 + k4, fun k hk => ?_⟩
    show aqueductref12_Parse.f k s = _
    unfold aqueductref12_Parse.f
    rw [if_pos (by omega)]
    have e1 := e1 k (by omega)
    have e2 := e2 k (by omega)
    have e3 := e3 k (by omega)
    have e4 := e4 k (by omega)
    rw [show ((0 : Nat) : Int) = 0 from rfl, show ((8 : Nat) : Int) = 8 from rfl] at e1
    rw [show ((8 : Nat) : Int) = 8 from rfl, show ((4 : Nat) : Int) = 4 from rfl] at e2
    rw [show ((12 : Nat) : Int) = 12 from rfl, show ((2 : Nat) : Int) = 2 from rfl] at e3
    rw [show ((14 : Nat) : Int) = 14 from rfl, show ((2 : Nat) : Int) = 2 from rfl] at e4
    rw [e1, e2, e3, e4]
    simp only [Option.bind_some]
    rw [w64 _ _ rfl (show -9223372036854775808 ≤ ((le (B s) 12 2 : Nat) : Int) by omega) (by omega), w64 _ _ rfl (show -9223372036854775808 ≤ ((le (B s) 14 2 : Nat) : Int) by omega) (by omega),
      show ((le (B s) 8 4 : Nat) : Int) % 4294967296 = ((le (B s) 8 4 : Nat) : Int) from by omega]
  · refine ⟨0, fun k _ => ?_⟩
    show aqueductref12_Parse.f k s = _
    unfold aqueductref12_Parse.f
    rw [if_neg (by omega), if_neg h]
theorem rbuild (a l : Nat) (i f : Int) (ha : a < 18446744073709551616) (hl : l < 4294967296) :
    Ev (fun k => aqueductref12_Build.f k (a : Int) (l : Int) i f) (mk (buildS a l i f).1, (buildS a l i f).2) := by
  have no : ∀ k, 1 ≤ k → aqueductref12_Build.j0 k true (a : Int) (l : Int) i f = some (mk [], 1) := by
    intro k hk
    obtain ⟨k, rfl⟩ : ∃ m, k = m + 1 := ⟨k - 1, by omega⟩
    simp only [aqueductref12_Build.j0, if_true]; rfl
  by_cases h1 : i < 0
  · refine ⟨1, fun k hk => ?_⟩
    show aqueductref12_Build.f k (a : Int) (l : Int) i f = _
    unfold aqueductref12_Build.f buildS
    rw [if_pos h1, if_neg (by omega)]; exact no k hk
  by_cases h2 : i > 65535
  · refine ⟨1, fun k hk => ?_⟩
    show aqueductref12_Build.f k (a : Int) (l : Int) i f = _
    unfold aqueductref12_Build.f buildS
    rw [if_neg h1, if_pos h2, if_neg (by omega)]; exact no k hk
  by_cases h3 : f < 0
  · refine ⟨1, fun k hk => ?_⟩
    show aqueductref12_Build.f k (a : Int) (l : Int) i f = _
    unfold aqueductref12_Build.f buildS
    rw [if_neg h1, if_neg h2, if_pos h3, if_neg (by omega)]; exact no k hk
  by_cases h4 : f > 65535
  · refine ⟨1, fun k hk => ?_⟩
    show aqueductref12_Build.f k (a : Int) (l : Int) i f = _
    unfold aqueductref12_Build.f buildS
    rw [if_neg h1, if_neg h2, if_neg h3, decide_eq_true h4, if_neg (by omega)]; exact no k hk
  clear no
  obtain ⟨x, rfl⟩ := Int.eq_ofNat_of_zero_le (show 0 ≤ i by omega)
  obtain ⟨y, rfl⟩ := Int.eq_ofNat_of_zero_le (show 0 ≤ f by omega)
  obtain ⟨k1, e1⟩ := rput a ha ((8 : Nat) : Int) false
  obtain ⟨k2, e2⟩ := rput l (by omega) ((4 : Nat) : Int) false
  obtain ⟨k3, e3⟩ := rput x (by omega) ((2 : Nat) : Int) false
  obtain ⟨k4, e4⟩ := rput y (by omega) ((2 : Nat) : Int) false
  rw [putS_yes (by omega) (by omega) (by omega)] at e1 e2 e3 e4
  refine ⟨k1 + k2 + k3 + k4 + 1, fun k hk => ?_⟩
  obtain ⟨k, rfl⟩ : ∃ m, k = m + 1 := ⟨k - 1, by omega⟩
  have e1 := e1 k (by omega)
  have e2 := e2 k (by omega)
  have e3 := e3 k (by omega)
  have e4 := e4 k (by omega)
  simp only at e1 e2 e3 e4
  show aqueductref12_Build.f (k + 1) (a : Int) (l : Int) (x : Int) (y : Int) = _
  unfold aqueductref12_Build.f
  rw [if_neg h1, if_neg h2, if_neg h3, decide_eq_false h4]
  simp only [aqueductref12_Build.j0]
  rw [if_neg (by decide), wraps_u64 _ (by omega) (by omega), wraps_u64 _ (by omega) (by omega), wraps_u64 _ (by omega) (by omega)]
  rw [show ((8 : Nat) : Int) = 8 from rfl] at e1
  rw [show ((4 : Nat) : Int) = 4 from rfl] at e2
  rw [show ((2 : Nat) : Int) = 2 from rfl] at e3 e4
  rw [e1, e2, e3, e4]
  simp only [Option.bind_some]
  unfold buildS
  have hA : (0 : Int) ≤ (x : Int) ∧ (x : Int) ≤ 65535 ∧ (0 : Int) ≤ (y : Int) ∧ (y : Int) ≤ 65535 := by omega
  rw [if_pos hA]
  simp only [Int.toNat_natCast]
  have s1 : (mk (dig 8 a).reverse).size = 8 := by rw [mk_size, List.length_reverse, dig_length]
  have s2 : (mk (dig 4 l).reverse).size = 4 := by rw [mk_size, List.length_reverse, dig_length]
  have s3 : (mk (dig 2 x).reverse).size = 2 := by rw [mk_size, List.length_reverse, dig_length]
  have s4 : (mk (dig 2 y).reverse).size = 2 := by rw [mk_size, List.length_reverse, dig_length]
  rw [if_pos (by rw [s1, s2]; decide), if_pos (by rw [ByteArray.size_append, s1, s2, s3]; decide), if_pos (by rw [ByteArray.size_append, ByteArray.size_append, s1, s2, s3, s4]; decide),
    mk4 _ _ _ _ (dig_bt _ _).reverse (dig_bt _ _).reverse (dig_bt _ _).reverse (dig_bt _ _).reverse]
theorem bits_low (m : Nat) (h : m < 65536) : (Int.tmod (wrap64 (Int.tdiv (m : Int) 128)) 2 == 1) = bA m ∧ (Int.tmod (wrap64 (Int.tdiv (m : Int) 32768)) 2 == 1) = bU m := by
  constructor
  · rw [Int.tdiv_eq_ediv_of_nonneg (by omega), w64 _ ((m / 128 : Nat) : Int) (by omega) (by omega) (by omega), Int.tmod_eq_emod_of_nonneg (by omega)]
    unfold bA
    rw [Bool.eq_iff_iff]
    simp only [beq_iff_eq, decide_eq_true_eq]
    omega
  · rw [Int.tdiv_eq_ediv_of_nonneg (by omega), w64 _ ((m / 32768 : Nat) : Int) (by omega) (by omega) (by omega), Int.tmod_eq_emod_of_nonneg (by omega)]
    unfold bU
    rw [Bool.eq_iff_iff]
    simp only [beq_iff_eq, decide_eq_true_eq]
    omega
theorem ravail (m : Nat) (w : Bool) (h : m < 65536) : aqueductref12_Avail.f (m : Int) w = some (availS m w) := by
  unfold aqueductref12_Avail.f availS
  rw [(bits_low m h).1, (bits_low m h).2]
  cases bA m <;> cases bU m <;> cases w <;> rfl
theorem rused (m : Nat) (w : Bool) (h : m < 65536) : aqueductref12_Used.f (m : Int) w = some (usedS m w) := by
  unfold aqueductref12_Used.f usedS
  rw [(bits_low m h).1, (bits_low m h).2]
  cases bA m <;> cases bU m <;> cases w <;> rfl
theorem rmark (m : Nat) (w u : Bool) (h : m < 65536) : aqueductref12_Mark.f (m : Int) w u = some ((markS m w u : Nat) : Int) := by
  unfold aqueductref12_Mark.f markS
  have hb : base m < 65536 ∧ base m ≤ 32639 + 32767 := by unfold base; omega
  have hb2 : base m + 128 + 32768 < 65536 := by unfold base; omega
  rw [Int.tdiv_eq_ediv_of_nonneg (by omega), Int.tdiv_eq_ediv_of_nonneg (by omega), w64 ((m : Int) / 128) ((m / 128 : Nat) : Int) (by omega) (by omega) (by omega), w64 ((m : Int) / 32768) ((m / 32768 : Nat) : Int) (by omega) (by omega) (by omega),
    Int.tmod_eq_emod_of_nonneg (by omega), Int.tmod_eq_emod_of_nonneg (by omega),
    w64 (((m / 128 : Nat) : Int) % 2 * 128) ((m / 128 % 2 * 128 : Nat) : Int) (by omega) (by omega) (by omega), w64 (((m / 32768 : Nat) : Int) % 2 * 32768) ((m / 32768 % 2 * 32768 : Nat) : Int) (by omega) (by omega) (by omega),
    w64 ((m : Int) - ((m / 128 % 2 * 128 : Nat) : Int)) ((m - m / 128 % 2 * 128 : Nat) : Int) (by omega) (by omega) (by omega),
    w64 (((m - m / 128 % 2 * 128 : Nat) : Int) - ((m / 32768 % 2 * 32768 : Nat) : Int)) ((base m : Nat) : Int) (by unfold base; omega) (by omega) (by omega)]
  cases w
  · cases u
    · rw [if_neg (by decide), if_neg (by decide), w64 _ ((base m + 32768 : Nat) : Int) (by omega) (by omega) (by omega)]; simp
    · rw [if_neg (by decide), if_pos rfl]; simp
  · cases u
    · rw [if_pos rfl, if_neg (by decide), w64 _ ((base m + 128 : Nat) : Int) (by omega) (by omega) (by omega)]; simp
    · rw [if_pos rfl, if_pos rfl, w64 ((base m : Int) + 128) ((base m + 128 : Nat) : Int) (by omega) (by omega) (by omega), w64 _ ((base m + 128 + 32768 : Nat) : Int) (by omega) (by omega) (by omega)]; simp
/-! What is fixed. -/
theorem fixed12_at : aqueductlaw12_fixed.f 40 = some true := by decide +kernel
theorem fixed12 (k : Nat) (hk : 40 ≤ k) : aqueductlaw12_fixed.f k = some true := at_rounds (fun k => aqueductlaw12_fixed.mono k) hk fixed12_at
end Go.Proofs.Ytehaffldjnmblaa.Wd
