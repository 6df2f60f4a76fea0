/- Filters: contracts by hand, and the laws over them. -/
import Derived.Test.YtnckogdplcijiaaOwn
import Derived.Test.YtnckogdplcijiaaHParse
import Derived.Test.YtnckogdplcijiaaClo
import Derived.Test.YtnckogdplcijiaaPx4
import Derived.Test.YtnckogdplcijiaaPx5
import Derived.Test.YtnckogdplcijiaaPx9
import Derived.Test.YtnckogdplcijiaaPx10
import Derived.Test.YtnckogdplcijiaaPx11
import Derived.Test.YtnckogdplcijiaaPx12
import Derived.Test.YtnckogdplcijiaaPx13
import Derived.Test.YtnckogdplcijiaaPx14
import Derived.Test.YtnckogdplcijiaaPx15
namespace Go.Proofs.Ytnckogdplcijiaa.Fl
open Go Go.RowKit Go.Proofs.YtnckogdplcijiaaW.PrintWords Go.Proofs.YtnckogdplcijiaaW.PrintLast Go.Proofs.YtnckogdplcijiaaW.PrintMore Go.Proofs.Ytnckogdplcijiaa.Mth Go.Proofs.Ytnckogdplcijiaa.P Go.Proofs.Ytnckogdplcijiaa.Own Go.Proofs
set_option linter.unusedVariables false
set_option linter.unusedSimpArgs false
/-! ### Frames, taken apart -/
def mayS (t : Int) : Bool := decide (1536 ≤ t ∧ t ≤ 65535 ∧ t ≠ 33024)
theorem mayE (t : Int) : eth_may.f t = some (mayS t) := by
  unfold eth_may.f mayS
  by_cases h1 : t ≥ 1536
  · by_cases h2 : t ≤ 65535
    · rw [if_pos h1, if_pos h2]
      congr 1
      rw [Bool.eq_iff_iff]
      simp only [bne_iff_ne, decide_eq_true_eq]
      constructor
      · intro h; exact ⟨h1, h2, h⟩
      · intro h; exact h.2.2
    · rw [if_pos h1, if_neg h2, decide_eq_false (fun h => h2 h.2.1)]
  · rw [if_neg h1, decide_eq_false (fun h => h1 h.1)]
theorem may_bd {t : Int} (h : mayS t = true) : 1536 ≤ t ∧ t ≤ 65535 ∧ t ≠ 33024 := of_decide_eq_true h
def n2 (l : List Nat) (a : Nat) : Nat := l.getD a 0 * 256 + l.getD (a + 1) 0
theorem n2_lt {l : List Nat} (h : Bt l) (a : Nat) : n2 l a < 65536 := by
  have h1 := getD_lt h a
  have h2 := getD_lt h (a + 1)
  unfold n2; omega
/-- What a frame is, and why it is none. -/
structure Fr where
  d : List Nat
  s : List Nat
  v : Int
  p : Int
  t : Int
  b : List Nat
  e : Int
def Fr.no (e : Int) : Fr := ⟨[], [], 0, 0, 0, [], e⟩
def parseS (l : List Nat) : Fr :=
  if 1518 < l.length then Fr.no 61
  else if l.length < 14 then Fr.no 60
  else if n2 l 12 = 33024 then
    (if l.length < 18 then Fr.no 60
    else if n2 l 14 / 4096 % 2 = 1 ∨ n2 l 14 % 4096 = 4095 ∨ mayS (n2 l 16 : Int) = false then Fr.no 61
    else ⟨l.take 6, (l.drop 6).take 6, ((n2 l 14 % 4096 : Nat) : Int), ((n2 l 14 / 8192 : Nat) : Int), (n2 l 16 : Int), l.drop 18, 0⟩)
  else if mayS (n2 l 12 : Int) = false then Fr.no 61
  else ⟨l.take 6, (l.drop 6).take 6, -1, 0, (n2 l 12 : Int), l.drop 14, 0⟩
/-- The same, as the functions hand it back. -/
def Fr.out (x : Fr) : ByteArray × ByteArray × Int × Int × Int × ByteArray × Int := (Mth.mk x.d, Mth.mk x.s, x.v, x.p, x.t, Mth.mk x.b, x.e)
theorem numE (s : ByteArray) (a : Nat) : numS s a = ((n2 (B s) a : Nat) : Int) := by
  unfold numS n2
  rw [bt_eq, bt_eq]
  omega
theorem mk_take (s : ByteArray) (n : Nat) : s.extract 0 n = mk ((B s).take n) := by
  apply B_inj; rw [B_extract, B_mk ((B_bt s).take _), List.drop_zero]
theorem mk_mid (s : ByteArray) : s.extract 6 12 = mk (((B s).drop 6).take 6) := by
  apply B_inj; rw [B_extract, B_mk (((B_bt s).drop _).take _), List.drop_take]
theorem mk_drop (s : ByteArray) (n : Nat) : s.extract n s.size = mk ((B s).drop n) := by
  apply B_inj; rw [B_extract, B_mk ((B_bt s).drop _), List.take_of_length_le (by rw [B_length]; exact Nat.le_refl _)]
theorem bit12 (t : Nat) (h : t < 65536) : (Go.bits .and .i64 (t : Int) 4096 != 0) = decide (t / 4096 % 2 = 1) := by
  have := (bits_nat_i64 t (2 ^ 12) (by omega) (by decide)).1
  rw [show (((2 : Nat) ^ 12 : Nat) : Int) = 4096 from rfl] at this
  rw [this, nat_and_bit, Bool.eq_iff_iff]
  simp only [bne_iff_ne, ne_eq, decide_eq_true_eq]
  omega
theorem low12 (t : Nat) (h : t < 65536) : Go.bits .and .i64 (t : Int) 4095 = ((t % 4096 : Nat) : Int) := by
  have := and_i64 (t : Int) 12 (by decide)
  rw [show (((2 : Nat) ^ 12 - 1 : Nat) : Int) = 4095 from rfl] at this
  rw [this]; omega
theorem parseE (s : ByteArray) : eth_Parse.f s = some (parseS (B s)).out := by
  unfold eth_Parse.f parseS
  rw [B_length]
  by_cases c1 : s.size > 1518
  · rw [if_pos (show (s.size : Int) > 1518 by omega), if_pos (show 1518 < s.size by omega)]; rfl
  rw [if_neg (show ¬ (s.size : Int) > 1518 by omega), if_neg (show ¬ 1518 < s.size by omega)]
  by_cases c2 : s.size < 14
  · rw [if_pos c2, if_pos c2]; rfl
  rw [if_neg c2, if_neg c2, numE, numE, numE]
  have b14 := n2_lt (B_bt s) 14
  by_cases c3 : n2 (B s) 12 = 33024
  · rw [if_pos (by omega), if_pos c3]
    by_cases c4 : s.size < 18
    · rw [if_pos c4, if_pos c4]; rfl
    rw [if_neg c4, if_neg c4, bit12 _ b14, low12 _ b14, mayE]
    by_cases c5 : n2 (B s) 14 / 4096 % 2 = 1
    · rw [if_pos (decide_eq_true c5), if_pos (Or.inl c5)]; rfl
    rw [if_neg (by simpa using c5)]
    by_cases c6 : n2 (B s) 14 % 4096 = 4095
    · rw [if_pos (decide_eq_true (by omega)), if_pos (Or.inr (Or.inl c6))]; rfl
    rw [if_neg (by simp; omega)]
    simp only [Option.bind_some]
    cases hm : mayS ((n2 (B s) 16 : Nat) : Int) with
    | false => rw [if_neg (by decide), if_pos (Or.inr (Or.inr rfl))]; rfl
    | true =>
      rw [if_pos rfl, if_neg (by rintro (h | h | h); exact c5 h; exact c6 h; exact absurd h (by decide)), mk_take, mk_mid, mk_drop]
      unfold Fr.out
      rfl
  · rw [if_neg (by omega), if_neg c3, mayE]
    simp only [Option.bind_some]
    cases hm : mayS ((n2 (B s) 12 : Nat) : Int) with
    | false => rw [if_neg (by decide), if_pos rfl]; rfl
    | true =>
      rw [if_pos rfl, if_neg (by decide), mk_take, mk_mid, mk_drop]
      rfl
theorem n2_dig {l r : List Nat} {v a : Nat} (hv : v < 65536) (ha : l.length = a) : n2 (l ++ (dig 2 v ++ r)) a = v := by
  have e : dig 2 v = [v / 256 % 256, v % 256] := by simp [dig]
  subst ha
  have g0 : (l ++ ([v / 256 % 256, v % 256] ++ r))[l.length]? = some (v / 256 % 256) := by
    rw [List.getElem?_append_right (Nat.le_refl _), Nat.sub_self]; rfl
  have g1 : (l ++ ([v / 256 % 256, v % 256] ++ r))[l.length + 1]? = some (v % 256) := by
    rw [List.getElem?_append_right (by omega), Nat.add_sub_cancel_left]; rfl
  unfold n2
  rw [e, List.getD_eq_getElem?_getD, List.getD_eq_getElem?_getD, g0, g1]
  simp only [Option.getD_some]
  omega
theorem Fr_bt {l : List Nat} (hb : Bt l) : Bt (parseS l).d ∧ Bt (parseS l).s ∧ Bt (parseS l).b := by
  unfold parseS
  (repeat' split) <;> first | exact ⟨Bt.nil, Bt.nil, Bt.nil⟩ | exact ⟨hb.take _, (hb.drop _).take _, hb.drop _⟩
theorem rnumE (s : ByteArray) (i : Int) (a : Nat) (hi : i = (a : Int)) (h : a + 1 < s.size) (hs : s.size ≤ 140737488351232) : aqueductref06_num.f s i = some ((n2 (B s) a : Nat) : Int) := by
  subst hi
  have e : wrap64 ((a : Int) + 1) = ((a + 1 : Nat) : Int) := by rw [wrap64_in (by omega) (by omega)]; omega
  unfold aqueductref06_num.f n2
  rw [e, if_pos (Int.natCast_nonneg _), if_pos (by omega), if_pos (Int.natCast_nonneg _), if_pos (by omega), bt_eq, bt_eq]
  have h1 := getD_lt (B_bt s) a
  have h2 := getD_lt (B_bt s) (a + 1)
  generalize (B s).getD a 0 = x at *
  generalize (B s).getD (a + 1) 0 = y at *
  clear e
  rw [wrap64_in (show (-9223372036854775808 : Int) ≤ (x : Int) by omega) (by omega), wrap64_in (show (-9223372036854775808 : Int) ≤ (y : Int) by omega) (by omega),
    wrap64_in (show (-9223372036854775808 : Int) ≤ 256 * (x : Int) by omega) (by omega), wrap64_in (show (-9223372036854775808 : Int) ≤ 256 * (x : Int) + (y : Int) by omega) (by omega)]
  congr 1; omega
theorem rkind6E (t : Int) : aqueductref06_kind.f t = some (mayS t) := mayE t
theorem rparse_at (s : ByteArray) (hs : s.size ≤ 140737488351232) (k : Nat) (hk : 1 ≤ k) : aqueductref06_Parse.f k s = some (parseS (B s)).out := by
  obtain ⟨k, rfl⟩ : ∃ m, k = m + 1 := ⟨k - 1, by omega⟩
  show aqueductref06_Parse.f (k + 1) s = _
  unfold aqueductref06_Parse.f parseS
  rw [B_length]
  by_cases c1 : s.size > 1518
  · rw [if_pos (show (s.size : Int) > 1518 by omega), if_pos (show 1518 < s.size by omega)]; rfl
  rw [if_neg (show ¬ (s.size : Int) > 1518 by omega), if_neg (show ¬ 1518 < s.size by omega)]
  by_cases c2 : s.size < 14
  · rw [if_pos (show (s.size : Int) < 14 by omega), if_pos c2]; rfl
  rw [if_neg (show ¬ (s.size : Int) < 14 by omega), if_neg c2, if_pos (by decide), if_pos (by omega), if_pos (by decide), if_pos (by omega), rnumE s 12 12 rfl (by omega) hs]
  simp only [Option.bind_some]
  rw [if_pos (by omega)]
  have b14 := n2_lt (B_bt s) 14
  by_cases c3 : n2 (B s) 12 = 33024
  · rw [if_pos (show ((n2 (B s) 12 : Nat) : Int) = 33024 by omega), if_pos c3]
    by_cases c4 : s.size < 18
    · rw [if_pos (show (s.size : Int) < 18 by omega), if_pos c4]; rfl
    rw [if_neg (show ¬ (s.size : Int) < 18 by omega), if_neg c4, rnumE s 14 14 rfl (by omega) hs, rnumE s 16 16 rfl (by omega) hs]
    simp only [Option.bind_some]
    rw [if_pos (by omega)]
    rw [Int.tdiv_eq_ediv_of_nonneg (Int.natCast_nonneg _), Int.tdiv_eq_ediv_of_nonneg (Int.natCast_nonneg _), Int.tmod_eq_emod_of_nonneg (Int.natCast_nonneg _)]
    have q1 : wrap64 (((n2 (B s) 14 : Nat) : Int) / 4096) = ((n2 (B s) 14 / 4096 : Nat) : Int) := wrap64_in (by omega) (by omega)
    have q2 : wrap64 (((n2 (B s) 14 : Nat) : Int) / 8192) = ((n2 (B s) 14 / 8192 : Nat) : Int) := wrap64_in (by omega) (by omega)
    have q3 : ((n2 (B s) 14 : Nat) : Int) % 4096 = ((n2 (B s) 14 % 4096 : Nat) : Int) := by omega
    rw [q1, q2, q3, Int.tmod_eq_emod_of_nonneg (Int.natCast_nonneg _)]
    clear q1 q2 q3
    by_cases c5 : n2 (B s) 14 / 4096 % 2 = 1
    · rw [if_pos (show ((n2 (B s) 14 / 4096 : Nat) : Int) % 2 = 1 by omega), if_pos (Or.inl c5)]
      simp only [aqueductref06_Parse.j0, if_true]; rfl
    rw [if_neg (show ¬ ((n2 (B s) 14 / 4096 : Nat) : Int) % 2 = 1 by omega)]
    by_cases c6 : n2 (B s) 14 % 4096 = 4095
    · rw [if_pos (Or.inr (Or.inl c6)), c6]
      simp only [aqueductref06_Parse.j0]
      rw [if_pos (by decide)]; rfl
    have c6' : (((n2 (B s) 14 % 4096 : Nat) : Int) == 4095) = false := by rw [beq_eq_false_iff_ne]; omega
    rw [c6']
    simp only [aqueductref06_Parse.j0]
    rw [if_neg (by decide), rkind6E]
    simp only [Option.bind_some]
    cases hm : mayS ((n2 (B s) 16 : Nat) : Int) with
    | false => rw [if_neg (by decide), if_pos (Or.inr (Or.inr rfl))]; rfl
    | true =>
      rw [if_pos rfl, if_neg (by rintro (h | h | h); exact c5 h; exact c6 h; exact absurd h (by decide)), mk_take, mk_mid, mk_drop]
      rfl
  · rw [if_neg (show ¬ ((n2 (B s) 12 : Nat) : Int) = 33024 by omega), if_neg c3, rkind6E]
    simp only [Option.bind_some]
    cases hm : mayS ((n2 (B s) 12 : Nat) : Int) with
    | false => rw [if_neg (by decide), if_pos rfl]; rfl
    | true =>
      rw [if_pos rfl, if_neg (by decide), mk_take, mk_mid, mk_drop]
      rfl
/-! ### What the functions come to -/
def hasS (l : List ByteArray) (s : ByteArray) : Bool := l.any fun x => x.toList == s.toList
theorem rd_drop {l : List Int} {i : Nat} (h : i < l.length) : l.drop i = rd l (i : Int) :: l.drop (i + 1) := by
  rw [List.drop_eq_getElem_cons h]
  simp [rd, List.getD_eq_getElem?_getD, List.getElem?_eq_getElem h]
theorem rdS_drop {l : List ByteArray} {i : Nat} (h : i < l.length) : l.drop i = rdOf ByteArray.empty l (i : Int) :: l.drop (i + 1) := by
  rw [List.drop_eq_getElem_cons h]
  simp [rdOf, List.getD_eq_getElem?_getD, List.getElem?_eq_getElem h]
theorem w1 {i n : Nat} (h : i < n) (hn : n ≤ 1099511627776) : wrap64 ((i : Int) + 1) = ((i + 1 : Nat) : Int) := by rw [wrap64_in (by omega) (by omega)]; omega
theorem indexI (l : List Int) (x : Int) (hl : l.length ≤ 1099511627776) : ∀ d i k, i ≤ l.length → l.length - i = d → d < k → ∃ r, slices_Index_int_int.l0 k l x (l.length : Int) (i : Int) = some r ∧ (decide (r ≥ 0)) = (l.drop i).contains x := by
  intro d
  induction d with
  | zero =>
    intro i k hi hd hk
    obtain ⟨k, rfl⟩ : ∃ m, k = m + 1 := ⟨k - 1, by omega⟩
    simp only [slices_Index_int_int.l0]
    rw [if_neg (by omega), List.drop_of_length_le (by omega)]
    exact ⟨_, rfl, rfl⟩
  | succ d ih =>
    intro i k hi hd hk
    obtain ⟨k, rfl⟩ : ∃ m, k = m + 1 := ⟨k - 1, by omega⟩
    simp only [slices_Index_int_int.l0]
    rw [if_pos (by omega), if_pos (by omega), if_pos (by omega), w1 (show i < l.length by omega) hl, rd_drop (show i < l.length by omega), List.contains_cons]
    by_cases e : x = rd l (i : Int)
    · rw [if_pos e, ← e]
      refine ⟨_, rfl, ?_⟩
      simp
    · rw [if_neg e, show (x == rd l (i : Int)) = false from beq_eq_false_iff_ne.2 e, Bool.false_or]
      exact ih (i + 1) k (by omega) (by omega) (by omega)
theorem containsI (l : List Int) (x : Int) (hl : l.length ≤ 1099511627776) (k : Nat) (hk : l.length < k) : slices_Contains_int_int.f k l x = some (l.contains x) := by
  unfold slices_Contains_int_int.f slices_Index_int_int.f
  obtain ⟨r, e, h⟩ := indexI l x hl l.length 0 k (by omega) (by omega) hk
  have e' : slices_Index_int_int.l0 k l x (l.length : Int) 0 = some r := e
  rw [e', Option.bind_some, h]
  rfl
theorem indexS (l : List ByteArray) (x : ByteArray) (hl : l.length ≤ 1099511627776) : ∀ d i k, i ≤ l.length → l.length - i = d → d < k → ∃ r, slices_Index_string_string.l0 k l x (l.length : Int) (i : Int) = some r ∧ (decide (r ≥ 0)) = hasS (l.drop i) x := by
  intro d
  induction d with
  | zero =>
    intro i k hi hd hk
    obtain ⟨k, rfl⟩ : ∃ m, k = m + 1 := ⟨k - 1, by omega⟩
    simp only [slices_Index_string_string.l0]
    rw [if_neg (by omega), List.drop_of_length_le (by omega)]
    exact ⟨_, rfl, rfl⟩
  | succ d ih =>
    intro i k hi hd hk
    obtain ⟨k, rfl⟩ : ∃ m, k = m + 1 := ⟨k - 1, by omega⟩
    simp only [slices_Index_string_string.l0]
    rw [if_pos (by omega), if_pos (by omega), if_pos (by omega), w1 (show i < l.length by omega) hl, rdS_drop (show i < l.length by omega)]
    simp only [hasS, List.any_cons]
    by_cases e : x.toList = (rdOf ByteArray.empty l (i : Int)).toList
    · rw [if_pos e, ← e]
      refine ⟨_, rfl, ?_⟩
      simp
    · rw [if_neg e, show ((rdOf ByteArray.empty l (i : Int)).toList == x.toList) = false from beq_eq_false_iff_ne.2 (fun h => e h.symm), Bool.false_or]
      exact ih (i + 1) k (by omega) (by omega) (by omega)
theorem containsS (l : List ByteArray) (x : ByteArray) (hl : l.length ≤ 1099511627776) (k : Nat) (hk : l.length < k) : slices_Contains_string_string.f k l x = some (hasS l x) := by
  unfold slices_Contains_string_string.f slices_Index_string_string.f
  obtain ⟨r, e, h⟩ := indexS l x hl l.length 0 k (by omega) (by omega) hk
  have e' : slices_Index_string_string.l0 k l x (l.length : Int) 0 = some r := e
  rw [e', Option.bind_some, h]
  rfl
/-! the document's -/
theorem netE0 (l : List Int) (x : Int) (hl : l.length ≤ 1099511627776) : ∀ d i k, i ≤ l.length → l.length - i = d → d < k → aqueductref16_Net.l0 k l x (i : Int) = some ((l.drop i).contains x) := by
  intro d
  induction d with
  | zero =>
    intro i k hi hd hk
    obtain ⟨k, rfl⟩ : ∃ m, k = m + 1 := ⟨k - 1, by omega⟩
    simp only [aqueductref16_Net.l0]
    rw [if_neg (by omega), List.drop_of_length_le (by omega)]
    rfl
  | succ d ih =>
    intro i k hi hd hk
    obtain ⟨k, rfl⟩ : ∃ m, k = m + 1 := ⟨k - 1, by omega⟩
    simp only [aqueductref16_Net.l0]
    rw [if_pos (by omega), if_pos (by omega), w1 (show i < l.length by omega) hl, rd_drop (show i < l.length by omega), List.contains_cons]
    by_cases e : rd l (i : Int) = x
    · rw [if_pos e, e]
      simp
    · rw [if_neg e, show (x == rd l (i : Int)) = false from beq_eq_false_iff_ne.2 (fun h => e h.symm), Bool.false_or]
      exact ih (i + 1) k (by omega) (by omega) (by omega)
theorem netE (l : List Int) (x : Int) (hl : l.length ≤ 1099511627776) (k : Nat) (hk : l.length < k) : aqueductref16_Net.f k l x = some (l.contains x) :=
  netE0 l x hl l.length 0 k (by omega) (by omega) hk
theorem hasE0 (l : List ByteArray) (x : ByteArray) (hl : l.length ≤ 1099511627776) : ∀ d i k, i ≤ l.length → l.length - i = d → d < k → aqueductref16_Has.l0 k l x (i : Int) = some (hasS (l.drop i) x) := by
  intro d
  induction d with
  | zero =>
    intro i k hi hd hk
    obtain ⟨k, rfl⟩ : ∃ m, k = m + 1 := ⟨k - 1, by omega⟩
    simp only [aqueductref16_Has.l0]
    rw [if_neg (by omega), List.drop_of_length_le (by omega)]
    rfl
  | succ d ih =>
    intro i k hi hd hk
    obtain ⟨k, rfl⟩ : ∃ m, k = m + 1 := ⟨k - 1, by omega⟩
    simp only [aqueductref16_Has.l0]
    rw [if_pos (by omega), if_pos (by omega), w1 (show i < l.length by omega) hl, rdS_drop (show i < l.length by omega)]
    simp only [hasS, List.any_cons]
    by_cases e : (rdOf ByteArray.empty l (i : Int)).toList = x.toList
    · rw [if_pos e, e]
      simp
    · rw [if_neg e, show ((rdOf ByteArray.empty l (i : Int)).toList == x.toList) = false from beq_eq_false_iff_ne.2 e, Bool.false_or]
      exact ih (i + 1) k (by omega) (by omega) (by omega)
theorem hasE (l : List ByteArray) (x : ByteArray) (hl : l.length ≤ 1099511627776) (k : Nat) (hk : l.length < k) : aqueductref16_Has.f k l x = some (hasS l x) :=
  hasE0 l x hl l.length 0 k (by omega) (by omega) hk
theorem six {l : List Nat} (h : l.length = 6) : ∃ b0 b1 b2 b3 b4 b5, l = [b0, b1, b2, b3, b4, b5] := by
  match l, h with
  | [b0, b1, b2, b3, b4, b5], _ => exact ⟨b0, b1, b2, b3, b4, b5, rfl⟩
theorem bt_nat (a : ByteArray) {i b : Nat} (h : (B a).getD i 0 = b) : bt a (i : Int) = (b : Int) ∧ b < 256 := by
  subst h
  exact ⟨bt_eq a i, getD_lt (B_bt a) i⟩
theorem rk_step (k : Nat) (a : ByteArray) (x : Bool) (i : Nat) {b : Nat} (h6 : a.size = 6) (hi : i < 6) (hb : (B a).getD i 0 = b) :
    aqueductref05_Kind.l0 (k + 1) a x (i : Int) = aqueductref05_Kind.l0 k a (x && decide (b = 255)) ((i + 1 : Nat) : Int) := by
  obtain ⟨e, hlt⟩ := bt_nat a hb
  have eb : ((b : Int) == 255) = decide (b = 255) := by
    by_cases q : b = 255
    · rw [decide_eq_true q, q]; rfl
    · rw [decide_eq_false q]; exact beq_eq_false_iff_ne.2 (by omega)
  rw [aqueductref05_Kind.l0, if_pos (by omega)]
  cases x with
  | true => rw [if_pos rfl, if_pos (by omega), if_pos (by omega), e, eb, w64 ((i : Int) + 1) ((i + 1 : Nat) : Int) (by omega) (by omega) (by omega), Bool.true_and]
  | false => rw [if_neg (by decide), w64 ((i : Int) + 1) ((i + 1 : Nat) : Int) (by omega) (by omega) (by omega), Bool.false_and]
theorem rounds {α : Type} {f : Nat → Option α} {r : α} (hm : ∀ k, LeO (f k) (f (k + 1))) {K : Nat} (h : f K = some r) : ∀ k, K ≤ k → f k = some r := fun k hk => at_rounds hm hk h
theorem rkindE (a : ByteArray) : ∀ k, 7 ≤ k → aqueductref05_Kind.f k a = some (kindB a) := by
  refine rounds (aqueductref05_Kind.mono a) (K := 7) ?_
  unfold aqueductref05_Kind.f kindB kindS
  rw [B_length]
  by_cases h : a.size = 6
  · rw [if_pos (by omega), if_pos h]
    obtain ⟨b0, b1, b2, b3, b4, b5, e⟩ := six (l := B a) (by rw [B_length, h])
    obtain ⟨e0, k0⟩ := bt_nat a (i := 0) (b := b0) (by rw [e]; rfl)
    rw [show ((0 : Nat) : Int) = 0 from rfl] at e0
    rw [show (0 : Int) = ((0 : Nat) : Int) from rfl, rk_step 6 a true 0 h (by decide) (b := b0) (by rw [e]; rfl), rk_step 5 a _ 1 h (by decide) (b := b1) (by rw [e]; rfl), rk_step 4 a _ 2 h (by decide) (b := b2) (by rw [e]; rfl),
      rk_step 3 a _ 3 h (by decide) (b := b3) (by rw [e]; rfl), rk_step 2 a _ 4 h (by decide) (b := b4) (by rw [e]; rfl), rk_step 1 a _ 5 h (by decide) (b := b5) (by rw [e]; rfl)]
    rw [aqueductref05_Kind.l0, if_neg (by decide), e]
    have q : ([b0, b1, b2, b3, b4, b5] = [255, 255, 255, 255, 255, 255]) ↔ (((((((true && decide (b0 = 255)) && decide (b1 = 255)) && decide (b2 = 255)) && decide (b3 = 255)) && decide (b4 = 255)) && decide (b5 = 255)) = true) := by
      simp [and_assoc]
    by_cases h2 : [b0, b1, b2, b3, b4, b5] = [255, 255, 255, 255, 255, 255]
    · rw [if_pos (q.1 h2), if_pos h2]
    · rw [if_neg (fun z => h2 (q.2 z)), if_neg h2, if_pos (by omega), e0, w64 (b0 : Int) b0 rfl (by omega) (by omega)]
      have m : Int.tmod (b0 : Int) 2 = ((b0 % 2 : Nat) : Int) := rfl
      rw [m, show [b0, b1, b2, b3, b4, b5].getD 0 0 = b0 from rfl]
      by_cases h3 : b0 % 2 = 1
      · rw [if_pos (by omega), if_pos h3]
      · rw [if_neg (by omega), if_neg h3]
  · rw [if_neg (by omega), if_neg h]
theorem kindsE0 (l : List ByteArray) (x : Int) (hl : l.length ≤ 1099511627776) : ∀ d i k, i ≤ l.length → l.length - i = d → d + 7 < k → aqueductref16_kinds.l0 k l x (i : Int) = some (((l.drop i).all fun s => kindB s == x) && decide (l.length ≤ 16)) := by
  intro d
  induction d with
  | zero =>
    intro i k hi hd hk
    obtain ⟨k, rfl⟩ : ∃ m, k = m + 1 := ⟨k - 1, by omega⟩
    simp only [aqueductref16_kinds.l0]
    rw [if_neg (by omega), List.drop_of_length_le (by omega)]
    congr 1
    simp only [List.all_nil, Bool.true_and]
    rw [Bool.eq_iff_iff, decide_eq_true_eq, decide_eq_true_eq]
    omega
  | succ d ih =>
    intro i k hi hd hk
    obtain ⟨k, rfl⟩ : ∃ m, k = m + 1 := ⟨k - 1, by omega⟩
    simp only [aqueductref16_kinds.l0]
    rw [if_pos (by omega), if_pos (by omega), w1 (show i < l.length by omega) hl, rkindE _ _ (by omega), rdS_drop (show i < l.length by omega)]
    simp only [Option.bind_some, List.all_cons]
    by_cases e : kindB (rdOf ByteArray.empty l (i : Int)) = x
    · rw [if_pos e, e, ih (i + 1) k (by omega) (by omega) (by omega)]
      simp
    · rw [if_neg e, show (kindB (rdOf ByteArray.empty l (i : Int)) == x) = false from beq_eq_false_iff_ne.2 e]
      rfl
theorem kindsE (l : List ByteArray) (x : Int) (hl : l.length ≤ 1099511627776) (k : Nat) (hk : l.length + 7 < k) : aqueductref16_kinds.f k l x = some ((l.all fun s => kindB s == x) && decide (l.length ≤ 16)) :=
  kindsE0 l x hl l.length 0 k (by omega) (by omega) hk
theorem netsE0 (l : List Int) (hl : l.length ≤ 1099511627776) : ∀ d i k, i ≤ l.length → l.length - i = d → d < k → -1 ≤ lastOf l i → aqueductref16_Nets.l0 k l (i : Int) = some (netsFrom (lastOf l i) (l.drop i)) := by
  intro d
  induction d with
  | zero =>
    intro i k hi hd hk hp
    obtain ⟨k, rfl⟩ : ∃ m, k = m + 1 := ⟨k - 1, by omega⟩
    simp only [aqueductref16_Nets.l0]
    rw [if_neg (by omega), List.drop_of_length_le (by omega)]
    rfl
  | succ d ih =>
    intro i k hi hd hk hp
    obtain ⟨k, rfl⟩ : ∃ m, k = m + 1 := ⟨k - 1, by omega⟩
    have hil : i < l.length := by omega
    have nx := ih (i + 1) k (by omega) (by omega) (by omega)
    have hl1 : lastOf l (i + 1) = rd l (i : Int) := by unfold lastOf; rw [if_neg (by omega)]; simp [rd]
    rw [hl1] at nx
    simp only [aqueductref16_Nets.l0]
    rw [if_pos (by omega), if_pos (by omega), w1 hil hl, rd_drop hil]
    obtain ⟨x, hx⟩ : ∃ x, rd l (i : Int) = x := ⟨_, rfl⟩
    rw [hx] at nx ⊢
    simp only [netsFrom, okN]
    cases i with
    | zero =>
      have e0 : lastOf l 0 = -1 := rfl
      rw [e0, if_neg (show ¬ ((0 : Nat) : Int) > 0 by decide)]
      by_cases h1 : x < 0
      · rw [if_pos h1, decide_eq_false (by omega)]; rfl
      · rw [if_neg h1]
        by_cases h2 : x > 4094
        · rw [if_pos h2, decide_eq_false (by omega)]; rfl
        · rw [if_neg h2, nx (by omega), decide_eq_true (by omega)]; rfl
    | succ i =>
      have e0 : lastOf l (i + 1) = rd l (i : Int) := by unfold lastOf; rw [if_neg (by omega)]; simp [rd]
      have e1 : wrap64 (((i + 1 : Nat) : Int) - 1) = (i : Int) := by rw [wrap64_in (by omega) (by omega)]; omega
      rw [e1, e0, if_pos (show ((i + 1 : Nat) : Int) > 0 by omega), if_pos (show (0 : Int) ≤ (i : Int) by omega), if_pos (show (i : Int) < (l.length : Int) by omega)]
      rw [e0] at hp
      obtain ⟨y, hy⟩ : ∃ y, rd l (i : Int) = y := ⟨_, rfl⟩
      rw [hy] at hp ⊢
      by_cases h1 : x < 0
      · rw [if_pos h1, decide_eq_false (by omega)]; rfl
      · rw [if_neg h1]
        by_cases h2 : x > 4094
        · rw [if_pos h2, decide_eq_false (by omega)]; rfl
        · rw [if_neg h2]
          by_cases h3 : x ≤ y
          · rw [if_pos h3, decide_eq_false (by omega)]; rfl
          · rw [if_neg h3, nx (by omega), decide_eq_true (by omega)]; rfl
theorem rnetsE (l : List Int) (hl : l.length ≤ 1099511627776) (k : Nat) (hk : l.length < k) : aqueductref16_Nets.f k l = some (netsS l) :=
  netsE0 l hl l.length 0 k (by omega) (by omega) hk (show (-1 : Int) ≤ lastOf l 0 from Int.le_refl _)
theorem rcheckE (m : ByteArray) (b1 b2 b3 b4 b5 b6 : Bool) (us ms : List ByteArray) (b9 : Bool) (vs : List Int) (h7 : us.length ≤ 1099511627776) (h8 : ms.length ≤ 1099511627776) (h10 : vs.length ≤ 1099511627776) (k : Nat) (hk : us.length + ms.length + vs.length + 8 < k) :
    aqueductref16_Check.f k m b1 b2 b3 b4 b5 b6 us ms b9 vs = some (checkS m us ms vs) := by
  unfold aqueductref16_Check.f checkS
  rw [rkindE _ _ (by omega), kindsE _ _ h7 _ (by omega), kindsE _ _ h8 _ (by omega), rnetsE _ h10 _ (by omega)]
  simp only [Option.bind_some, Bool.and_eq_true, decide_eq_true_eq]
  by_cases c1 : kindB m = 1
  · rw [if_pos c1]
    by_cases c2 : (us.all (fun s => kindB s == 1) = true ∧ us.length ≤ 16)
    · rw [if_pos c2]
      by_cases c3 : (ms.all (fun s => kindB s == 2) = true ∧ ms.length ≤ 16)
      · rw [if_pos c3]
        by_cases c4 : netsS vs = true
        · rw [if_pos c4, if_pos ⟨c1, c2.2, c3.2, c2.1, c3.1, c4⟩]
        · rw [if_neg c4, if_neg (fun q => c4 q.2.2.2.2.2)]
      · rw [if_neg c3, if_neg (fun q => c3 ⟨q.2.2.2.2.1, q.2.2.1⟩)]
    · rw [if_neg c2, if_neg (fun q => c2 ⟨q.2.2.2.1, q.2.1⟩)]
  · rw [if_neg c1, if_neg (fun q => c1 q.1)]
/-! ### Admits -/
def takes (m : ByteArray) (b2 b3 b4 b5 b6 : Bool) (us ms : List ByteArray) (d : ByteArray) : Bool :=
  if kindB d = 3 then !b6 else if kindB d = 2 then b3 || (!b5 && hasS ms d) else b2 || (!b4 && (d.toList == m.toList || hasS us d))
def admitsS (m : ByteArray) (b1 b2 b3 b4 b5 b6 : Bool) (us ms : List ByteArray) (b9 : Bool) (vs : List Int) (s : ByteArray) : Bool :=
  (parseS (B s)).e == 0 && !(b9 && decide (0 ≤ (parseS (B s)).v) && !vs.contains (parseS (B s)).v) && (b1 || takes m b2 b3 b4 b5 b6 us ms (mk (parseS (B s)).d))
theorem adm_j (m : ByteArray) (b1 b2 b3 b4 b5 b6 : Bool) (us ms : List ByteArray) (b9 : Bool) (vs : List Int) (h7 : us.length ≤ 1099511627776) (h8 : ms.length ≤ 1099511627776) (x : Bool) (d s2 : ByteArray) (v p t : Int) (b : ByteArray) (k : Nat) (hk : us.length + ms.length + 1 < k) :
    filter_Admits.j0 k x m b1 b2 b3 b4 b5 b6 us ms b9 vs d s2 v p t b = some (!x && (b1 || takes m b2 b3 b4 b5 b6 us ms d)) := by
  obtain ⟨k, rfl⟩ : ∃ m, k = m + 1 := ⟨k - 1, by omega⟩
  rw [filter_Admits.j0]
  cases x with
  | true => rfl
  | false =>
    rw [if_neg (by decide)]
    cases b1 with
    | true => rfl
    | false =>
      rw [if_neg (by decide), kindE, containsS _ _ h8 _ (by omega), containsS _ _ h7 _ (by omega)]
      simp only [Option.bind_some, takes, Bool.not_false, Bool.true_and, Bool.false_or]
      by_cases c1 : kindB d = 3
      · rw [if_pos c1, if_pos c1]
      · rw [if_neg c1, if_neg c1]
        by_cases c2 : kindB d = 2
        · rw [if_pos c2, if_pos c2]
          cases b3 <;> cases b5 <;> rfl
        · rw [if_neg c2, if_neg c2]
          by_cases c3 : d.toList = m.toList
          · rw [if_pos c3, show (d.toList == m.toList) = true from beq_iff_eq.2 c3]
            cases b2 <;> cases b4 <;> rfl
          · rw [if_neg c3, show (d.toList == m.toList) = false from beq_eq_false_iff_ne.2 c3]
            cases b2 <;> cases b4 <;> rfl
theorem admE (m : ByteArray) (b1 b2 b3 b4 b5 b6 : Bool) (us ms : List ByteArray) (b9 : Bool) (vs : List Int) (h7 : us.length ≤ 1099511627776) (h8 : ms.length ≤ 1099511627776) (h10 : vs.length ≤ 1099511627776) (s : ByteArray) (k : Nat) (hk : us.length + ms.length + vs.length + 1 < k) :
    filter_Admits.f k m b1 b2 b3 b4 b5 b6 us ms b9 vs s = some (admitsS m b1 b2 b3 b4 b5 b6 us ms b9 vs s) := by
  unfold filter_Admits.f admitsS
  obtain ⟨⟨d, s2, v, p, t, b, e⟩, hz⟩ : ∃ x, parseS (B s) = x := ⟨_, rfl⟩
  rw [parseE, Option.bind_some, hz, show (⟨d, s2, v, p, t, b, e⟩ : Fr).out = (mk d, mk s2, v, p, t, mk b, e) from rfl]
  dsimp only
  by_cases c1 : e = 0
  · rw [if_pos c1, show (e == 0) = true from beq_iff_eq.2 c1, Bool.true_and]
    cases b9 with
    | true =>
      rw [if_pos rfl]
      by_cases c2 : 0 ≤ v
      · rw [if_pos c2, containsI _ _ h10 _ (by omega), Option.bind_some, adm_j _ _ _ _ _ _ _ _ _ _ _ h7 h8 _ _ _ _ _ _ _ _ (by omega), decide_eq_true c2]
        simp only [Bool.and_true, Bool.true_and]
      · rw [if_neg c2, adm_j _ _ _ _ _ _ _ _ _ _ _ h7 h8 _ _ _ _ _ _ _ _ (by omega), decide_eq_false c2]
        rfl
    | false =>
      rw [if_neg (by decide), adm_j _ _ _ _ _ _ _ _ _ _ _ h7 h8 _ _ _ _ _ _ _ _ (by omega)]
      rfl
  · rw [if_neg c1, show (e == 0) = false from beq_eq_false_iff_ne.2 c1, adm_j _ _ _ _ _ _ _ _ _ _ _ h7 h8 _ _ _ _ _ _ _ _ (by omega)]
    rfl
theorem radm_j (m : ByteArray) (b1 b2 b3 b4 b5 b6 : Bool) (us ms : List ByteArray) (b9 : Bool) (vs : List Int) (h7 : us.length ≤ 1099511627776) (h8 : ms.length ≤ 1099511627776) (x : Bool) (d s2 : ByteArray) (v p t : Int) (b : ByteArray) (k : Nat) (hk : us.length + ms.length + 9 < k) :
    aqueductref16_Admits.j0 k x m b1 b2 b3 b4 b5 b6 us ms b9 vs d s2 v p t b = some (!x && (b1 || takes m b2 b3 b4 b5 b6 us ms d)) := by
  obtain ⟨k, rfl⟩ : ∃ m, k = m + 1 := ⟨k - 1, by omega⟩
  rw [aqueductref16_Admits.j0]
  cases x with
  | true => rfl
  | false =>
    rw [if_neg (by decide), rkindE _ _ (by omega), hasE _ _ h8 _ (by omega), hasE _ _ h7 _ (by omega)]
    simp only [Option.bind_some, takes, Bool.not_false, Bool.true_and]
    by_cases c1 : kindB d = 3
    · rw [if_pos c1, if_pos c1]
      cases b1 <;> rfl
    · rw [if_neg c1, if_neg c1]
      by_cases c2 : kindB d = 2
      · rw [if_pos c2, if_pos c2]
        cases b1 <;> cases b3 <;> cases b5 <;> rfl
      · rw [if_neg c2, if_neg c2]
        by_cases c3 : d.toList = m.toList
        · rw [if_pos c3, show (d.toList == m.toList) = true from beq_iff_eq.2 c3]
          cases b1 <;> cases b2 <;> cases b4 <;> rfl
        · rw [if_neg c3, show (d.toList == m.toList) = false from beq_eq_false_iff_ne.2 c3]
          cases b1 <;> cases b2 <;> cases b4 <;> rfl
theorem radmE (m : ByteArray) (b1 b2 b3 b4 b5 b6 : Bool) (us ms : List ByteArray) (b9 : Bool) (vs : List Int) (h7 : us.length ≤ 1099511627776) (h8 : ms.length ≤ 1099511627776) (h10 : vs.length ≤ 1099511627776) (s : ByteArray) (hs : s.size ≤ 140737488351232) (k : Nat) (hk : us.length + ms.length + vs.length + 9 < k) :
    aqueductref16_Admits.f k m b1 b2 b3 b4 b5 b6 us ms b9 vs s = some (admitsS m b1 b2 b3 b4 b5 b6 us ms b9 vs s) := by
  unfold aqueductref16_Admits.f admitsS
  obtain ⟨⟨d, s2, v, p, t, b, e⟩, hz⟩ : ∃ x, parseS (B s) = x := ⟨_, rfl⟩
  have hP : aqueductref06_Parse.f k s = some (parseS (B s)).out := rparse_at s hs k (by omega)
  rw [hP, Option.bind_some, hz, show (⟨d, s2, v, p, t, b, e⟩ : Fr).out = (mk d, mk s2, v, p, t, mk b, e) from rfl]
  dsimp only
  by_cases c1 : e = 0
  · rw [if_pos c1, show (e == 0) = true from beq_iff_eq.2 c1, Bool.true_and]
    cases b9 with
    | true =>
      rw [if_pos rfl]
      by_cases c2 : 0 ≤ v
      · rw [if_pos c2, netE _ _ h10 _ (by omega), Option.bind_some, radm_j _ _ _ _ _ _ _ _ _ _ _ h7 h8 _ _ _ _ _ _ _ _ (by omega), decide_eq_true c2]
        simp only [Bool.and_true, Bool.true_and]
      · rw [if_neg c2, radm_j _ _ _ _ _ _ _ _ _ _ _ h7 h8 _ _ _ _ _ _ _ _ (by omega), decide_eq_false c2]
        rfl
    | false =>
      rw [if_neg (by decide), radm_j _ _ _ _ _ _ _ _ _ _ _ h7 h8 _ _ _ _ _ _ _ _ (by omega)]
      rfl
  · rw [if_neg c1, show (e == 0) = false from beq_eq_false_iff_ne.2 c1, radm_j _ _ _ _ _ _ _ _ _ _ _ h7 h8 _ _ _ _ _ _ _ _ (by omega)]
    rfl
end Go.Proofs.Ytnckogdplcijiaa.Fl
