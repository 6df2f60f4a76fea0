/- Filters: contracts by hand, and the laws over them. -/
import Derived.Test.YtnckogdplcijiaaOwn
import Derived.Test.YtnckogdplcijiaaHParse
import Derived.Test.YtnckogdplcijiaaClo
import Derived.Test.YtnckogdplcijiaaPx4
import Derived.Test.YtnckogdplcijiaaPx5
namespace Go.Proofs.Ytnckogdplcijiaa.Fl
open Go Go.RowKit Go.Proofs.YtnckogdplcijiaaW.PrintWords Go.Proofs.YtnckogdplcijiaaW.PrintLast Go.Proofs.YtnckogdplcijiaaW.PrintMore Go.Proofs.Ytnckogdplcijiaa.Mth Go.Proofs.Ytnckogdplcijiaa.P Go.Proofs.Ytnckogdplcijiaa.Own Go.Proofs
set_option linter.unusedVariables false
set_option linter.unusedSimpArgs false
/-! ### Frames, taken apart -/
def mayS (t : Int) : Bool := decide (1536 ≤ t ∧ t ≤ 65535 ∧ t ≠ 33024)
theorem mayE (t : Int) : eth_may.f t = some (mayS t) := by
  unfold eth_may.f mayS
  by_cases h1 : t ≥ 1536
  · by_cases h2 : t ≤ 65535
    · rw [if_pos h1, if_pos h2]
      congr 1
      rw [Bool.eq_iff_iff]
      simp only [bne_iff_ne, decide_eq_true_eq]
      constructor
      · intro h; exact ⟨h1, h2, h⟩
      · intro h; exact h.2.2
    · rw [if_pos h1, if_neg h2, decide_eq_false (fun h => h2 h.2.1)]
  · rw [if_neg h1, decide_eq_false (fun h => h1 h.1)]
theorem may_bd {t : Int} (h : mayS t = true) : 1536 ≤ t ∧ t ≤ 65535 ∧ t ≠ 33024 := of_decide_eq_true h
def n2 (l : List Nat) (a : Nat) : Nat := l.getD a 0 * 256 + l.getD (a + 1) 0
theorem n2_lt {l : List Nat} (h : Bt l) (a : Nat) : n2 l a < 65536 := by
  have h1 := getD_lt h a
  have h2 := getD_lt h (a + 1)
  unfold n2; omega
/-- What a frame is, and why it is none. -/
structure Fr where
  d : List Nat
  s : List Nat
  v : Int
  p : Int
  t : Int
  b : List Nat
  e : Int
def Fr.no (e : Int) : Fr := ⟨[], [], 0, 0, 0, [], e⟩
def parseS (l : List Nat) : Fr :=
  if 1518 < l.length then Fr.no 61
  else if l.length < 14 then Fr.no 60
  else if n2 l 12 = 33024 then
    (if l.length < 18 then Fr.no 60
    else if n2 l 14 / 4096 % 2 = 1 ∨ n2 l 14 % 4096 = 4095 ∨ mayS (n2 l 16 : Int) = false then Fr.no 61
    else ⟨l.take 6, (l.drop 6).take 6, ((n2 l 14 % 4096 : Nat) : Int), ((n2 l 14 / 8192 : Nat) : Int), (n2 l 16 : Int), l.drop 18, 0⟩)
  else if mayS (n2 l 12 : Int) = false then Fr.no 61
  else ⟨l.take 6, (l.drop 6).take 6, -1, 0, (n2 l 12 : Int), l.drop 14, 0⟩
/-- The same, as the functions hand it back. -/
def Fr.out (x : Fr) : ByteArray × ByteArray × Int × Int × Int × ByteArray × Int := (Mth.mk x.d, Mth.mk x.s, x.v, x.p, x.t, Mth.mk x.b, x.e)
theorem numE (s : ByteArray) (a : Nat) : numS s a = ((n2 (B s) a : Nat) : Int) := by
  unfold numS n2
  rw [bt_eq, bt_eq]
  omega
theorem mk_take (s : ByteArray) (n : Nat) : s.extract 0 n = mk ((B s).take n) := by
  apply B_inj; rw [B_extract, B_mk ((B_bt s).take _), List.drop_zero]
theorem mk_mid (s : ByteArray) : s.extract 6 12 = mk (((B s).drop 6).take 6) := by
  apply B_inj; rw [B_extract, B_mk (((B_bt s).drop _).take _), List.drop_take]
theorem mk_drop (s : ByteArray) (n : Nat) : s.extract n s.size = mk ((B s).drop n) := by
  apply B_inj; rw [B_extract, B_mk ((B_bt s).drop _), List.take_of_length_le (by rw [B_length]; exact Nat.le_refl _)]
theorem bit12 (t : Nat) (h : t < 65536) : (Go.bits .and .i64 (t : Int) 4096 != 0) = decide (t / 4096 % 2 = 1) := by
  have := (bits_nat_i64 t (2 ^ 12) (by omega) (by decide)).1
  rw [show (((2 : Nat) ^ 12 : Nat) : Int) = 4096 from rfl] at this
  rw [this, nat_and_bit, Bool.eq_iff_iff]
  simp only [bne_iff_ne, ne_eq, decide_eq_true_eq]
  omega
theorem low12 (t : Nat) (h : t < 65536) : Go.bits .and .i64 (t : Int) 4095 = ((t % 4096 : Nat) : Int) := by
  have := and_i64 (t : Int) 12 (by decide)
  rw [show (((2 : Nat) ^ 12 - 1 : Nat) : Int) = 4095 from rfl] at this
  rw [this]; omega
theorem parseE (s : ByteArray) : eth_Parse.f s = some (parseS (B s)).out := by
  unfold eth_Parse.f parseS
  rw [B_length]
  by_cases c1 : s.size > 1518
  · rw [if_pos (show (s.size : Int) > 1518 by omega), if_pos (show 1518 < s.size by omega)]; rfl
  rw [if_neg (show ¬ (s.size : Int) > 1518 by omega), if_neg (show ¬ 1518 < s.size by omega)]
  by_cases c2 : s.size < 14
  · rw [if_pos c2, if_pos c2]; rfl
  rw [if_neg c2, if_neg c2, numE, numE, numE]
  have b14 := n2_lt (B_bt s) 14
  by_cases c3 : n2 (B s) 12 = 33024
  · rw [if_pos (by omega), if_pos c3]
    by_cases c4 : s.size < 18
    · rw [if_pos c4, if_pos c4]; rfl
    rw [if_neg c4, if_neg c4, bit12 _ b14, low12 _ b14, mayE]
    by_cases c5 : n2 (B s) 14 / 4096 % 2 = 1
    · rw [if_pos (decide_eq_true c5), if_pos (Or.inl c5)]; rfl
    rw [if_neg (by simpa using c5)]
    by_cases c6 : n2 (B s) 14 % 4096 = 4095
    · rw [if_pos (decide_eq_true (by omega)), if_pos (Or.inr (Or.inl c6))]; rfl
    rw [if_neg (by simp; omega)]
    simp only [Option.bind_some]
    cases hm : mayS ((n2 (B s) 16 : Nat) : Int) with
    | false => rw [if_neg (by decide), if_pos (Or.inr (Or.inr rfl))]; rfl
    | true =>
      rw [if_pos rfl, if_neg (by rintro (h | h | h); exact c5 h; exact c6 h; exact absurd h (by decide)), mk_take, mk_mid, mk_drop]
      unfold Fr.out
      rfl
  · rw [if_neg (by omega), if_neg c3, mayE]
    simp only [Option.bind_some]
    cases hm : mayS ((n2 (B s) 12 : Nat) : Int) with
    | false => rw [if_neg (by decide), if_pos rfl]; rfl
    | true =>
      rw [if_pos rfl, if_neg (by decide), mk_take, mk_mid, mk_drop]
      rfl
/-! ### What the functions come to -/
def hasS (l : List ByteArray) (s : ByteArray) : Bool := l.any fun x => x.toList == s.toList
theorem rd_drop {l : List Int} {i : Nat} (h : i < l.length) : l.drop i = rd l (i : Int) :: l.drop (i + 1) := by
  rw [List.drop_eq_getElem_cons h]
  simp [rd, List.getD_eq_getElem?_getD, List.getElem?_eq_getElem h]
theorem rdS_drop {l : List ByteArray} {i : Nat} (h : i < l.length) : l.drop i = rdOf ByteArray.empty l (i : Int) :: l.drop (i + 1) := by
  rw [List.drop_eq_getElem_cons h]
  simp [rdOf, List.getD_eq_getElem?_getD, List.getElem?_eq_getElem h]
theorem w1 {i n : Nat} (h : i < n) (hn : n ≤ 1099511627776) : wrap64 ((i : Int) + 1) = ((i + 1 : Nat) : Int) := by rw [wrap64_in (by omega) (by omega)]; omega
theorem indexI (l : List Int) (x : Int) (hl : l.length ≤ 1099511627776) : ∀ d i k, i ≤ l.length → l.length - i = d → d < k → ∃ r, slices_Index_int_int.l0 k l x (l.length : Int) (i : Int) = some r ∧ (decide (r ≥ 0)) = (l.drop i).contains x := by
  intro d
  induction d with
  | zero =>
    intro i k hi hd hk
    obtain ⟨k, rfl⟩ : ∃ m, k = m + 1 := ⟨k - 1, by omega⟩
    simp only [slices_Index_int_int.l0]
    rw [if_neg (by omega), List.drop_of_length_le (by omega)]
    exact ⟨_, rfl, rfl⟩
  | succ d ih =>
    intro i k hi hd hk
    obtain ⟨k, rfl⟩ : ∃ m, k = m + 1 := ⟨k - 1, by omega⟩
    simp only [slices_Index_int_int.l0]
    rw [if_pos (by omega), if_pos (by omega), if_pos (by omega), w1 (show i < l.length by omega) hl, rd_drop (show i < l.length by omega), List.contains_cons]
    by_cases e : x = rd l (i : Int)
    · rw [if_pos e, ← e]
      refine ⟨_, rfl, ?_⟩
      simp
    · rw [if_neg e, show (x == rd l (i : Int)) = false from beq_eq_false_iff_ne.2 e, Bool.false_or]
      exact ih (i + 1) k (by omega) (by omega) (by omega)
theorem containsI (l : List Int) (x : Int) (hl : l.length ≤ 1099511627776) (k : Nat) (hk : l.length < k) : slices_Contains_int_int.f k l x = some (l.contains x) := by
  unfold slices_Contains_int_int.f slices_Index_int_int.f
  obtain ⟨r, e, h⟩ := indexI l x hl l.length 0 k (by omega) (by omega) hk
  have e' : slices_Index_int_int.l0 k l x (l.length : Int) 0 = some r := e
  rw [e', Option.bind_some, h]
  rfl
theorem indexS (l : List ByteArray) (x : ByteArray) (hl : l.length ≤ 1099511627776) : ∀ d i k, i ≤ l.length → l.length - i = d → d < k → ∃ r, slices_Index_string_string.l0 k l x (l.length : Int) (i : Int) = some r ∧ (decide (r ≥ 0)) = hasS (l.drop i) x := by
  intro d
  induction d with
  | zero =>
    intro i k hi hd hk
    obtain ⟨k, rfl⟩ : ∃ m, k = m + 1 := ⟨k - 1, by omega⟩
    simp only [slices_Index_string_string.l0]
    rw [if_neg (by omega), List.drop_of_length_le (by omega)]
    exact ⟨_, rfl, rfl⟩
  | succ d ih =>
    intro i k hi hd hk
    obtain ⟨k, rfl⟩ : ∃ m, k = m + 1 := ⟨k - 1, by omega⟩
    simp only [slices_Index_string_string.l0]
    rw [if_pos (by omega), if_pos (by omega), if_pos (by omega), w1 (show i < l.length by omega) hl, rdS_drop (show i < l.length by omega)]
    simp only [hasS, List.any_cons]
    by_cases e : x.toList = (rdOf ByteArray.empty l (i : Int)).toList
    · rw [if_pos e, ← e]
      refine ⟨_, rfl, ?_⟩
      simp
    · rw [if_neg e, show ((rdOf ByteArray.empty l (i : Int)).toList == x.toList) = false from beq_eq_false_iff_ne.2 (fun h => e h.symm), Bool.false_or]
      exact ih (i + 1) k (by omega) (by omega) (by omega)
theorem containsS (l : List ByteArray) (x : ByteArray) (hl : l.length ≤ 1099511627776) (k : Nat) (hk : l.length < k) : slices_Contains_string_string.f k l x = some (hasS l x) := by
  unfold slices_Contains_string_string.f slices_Index_string_string.f
  obtain ⟨r, e, h⟩ := indexS l x hl l.length 0 k (by omega) (by omega) hk
  have e' : slices_Index_string_string.l0 k l x (l.length : Int) 0 = some r := e
  rw [e', Option.bind_some, h]
  rfl
/-! ### Admits -/
def takes (m : ByteArray) (b2 b3 b4 b5 b6 : Bool) (us ms : List ByteArray) (d : ByteArray) : Bool :=
  if kindB d = 3 then !b6 else if kindB d = 2 then b3 || (!b5 && hasS ms d) else b2 || (!b4 && (d.toList == m.toList || hasS us d))
def admitsS (m : ByteArray) (b1 b2 b3 b4 b5 b6 : Bool) (us ms : List ByteArray) (b9 : Bool) (vs : List Int) (s : ByteArray) : Bool :=
  (parseS (B s)).e == 0 && !(b9 && decide (0 ≤ (parseS (B s)).v) && !vs.contains (parseS (B s)).v) && (b1 || takes m b2 b3 b4 b5 b6 us ms (mk (parseS (B s)).d))
theorem adm_j (m : ByteArray) (b1 b2 b3 b4 b5 b6 : Bool) (us ms : List ByteArray) (b9 : Bool) (vs : List Int) (h7 : us.length ≤ 1099511627776) (h8 : ms.length ≤ 1099511627776) (x : Bool) (d s2 : ByteArray) (v p t : Int) (b : ByteArray) (k : Nat) (hk : us.length + ms.length + 1 < k) :
    filter_Admits.j0 k x m b1 b2 b3 b4 b5 b6 us ms b9 vs d s2 v p t b = some (!x && (b1 || takes m b2 b3 b4 b5 b6 us ms d)) := by
  obtain ⟨k, rfl⟩ : ∃ m, k = m + 1 := ⟨k - 1, by omega⟩
  rw [filter_Admits.j0]
  cases x with
  | true => rfl
  | false =>
    rw [if_neg (by decide)]
    cases b1 with
    | true => rfl
    | false =>
      rw [if_neg (by decide), kindE, containsS _ _ h8 _ (by omega), containsS _ _ h7 _ (by omega)]
      simp only [Option.bind_some, takes, Bool.not_false, Bool.true_and, Bool.false_or]
      by_cases c1 : kindB d = 3
      · rw [if_pos c1, if_pos c1]
      · rw [if_neg c1, if_neg c1]
        by_cases c2 : kindB d = 2
        · rw [if_pos c2, if_pos c2]
          cases b3 <;> cases b5 <;> rfl
        · rw [if_neg c2, if_neg c2]
          by_cases c3 : d.toList = m.toList
          · rw [if_pos c3, show (d.toList == m.toList) = true from beq_iff_eq.2 c3]
            cases b2 <;> cases b4 <;> rfl
          · rw [if_neg c3, show (d.toList == m.toList) = false from beq_eq_false_iff_ne.2 c3]
            cases b2 <;> cases b4 <;> rfl
theorem admE (m : ByteArray) (b1 b2 b3 b4 b5 b6 : Bool) (us ms : List ByteArray) (b9 : Bool) (vs : List Int) (h7 : us.length ≤ 1099511627776) (h8 : ms.length ≤ 1099511627776) (h10 : vs.length ≤ 1099511627776) (s : ByteArray) (k : Nat) (hk : us.length + ms.length + vs.length + 1 < k) :
    filter_Admits.f k m b1 b2 b3 b4 b5 b6 us ms b9 vs s = some (admitsS m b1 b2 b3 b4 b5 b6 us ms b9 vs s) := by
  unfold filter_Admits.f admitsS
  obtain ⟨⟨d, s2, v, p, t, b, e⟩, hz⟩ : ∃ x, parseS (B s) = x := ⟨_, rfl⟩
  rw [parseE, Option.bind_some, hz, show (⟨d, s2, v, p, t, b, e⟩ : Fr).out = (mk d, mk s2, v, p, t, mk b, e) from rfl]
  dsimp only
  by_cases c1 : e = 0
  · rw [if_pos c1, show (e == 0) = true from beq_iff_eq.2 c1, Bool.true_and]
    cases b9 with
    | true =>
      rw [if_pos rfl]
      by_cases c2 : 0 ≤ v
      · rw [if_pos c2, containsI _ _ h10 _ (by omega), Option.bind_some, adm_j _ _ _ _ _ _ _ _ _ _ _ h7 h8 _ _ _ _ _ _ _ _ (by omega), decide_eq_true c2]
        simp only [Bool.and_true, Bool.true_and]
      · rw [if_neg c2, adm_j _ _ _ _ _ _ _ _ _ _ _ h7 h8 _ _ _ _ _ _ _ _ (by omega), decide_eq_false c2]
        rfl
    | false =>
      rw [if_neg (by decide), adm_j _ _ _ _ _ _ _ _ _ _ _ h7 h8 _ _ _ _ _ _ _ _ (by omega)]
      rfl
  · rw [if_neg c1, show (e == 0) = false from beq_eq_false_iff_ne.2 c1, adm_j _ _ _ _ _ _ _ _ _ _ _ h7 h8 _ _ _ _ _ _ _ _ (by omega)]
    rfl
end Go.Proofs.Ytnckogdplcijiaa.Fl
