/- What the functions that the law  reaches come to, as lists of bytes and numbers; for strings of at most 2^48 bytes. -/
import Derived.Test.YtbecpkkhpjigbaaMth
import Derived.Test.YtbecpkkhpjigbaaPx2
import Derived.Test.YtbecpkkhpjigbaaPx3
import Derived.Test.YtbecpkkhpjigbaaPx4
import Derived.Test.YtbecpkkhpjigbaaPx5
import Derived.Test.YtbecpkkhpjigbaaPx6
import Derived.Test.YtbecpkkhpjigbaaPx7
import Derived.Test.YtbecpkkhpjigbaaPx8
import Derived.Test.YtbecpkkhpjigbaaPx9
import Derived.Test.YtbecpkkhpjigbaaPx10
import Derived.Test.YtbecpkkhpjigbaaPx11
import Derived.Test.YtbecpkkhpjigbaaPx12
import Derived.Test.YtbecpkkhpjigbaaPx17
import Derived.Test.YtbecpkkhpjigbaaHParse
namespace Go.Proofs.Ytbecpkkhpjigbaa.Wd
open Go Go.RowKit Go.Proofs.Ytbecpkkhpjigbaa.P Go.Proofs.YtbecpkkhpjigbaaW.PrintWords Go.Proofs.YtbecpkkhpjigbaaW.PrintLast Go.Proofs.YtbecpkkhpjigbaaW.PrintMore Go.Proofs.Ytbecpkkhpjigbaa.Mth
set_option linter.unusedVariables false
set_option linter.unusedSimpArgs false

/-! Turn. -/
theorem turn_loop (s : ByteArray) (hs : s.size ≤ 281474976710656) : ∀ (d i k : Nat) (buf : List Int), i ≤ s.size → s.size - i = d → d < k → buf.length = s.size →
    (∀ j, j < i → buf.getD (s.size - 1 - j) 0 = bt s (j : Int)) → words_Turn.l0 k s buf (s.size : Int) (i : Int) = some (mk (B s).reverse) := by
  intro d
  induction d with
  | zero =>
    intro i k buf hi hd hk hl hb
    obtain ⟨k, rfl⟩ : ∃ m, k = m + 1 := ⟨k - 1, by omega⟩
    obtain rfl : i = s.size := by omega
    simp only [words_Turn.l0]
    rw [if_neg (by omega)]
    have e : buf = (B s).reverse.map (fun (x : Nat) => (x : Int)) := by
      apply List.ext_getElem
      · rw [List.length_map, List.length_reverse, B_length, hl]
      · intro n h1 h2
        have h3 := hb (s.size - 1 - n) (by omega)
        rw [show s.size - 1 - (s.size - 1 - n) = n from by omega, List.getD_eq_getElem?_getD, List.getElem?_eq_getElem h1, bt_eq] at h3
        rw [List.getElem_map, List.getElem_reverse]
        simp only [Option.getD_some] at h3
        rw [h3, List.getD_eq_getElem?_getD, List.getElem?_eq_getElem (by rw [B_length]; omega)]
        simp [B_length]
    rw [e, strOfNums_cast]
  | succ d ih =>
    intro i k buf hi hd hk hl hb
    obtain ⟨k, rfl⟩ : ∃ m, k = m + 1 := ⟨k - 1, by omega⟩
    simp only [words_Turn.l0]
    have e1 : wrap64 ((s.size : Int) - 1) = (s.size : Int) - 1 := wrap64_in (by omega) (by omega)
    have e2 : wrap64 ((s.size : Int) - 1 - (i : Int)) = (s.size : Int) - 1 - (i : Int) := wrap64_in (by omega) (by omega)
    have e3 : wrap64 ((i : Int) + 1) = ((i + 1 : Nat) : Int) := by rw [wrap64_in (by omega) (by omega)]; omega
    rw [e1, e2, e3]
    rw [if_pos (by omega), if_pos (by omega), if_pos (by omega), if_pos (by omega), if_pos (by omega)]
    have e4 : ((s.size : Int) - 1 - (i : Int)).toNat = s.size - 1 - i := by omega
    rw [e4]
    apply ih (i + 1) k _ (by omega) (by omega) (by omega) (by rw [List.length_set]; exact hl)
    intro j hj
    rw [List.getD_eq_getElem?_getD, List.getElem?_set]
    by_cases hji : j = i
    · subst hji
      rw [if_pos rfl, if_pos (by omega)]; rfl
    · rw [if_neg (by omega), ← List.getD_eq_getElem?_getD]
      exact hb j (by omega)
theorem turn_at (s : ByteArray) (hs : s.size ≤ 281474976710656) (k : Nat) (hk : s.size < k) : words_Turn.f k s = some (mk (B s).reverse) := by
  unfold words_Turn.f
  rw [if_pos (by omega), if_pos (by omega)]
  exact turn_loop s hs s.size 0 k _ (by omega) (by omega) hk (by simp) (fun j hj => by omega)
theorem turn (s : ByteArray) (hs : s.size ≤ 281474976710656) : Ev (fun k => words_Turn.f k s) (mk (B s).reverse) :=
  ⟨s.size + 1, fun k hk => turn_at s hs k (by omega)⟩
/-! Put. -/
theorem may (v : Nat) (hv : v < 18446744073709551616) (n : Int) : words_may.f (v : Int) n = some (decide (1 ≤ n ∧ n ≤ 8 ∧ v < 256 ^ n.toNat)) := by
  unfold words_may.f
  by_cases h1 : n ≥ 1
  · rw [if_pos h1]
    by_cases h2 : n ≤ 8
    · rw [if_pos h2]
      obtain ⟨m, rfl⟩ := Int.eq_ofNat_of_zero_le (show 0 ≤ n by omega)
      by_cases h3 : (m : Int) = 8
      · rw [if_pos h3]
        obtain rfl : m = 8 := by omega
        have : v < 256 ^ (8 : Nat) := by omega
        simp [this]
      · rw [if_neg h3]
        have e : wrap64 (8 * (m : Int)) = ((8 * m : Nat) : Int) := by rw [wrap64_in (by omega) (by omega)]; omega
        rw [e, if_pos (by omega), shr8 v m (by omega)]
        congr 1
        rw [Bool.eq_iff_iff]
        simp only [beq_iff_eq, decide_eq_true_eq, Int.toNat_natCast]
        rw [show ((v / 256 ^ m : Nat) : Int) = 0 ↔ v / 256 ^ m = 0 by omega, Nat.div_eq_zero_iff]
        have := pow_pos' m
        omega
    · rw [if_neg h2]; congr 1; symm; rw [decide_eq_false_iff_not]; omega
  · rw [if_neg h1]; congr 1; symm; rw [decide_eq_false_iff_not]; omega
theorem put_loop (v n : Nat) (h8 : n ≤ 8) (big : Bool) : ∀ (d i k : Nat) (buf : List Int), i ≤ n → n - i = d → d + 10 < k → buf.length = n →
    (∀ j, j < i → buf.getD (n - 1 - j) 0 = ((v / 256 ^ j % 256 : Nat) : Int)) →
    words_Put.l0 k (v : Int) (n : Int) big buf (n : Int) (i : Int) = some (mk (if big then dig n v else (dig n v).reverse), 0) := by
  intro d
  induction d with
  | zero =>
    intro i k buf hi hd hk hl hb
    obtain ⟨k, rfl⟩ : ∃ m, k = m + 1 := ⟨k - 1, by omega⟩
    obtain rfl : i = n := by omega
    simp only [words_Put.l0]
    rw [if_neg (by omega)]
    have e : buf = (dig i v).map (fun (x : Nat) => (x : Int)) := by
      apply List.ext_getElem
      · rw [List.length_map, dig_length, hl]
      · intro m h1 h2
        have h3 := hb (i - 1 - m) (by omega)
        rw [show i - 1 - (i - 1 - m) = m from by omega, List.getD_eq_getElem?_getD, List.getElem?_eq_getElem h1] at h3
        simp only [Option.getD_some] at h3
        rw [List.getElem_map, h3]
        have h4 := dig_get i v (i - 1 - m) (by omega)
        rw [show i - 1 - (i - 1 - m) = m from by omega, List.getD_eq_getElem?_getD, List.getElem?_eq_getElem (by rw [dig_length]; omega)] at h4
        simp only [Option.getD_some] at h4
        rw [h4]
    rw [e, strOfNums_cast]
    cases big with
    | true => rw [if_pos rfl, if_pos rfl]
    | false =>
      rw [if_neg (by decide), if_neg (by decide), turn_at _ (by rw [mk_size, dig_length]; omega) _ (by rw [mk_size, dig_length]; omega)]
      simp only [Option.bind_some]
      rw [B_mk (dig_bt i v)]
  | succ d ih =>
    intro i k buf hi hd hk hl hb
    obtain ⟨k, rfl⟩ : ∃ m, k = m + 1 := ⟨k - 1, by omega⟩
    simp only [words_Put.l0]
    have e0 : wrap64 (8 * (i : Int)) = ((8 * i : Nat) : Int) := by rw [wrap64_in (by omega) (by omega)]; omega
    have e1 : wrap64 ((n : Int) - 1) = (n : Int) - 1 := wrap64_in (by omega) (by omega)
    have e2 : wrap64 ((n : Int) - 1 - (i : Int)) = (n : Int) - 1 - (i : Int) := wrap64_in (by omega) (by omega)
    have e3 : wrap64 ((i : Int) + 1) = ((i + 1 : Nat) : Int) := by rw [wrap64_in (by omega) (by omega)]; omega
    rw [e0, e1, e2, e3, shr8 v i (by omega)]
    rw [if_pos (by omega), if_pos (by omega), if_pos (by omega), if_pos (by omega)]
    have e4 : ((n : Int) - 1 - (i : Int)).toNat = n - 1 - i := by omega
    rw [e4]
    apply ih (i + 1) k _ (by omega) (by omega) (by omega) (by rw [List.length_set]; exact hl)
    intro j hj
    rw [List.getD_eq_getElem?_getD, List.getElem?_set]
    by_cases hji : j = i
    · subst hji
      rw [if_pos rfl, if_pos (by omega)]
      simp
    · rw [if_neg (by omega), ← List.getD_eq_getElem?_getD]
      exact hb j (by omega)
/-- The n bytes of a number. -/
def putS (v : Nat) (n : Int) (big : Bool) : List Nat × Int :=
  if 1 ≤ n ∧ n ≤ 8 ∧ v < 256 ^ n.toNat then ((if big then dig n.toNat v else (dig n.toNat v).reverse), 0) else ([], 1)
theorem put (v : Nat) (hv : v < 18446744073709551616) (n : Int) (big : Bool) :
    Ev (fun k => words_Put.f k (v : Int) n big) (mk (putS v n big).1, (putS v n big).2) := by
  refine ⟨30, fun k hk => ?_⟩
  show words_Put.f k (v : Int) n big = _
  unfold words_Put.f putS
  rw [may v hv]
  simp only [Option.bind_some]
  by_cases h : 1 ≤ n ∧ n ≤ 8 ∧ v < 256 ^ n.toNat
  · rw [decide_eq_true h, if_pos rfl, if_pos h, if_pos (by omega), if_pos (by omega)]
    obtain ⟨m, rfl⟩ := Int.eq_ofNat_of_zero_le (show 0 ≤ n by omega)
    simp only [Int.toNat_natCast]
    exact put_loop v m (by omega) big m 0 k _ (by omega) (by omega) (by omega) (by simp) (fun j hj => by omega)
  · rw [decide_eq_false h, if_neg (by decide), if_neg h]; rfl
theorem putS_bt (v : Nat) (n : Int) (big : Bool) : Bt (putS v n big).1 := by
  unfold putS
  split
  · cases big
    · exact (dig_bt _ _).reverse
    · exact dig_bt _ _
  · exact Bt.nil
theorem putS_len {v : Nat} {n : Int} {big : Bool} (h : (putS v n big).2 = 0) : ((putS v n big).1.length : Int) = n ∧ 1 ≤ n ∧ n ≤ 8 ∧ v < 256 ^ n.toNat := by
  unfold putS at *
  split
  · rename_i h'
    cases big <;> simp [dig_length] <;> omega
  · rename_i h'
    rw [if_neg h'] at h
    exact absurd h (by decide)
/-! The document's Put. -/
theorem rput_loop (v n : Nat) (hv : v < 18446744073709551616) (h8 : n ≤ 8) (big : Bool) : ∀ (d i k : Nat), i ≤ n → n - i = d → d < k →
    aqueductref01_Put.l0 k ((v / 256 ^ i : Nat) : Int) (n : Int) big (mk (dig i v).reverse) (mk (dig i v)) (i : Int) =
      some (if 0 < v / 256 ^ n then ((⟨#[]⟩ : ByteArray), 1) else (mk (if big then dig n v else (dig n v).reverse), 0)) := by
  intro d
  induction d with
  | zero =>
    intro i k hi hd hk
    obtain ⟨k, rfl⟩ : ∃ m, k = m + 1 := ⟨k - 1, by omega⟩
    obtain rfl : i = n := by omega
    simp only [aqueductref01_Put.l0]
    rw [if_neg (by omega)]
    by_cases h : 0 < v / 256 ^ i
    · rw [if_pos (by omega), if_pos h]
    · rw [if_neg (by omega), if_neg h]
      cases big <;> simp
  | succ d ih =>
    intro i k hi hd hk
    obtain ⟨k, rfl⟩ : ∃ m, k = m + 1 := ⟨k - 1, by omega⟩
    simp only [aqueductref01_Put.l0]
    rw [if_pos (by omega)]
    simp only [Option.bind_some]
    have e3 : wrap64 ((i : Int) + 1) = ((i + 1 : Nat) : Int) := by rw [wrap64_in (by omega) (by omega)]; omega
    have ey : strOfNums [Int.tmod ((v / 256 ^ i : Nat) : Int) 256 % 256] = mk [v / 256 ^ i % 256] := by
      rw [strOfNums_mk]
      congr 1
      simp only [List.map_cons, List.map_nil]
      congr 1
      rw [Int.tmod_eq_emod_of_nonneg (Int.natCast_nonneg _)]
      generalize v / 256 ^ i = q
      omega
    have hq : v / 256 ^ i < 18446744073709551616 := Nat.lt_of_le_of_lt (Nat.div_le_self _ _) hv
    have ed : IntKind.u64.wrap (Int.tdiv ((v / 256 ^ i : Nat) : Int) 256) = ((v / 256 ^ (i + 1) : Nat) : Int) := by
      rw [Int.tdiv_eq_ediv_of_nonneg (Int.natCast_nonneg _), Nat.pow_succ, ← Nat.div_div_eq_div_mul, wrap_u64]
      generalize v / 256 ^ i = q at *
      omega
    rw [ey, ed, e3]
    rw [if_pos (by rw [mk_size, mk_size, List.length_reverse, dig_length]; simp; omega), if_pos (by rw [mk_size, mk_size, dig_length]; simp; omega)]
    have h1 : Bt [v / 256 ^ i % 256] := fun x hx => by simp at hx; omega
    have hsucc : ∀ (j v : Nat), dig (j + 1) v = (v / 256 ^ j % 256) :: dig j v := by
      intro j
      induction j with
      | zero => intro v; simp [dig]
      | succ j ihj =>
        intro v
        rw [dig, ihj (v / 256), dig, Nat.div_div_eq_div_mul, Nat.pow_succ, Nat.mul_comm 256]; rfl
    have e4 : mk [v / 256 ^ i % 256] ++ mk (dig i v) = mk (dig (i + 1) v) := by
      apply B_inj
      rw [B_append, B_mk h1, B_mk (dig_bt _ _), B_mk (dig_bt _ _), hsucc]; rfl
    have e5 : mk (dig i v).reverse ++ mk [v / 256 ^ i % 256] = mk (dig (i + 1) v).reverse := by
      apply B_inj
      rw [B_append, B_mk h1, B_mk (dig_bt _ _).reverse, B_mk (dig_bt _ _).reverse, hsucc, List.reverse_cons]
    rw [e4, e5]
    exact ih (i + 1) k (by omega) (by omega) (by omega)
theorem rput (v : Nat) (hv : v < 18446744073709551616) (n : Int) (big : Bool) :
    Ev (fun k => aqueductref01_Put.f k (v : Int) n big) (mk (putS v n big).1, (putS v n big).2) := by
  refine ⟨30, fun k hk => ?_⟩
  obtain ⟨k, rfl⟩ : ∃ m, k = m + 1 := ⟨k - 1, by omega⟩
  show aqueductref01_Put.f (k + 1) (v : Int) n big = _
  unfold aqueductref01_Put.f putS
  by_cases h1 : n < 1
  · rw [if_pos h1, if_neg (by omega)]
    simp only [aqueductref01_Put.j0]
    rw [if_pos trivial]; rfl
  rw [if_neg h1]
  by_cases h2 : n > 8
  · rw [decide_eq_true h2, if_neg (by omega)]
    simp only [aqueductref01_Put.j0]
    rw [if_pos trivial]; rfl
  rw [decide_eq_false h2]
  simp only [aqueductref01_Put.j0]
  rw [if_neg (by decide)]
  obtain ⟨m, rfl⟩ := Int.eq_ofNat_of_zero_le (show 0 ≤ n by omega)
  have := rput_loop v m hv (by omega) big m 0 k (by omega) (by omega) (by omega)
  simp only [Nat.pow_zero, Nat.div_one, dig, List.reverse_nil] at this
  have h3 : (0 < v / 256 ^ m) ↔ ¬ v < 256 ^ m := by
    rw [Nat.pos_iff_ne_zero, ne_eq, Nat.div_eq_zero_iff]
    have := pow_pos' m
    omega
  refine Eq.trans this ?_
  simp only [Int.toNat_natCast]
  by_cases h4 : v < 256 ^ m
  · have h5 : ¬ 0 < v / 256 ^ m := by rw [h3]; omega
    have h6 : 1 ≤ (m : Int) ∧ (m : Int) ≤ 8 ∧ v < 256 ^ m := ⟨by omega, by omega, h4⟩
    rw [if_neg h5, if_pos h6]
  · have h6 : ¬ (1 ≤ (m : Int) ∧ (m : Int) ≤ 8 ∧ v < 256 ^ m) := fun h => h4 h.2.2
    rw [if_pos (h3.2 h4), if_neg h6]; rfl
/-! Frames. -/
def mayS (t : Int) : Bool := decide (1536 ≤ t ∧ t ≤ 65535 ∧ t ≠ 33024)
theorem mayE (t : Int) : eth_may.f t = some (mayS t) := by
  unfold eth_may.f mayS
  by_cases h1 : t ≥ 1536
  · by_cases h2 : t ≤ 65535
    · rw [if_pos h1, if_pos h2]
      congr 1
      rw [Bool.eq_iff_iff]
      simp only [bne_iff_ne, decide_eq_true_eq]
      constructor
      · intro h; exact ⟨h1, h2, h⟩
      · intro h; exact h.2.2
    · rw [if_pos h1, if_neg h2, decide_eq_false (fun h => h2 h.2.1)]
  · rw [if_neg h1, decide_eq_false (fun h => h1 h.1)]
theorem may_bd {t : Int} (h : mayS t = true) : 1536 ≤ t ∧ t ≤ 65535 ∧ t ≠ 33024 := of_decide_eq_true h
theorem twoE (n : Int) (h0 : 0 ≤ n) (h1 : n < 65536) : Ev (fun k => eth_two.f k n) (mk (dig 2 n.toNat)) := by
  obtain ⟨m, rfl⟩ := Int.eq_ofNat_of_zero_le h0
  obtain ⟨k, e⟩ := put m (by omega) 2 true
  refine ⟨k, fun j hj => ?_⟩
  have e := e j hj
  simp only at e
  have p : putS m 2 true = (dig 2 m, 0) := by
    unfold putS; rw [if_pos ⟨by decide, by decide, by simp; omega⟩]; rfl
  show eth_two.f j (m : Int) = _
  unfold eth_two.f
  rw [wraps_u64 _ (by omega) (by omega), e, p]; rfl
/-- What may be a frame. -/
def okB (d s : List Nat) (v p t : Int) (b : List Nat) : Prop :=
  d.length = 6 ∧ s.length = 6 ∧ -1 ≤ v ∧ v ≤ 4094 ∧ 0 ≤ p ∧ p ≤ 7 ∧ (v = -1 → p = 0) ∧ mayS t = true ∧ b.length ≤ (if v = -1 then 1504 else 1500)
instance (d s : List Nat) (v p t : Int) (b : List Nat) : Decidable (okB d s v p t b) := by unfold okB; infer_instance
def headS (v p t : Int) : List Nat := (if v = -1 then [] else [129, 0] ++ dig 2 (p * 8192 + v).toNat) ++ dig 2 t.toNat
def buildS (d s : List Nat) (v p t : Int) (b : List Nat) : List Nat × Int :=
  if okB d s v p t b then (d ++ s ++ headS v p t ++ b, 0) else ([], 61)
theorem headS_bt (v p t : Int) : Bt (headS v p t) := by
  unfold headS
  refine Bt.append ?_ (dig_bt _ _)
  split
  · exact Bt.nil
  · refine Bt.append ?_ (dig_bt _ _)
    intro x hx; simp at hx; omega
theorem headS_len (v p t : Int) : (headS v p t).length = if v = -1 then 2 else 6 := by
  unfold headS
  by_cases h : v = -1
  · rw [if_pos h, if_pos h]; simp [dig_length]
  · rw [if_neg h, if_neg h]; simp [dig_length]
theorem or_tag {p v : Int} (h0 : 0 ≤ p) (h7 : p ≤ 7) (v0 : 0 ≤ v) (v1 : v ≤ 4094) : Go.bits .or .i64 (wrap64 (p * 8192)) v = p * 8192 + v := by
  rw [w64 (p * 8192) (p * 8192) rfl (by omega) (by omega)]
  exact bits_join .i64 63 (by decide) wraps_i64 13 _ _ (by omega) (by omega) (by omega) (by omega) (by omega) (by omega)
theorem buildE (d s b : ByteArray) (v p t : Int) (hd : d.size ≤ 140737488351232) (hs : s.size ≤ 140737488351232) (hb : b.size ≤ 140737488351232) :
    Ev (fun k => eth_Build.f k d s v p t b) (mk (buildS (B d) (B s) v p t (B b)).1, (buildS (B d) (B s) v p t (B b)).2) := by
  have no : ¬ okB (B d) (B s) v p t (B b) → ∀ k, 1 ≤ k → eth_Build.j0 k true d s v p t b = some (mk (buildS (B d) (B s) v p t (B b)).1, (buildS (B d) (B s) v p t (B b)).2) := by
    intro hn k hk
    obtain ⟨k, rfl⟩ : ∃ m, k = m + 1 := ⟨k - 1, by omega⟩
    unfold buildS
    rw [if_neg hn]
    simp only [eth_Build.j0, if_true]; rfl
  have hld := B_length d
  have hls := B_length s
  have hlb := B_length b
  by_cases c1 : d.size = 6
  rotate_left
  · refine ⟨1, fun k hk => ?_⟩
    show eth_Build.f k d s v p t b = _
    unfold eth_Build.f
    rw [if_neg (by omega)]
    exact no (fun h => c1 (by have := h.1; omega)) k hk
  by_cases c2 : s.size = 6
  rotate_left
  · refine ⟨1, fun k hk => ?_⟩
    show eth_Build.f k d s v p t b = _
    unfold eth_Build.f
    rw [if_pos (by omega), if_neg (by omega)]
    exact no (fun h => c2 (by have := h.2.1; omega)) k hk
  by_cases c3 : v < -1
  · refine ⟨1, fun k hk => ?_⟩
    show eth_Build.f k d s v p t b = _
    unfold eth_Build.f
    rw [if_pos (by omega), if_pos (by omega), if_pos c3]
    exact no (fun h => by have := h.2.2.1; omega) k hk
  by_cases c4 : v > 4094
  · refine ⟨1, fun k hk => ?_⟩
    show eth_Build.f k d s v p t b = _
    unfold eth_Build.f
    rw [if_pos (by omega), if_pos (by omega), if_neg c3, if_pos c4]
    exact no (fun h => by have := h.2.2.2.1; omega) k hk
  by_cases c5 : p < 0
  · refine ⟨1, fun k hk => ?_⟩
    show eth_Build.f k d s v p t b = _
    unfold eth_Build.f
    rw [if_pos (by omega), if_pos (by omega), if_neg c3, if_neg c4, if_pos c5]
    exact no (fun h => by have := h.2.2.2.2.1; omega) k hk
  by_cases c6 : p > 7
  · refine ⟨1, fun k hk => ?_⟩
    show eth_Build.f k d s v p t b = _
    unfold eth_Build.f
    rw [if_pos (by omega), if_pos (by omega), if_neg c3, if_neg c4, if_neg c5, if_pos c6]
    exact no (fun h => by have := h.2.2.2.2.2.1; omega) k hk
  have pre : ∀ k, eth_Build.f k d s v p t b = if v = -1 then (if p = 0 then eth_Build.j0 k (!mayS t) d s v p t b else eth_Build.j0 k true d s v p t b) else eth_Build.j0 k (!mayS t) d s v p t b := by
    intro k
    unfold eth_Build.f
    rw [if_pos (by omega), if_pos (by omega), if_neg c3, if_neg c4, if_neg c5, if_neg c6, mayE]
    rfl
  by_cases c7 : v = -1 ∧ p ≠ 0
  · refine ⟨1, fun k hk => ?_⟩
    show eth_Build.f k d s v p t b = _
    rw [pre, if_pos c7.1, if_neg c7.2]
    exact no (fun h => c7.2 (h.2.2.2.2.2.2.1 c7.1)) k hk
  have pre2 : ∀ k, eth_Build.f k d s v p t b = eth_Build.j0 k (!mayS t) d s v p t b := by
    intro k
    rw [pre]
    by_cases e : v = -1
    · rw [if_pos e, if_pos (by by_cases f : p = 0; exact f; exact absurd ⟨e, f⟩ c7)]
    · rw [if_neg e]
  clear pre
  cases hm : mayS t with
  | false =>
    refine ⟨1, fun k hk => ?_⟩
    show eth_Build.f k d s v p t b = _
    rw [pre2, hm]
    exact no (fun h => by have := h.2.2.2.2.2.2.2.1; rw [hm] at this; exact absurd this (by decide)) k hk
  | true =>
    obtain ⟨m1, m2, m3⟩ := may_bd hm
    obtain ⟨k1, e1⟩ := twoE t (by omega) (by omega)
    obtain ⟨k2, e2⟩ := twoE 33024 (by omega) (by omega)
    simp only at e1 e2
    have st : (mk (dig 2 t.toNat)).size = 2 := by rw [mk_size, dig_length]
    have bt_ := dig_bt 2 t.toNat
    have Bd := B_bt d
    have Bs := B_bt s
    have Bb := B_bt b
    by_cases hv : v = -1
    · have hp : p = 0 := by by_cases f : p = 0; exact f; exact absurd ⟨hv, f⟩ c7
      refine ⟨k1 + 1, fun k hk => ?_⟩
      show eth_Build.f k d s v p t b = _
      obtain ⟨k, rfl⟩ : ∃ m, k = m + 1 := ⟨k - 1, by omega⟩
      rw [pre2, hm]
      simp only [eth_Build.j0]
      rw [if_neg (by decide), if_pos (by omega), if_pos hv, e1 k (by omega)]
      simp only [Option.bind_some]
      simp only [ByteArray.size_append, st, c1, c2]
      rw [if_pos (by decide), w64 (1518 - ((6 + 6 + 2 : Nat) : Int)) 1504 (by decide) (by omega) (by omega)]
      by_cases hL : (b.size : Int) > 1504
      · have hn : ¬ okB (B d) (B s) v p t (B b) := fun h => by have := h.2.2.2.2.2.2.2.2; rw [if_pos hv] at this; omega
        unfold buildS
        rw [if_pos hL, if_neg hn]; rfl
      · have ho : okB (B d) (B s) v p t (B b) := ⟨by omega, by omega, by omega, by omega, by omega, by omega, fun _ => hp, hm, by rw [if_pos hv]; omega⟩
        unfold buildS
        rw [if_neg hL, if_pos (by omega), if_pos ho]
        congr 2
        apply B_inj
        rw [B_append, B_append, B_append, B_mk bt_, B_mk (((Bd.append Bs).append (headS_bt _ _ _)).append Bb)]
        unfold headS
        rw [if_pos hv]; rfl
    · obtain ⟨k3, e3⟩ := twoE (p * 8192 + v) (by omega) (by omega)
      simp only at e3
      have s2 : (mk (dig 2 (33024 : Int).toNat)).size = 2 := by rw [mk_size, dig_length]
      have s3 : (mk (dig 2 (p * 8192 + v).toNat)).size = 2 := by rw [mk_size, dig_length]
      refine ⟨k1 + k2 + k3 + 1, fun k hk => ?_⟩
      show eth_Build.f k d s v p t b = _
      obtain ⟨k, rfl⟩ : ∃ m, k = m + 1 := ⟨k - 1, by omega⟩
      rw [pre2, hm]
      simp only [eth_Build.j0]
      rw [if_neg (by decide), if_pos (by omega), if_neg hv, or_tag (by omega) (by omega) (by omega) (by omega), e2 k (by omega), e3 k (by omega), e1 k (by omega)]
      simp only [Option.bind_some]
      simp only [ByteArray.size_append, st, s2, s3, c1, c2]
      rw [if_pos (by decide), if_pos (by decide), if_pos (by decide), w64 (1518 - ((6 + 6 + (2 + 2) + 2 : Nat) : Int)) 1500 (by decide) (by omega) (by omega)]
      by_cases hL : (b.size : Int) > 1500
      · have hn : ¬ okB (B d) (B s) v p t (B b) := fun h => by have := h.2.2.2.2.2.2.2.2; rw [if_neg hv] at this; omega
        unfold buildS
        rw [if_pos hL, if_neg hn]; rfl
      · have ho : okB (B d) (B s) v p t (B b) := ⟨by omega, by omega, by omega, by omega, by omega, by omega, fun h => absurd h hv, hm, by rw [if_neg hv]; omega⟩
        unfold buildS
        rw [if_neg hL, if_pos (by omega), if_pos ho]
        congr 2
        apply B_inj
        rw [B_append, B_append, B_append, B_append, B_append, B_mk bt_, B_mk (dig_bt _ _), B_mk (dig_bt _ _), B_mk (((Bd.append Bs).append (headS_bt _ _ _)).append Bb)]
        unfold headS
        rw [if_neg hv, show dig 2 (33024 : Int).toNat = [129, 0] from rfl]
        simp only [List.append_assoc]
/-! Frames, taken apart. -/
def n2 (l : List Nat) (a : Nat) : Nat := l.getD a 0 * 256 + l.getD (a + 1) 0
theorem n2_lt {l : List Nat} (h : Bt l) (a : Nat) : n2 l a < 65536 := by
  have h1 := getD_lt h a
  have h2 := getD_lt h (a + 1)
  unfold n2; omega
/-- What a frame is, and why it is none. -/
structure Fr where
  d : List Nat
  s : List Nat
  v : Int
  p : Int
  t : Int
  b : List Nat
  e : Int
def Fr.no (e : Int) : Fr := ⟨[], [], 0, 0, 0, [], e⟩
def parseS (l : List Nat) : Fr :=
  if 1518 < l.length then Fr.no 61
  else if l.length < 14 then Fr.no 60
  else if n2 l 12 = 33024 then
    (if l.length < 18 then Fr.no 60
    else if n2 l 14 / 4096 % 2 = 1 ∨ n2 l 14 % 4096 = 4095 ∨ mayS (n2 l 16 : Int) = false then Fr.no 61
    else ⟨l.take 6, (l.drop 6).take 6, ((n2 l 14 % 4096 : Nat) : Int), ((n2 l 14 / 8192 : Nat) : Int), (n2 l 16 : Int), l.drop 18, 0⟩)
  else if mayS (n2 l 12 : Int) = false then Fr.no 61
  else ⟨l.take 6, (l.drop 6).take 6, -1, 0, (n2 l 12 : Int), l.drop 14, 0⟩
/-- The same, as the functions hand it back. -/
def Fr.out (x : Fr) : ByteArray × ByteArray × Int × Int × Int × ByteArray × Int := (Mth.mk x.d, Mth.mk x.s, x.v, x.p, x.t, Mth.mk x.b, x.e)
theorem numE (s : ByteArray) (a : Nat) : numS s a = ((n2 (B s) a : Nat) : Int) := by
  unfold numS n2
  rw [bt_eq, bt_eq]
  omega
theorem mk_take (s : ByteArray) (n : Nat) : s.extract 0 n = mk ((B s).take n) := by
  apply B_inj; rw [B_extract, B_mk ((B_bt s).take _), List.drop_zero]
theorem mk_mid (s : ByteArray) : s.extract 6 12 = mk (((B s).drop 6).take 6) := by
  apply B_inj; rw [B_extract, B_mk (((B_bt s).drop _).take _), List.drop_take]
theorem mk_drop (s : ByteArray) (n : Nat) : s.extract n s.size = mk ((B s).drop n) := by
  apply B_inj; rw [B_extract, B_mk ((B_bt s).drop _), List.take_of_length_le (by rw [B_length]; exact Nat.le_refl _)]
theorem bit12 (t : Nat) (h : t < 65536) : (Go.bits .and .i64 (t : Int) 4096 != 0) = decide (t / 4096 % 2 = 1) := by
  have := (bits_nat_i64 t (2 ^ 12) (by omega) (by decide)).1
  rw [show (((2 : Nat) ^ 12 : Nat) : Int) = 4096 from rfl] at this
  rw [this, nat_and_bit, Bool.eq_iff_iff]
  simp only [bne_iff_ne, ne_eq, decide_eq_true_eq]
  omega
theorem low12 (t : Nat) (h : t < 65536) : Go.bits .and .i64 (t : Int) 4095 = ((t % 4096 : Nat) : Int) := by
  have := and_i64 (t : Int) 12 (by decide)
  rw [show (((2 : Nat) ^ 12 - 1 : Nat) : Int) = 4095 from rfl] at this
  rw [this]; omega
theorem parseE (s : ByteArray) : eth_Parse.f s = some (parseS (B s)).out := by
  unfold eth_Parse.f parseS
  rw [B_length]
  by_cases c1 : s.size > 1518
  · rw [if_pos (show (s.size : Int) > 1518 by omega), if_pos (show 1518 < s.size by omega)]; rfl
  rw [if_neg (show ¬ (s.size : Int) > 1518 by omega), if_neg (show ¬ 1518 < s.size by omega)]
  by_cases c2 : s.size < 14
  · rw [if_pos c2, if_pos c2]; rfl
  rw [if_neg c2, if_neg c2, numE, numE, numE]
  have b14 := n2_lt (B_bt s) 14
  by_cases c3 : n2 (B s) 12 = 33024
  · rw [if_pos (by omega), if_pos c3]
    by_cases c4 : s.size < 18
    · rw [if_pos c4, if_pos c4]; rfl
    rw [if_neg c4, if_neg c4, bit12 _ b14, low12 _ b14, mayE]
    by_cases c5 : n2 (B s) 14 / 4096 % 2 = 1
    · rw [if_pos (decide_eq_true c5), if_pos (Or.inl c5)]; rfl
    rw [if_neg (by simpa using c5)]
    by_cases c6 : n2 (B s) 14 % 4096 = 4095
    · rw [if_pos (decide_eq_true (by omega)), if_pos (Or.inr (Or.inl c6))]; rfl
    rw [if_neg (by simp; omega)]
    simp only [Option.bind_some]
    cases hm : mayS ((n2 (B s) 16 : Nat) : Int) with
    | false => rw [if_neg (by decide), if_pos (Or.inr (Or.inr rfl))]; rfl
    | true =>
      rw [if_pos rfl, if_neg (by rintro (h | h | h); exact c5 h; exact c6 h; exact absurd h (by decide)), mk_take, mk_mid, mk_drop]
      unfold Fr.out
      rfl
  · rw [if_neg (by omega), if_neg c3, mayE]
    simp only [Option.bind_some]
    cases hm : mayS ((n2 (B s) 12 : Nat) : Int) with
    | false => rw [if_neg (by decide), if_pos rfl]; rfl
    | true =>
      rw [if_pos rfl, if_neg (by decide), mk_take, mk_mid, mk_drop]
      rfl
theorem n2_dig {l r : List Nat} {v a : Nat} (hv : v < 65536) (ha : l.length = a) : n2 (l ++ (dig 2 v ++ r)) a = v := by
  have e : dig 2 v = [v / 256 % 256, v % 256] := by simp [dig]
  subst ha
  have g0 : (l ++ ([v / 256 % 256, v % 256] ++ r))[l.length]? = some (v / 256 % 256) := by
    rw [List.getElem?_append_right (Nat.le_refl _), Nat.sub_self]; rfl
  have g1 : (l ++ ([v / 256 % 256, v % 256] ++ r))[l.length + 1]? = some (v % 256) := by
    rw [List.getElem?_append_right (by omega), Nat.add_sub_cancel_left]; rfl
  unfold n2
  rw [e, List.getD_eq_getElem?_getD, List.getD_eq_getElem?_getD, g0, g1]
  simp only [Option.getD_some]
  omega
/-- What is built is parsed as it was. -/
theorem parse_build {d s b : List Nat} {v p t : Int} (h : okB d s v p t b) : parseS (d ++ s ++ headS v p t ++ b) = ⟨d, s, v, p, t, b, 0⟩ := by
  obtain ⟨h1, h2, h3, h4, h5, h6, h7, h8, h9⟩ := h
  obtain ⟨m1, m2, m3⟩ := may_bd h8
  have hl := headS_len v p t
  obtain ⟨T, hT⟩ := Int.eq_ofNat_of_zero_le (show 0 ≤ t by omega)
  subst hT
  have k6 : (d ++ s).length = 12 := by rw [List.length_append]; omega
  have t6 : ∀ r, (d ++ s ++ r).take 6 = d := by
    intro r; rw [List.append_assoc, List.take_append_of_le_length (by omega), List.take_of_length_le (by omega)]
  have t12 : ∀ r, ((d ++ s ++ r).drop 6).take 6 = s := by
    intro r; rw [List.append_assoc, List.drop_append_of_le_length (by omega), List.drop_of_length_le (by omega), List.nil_append, List.take_append_of_le_length (by omega), List.take_of_length_le (by omega)]
  by_cases hv : v = -1
  · subst hv
    have hp := h7 rfl
    subst hp
    rw [if_pos rfl] at hl h9
    have hH : headS (-1) 0 (T : Int) = dig 2 T := by unfold headS; rw [if_pos rfl]; simp
    have len : (d ++ s ++ headS (-1) 0 (T : Int) ++ b).length = 14 + b.length := by rw [List.length_append, List.length_append, hl, k6]
    have q : n2 (d ++ s ++ headS (-1) 0 (T : Int) ++ b) 12 = T := by rw [hH, List.append_assoc]; exact n2_dig (by omega) k6
    have db : (d ++ s ++ headS (-1) 0 (T : Int) ++ b).drop 14 = b := by
      rw [List.drop_append_of_le_length (by rw [List.length_append, hl, k6]; decide), List.drop_of_length_le (by rw [List.length_append, hl, k6]; decide), List.nil_append]
    unfold parseS
    rw [if_neg (by omega), if_neg (by omega), q, if_neg (by omega), if_neg (by rw [h8]; decide), db, List.append_assoc (d ++ s), t6, t12]
  · rw [if_neg hv] at hl h9
    obtain ⟨g, hg⟩ := Int.eq_ofNat_of_zero_le (show 0 ≤ p * 8192 + v by omega)
    have hg2 : g < 65536 := by omega
    have hH : headS v p (T : Int) = dig 2 33024 ++ (dig 2 g ++ dig 2 T) := by
      unfold headS; rw [if_neg hv, hg, show dig 2 33024 = [129, 0] from rfl]; simp
    have len : (d ++ s ++ headS v p (T : Int) ++ b).length = 18 + b.length := by rw [List.length_append, List.length_append, hl, k6]
    have q12 : n2 (d ++ s ++ headS v p (T : Int) ++ b) 12 = 33024 := by
      rw [hH, List.append_assoc (d ++ s), List.append_assoc (dig 2 33024)]; exact n2_dig (by decide) k6
    have q14 : n2 (d ++ s ++ headS v p (T : Int) ++ b) 14 = g := by
      have : d ++ s ++ headS v p (T : Int) ++ b = (d ++ s ++ dig 2 33024) ++ (dig 2 g ++ (dig 2 T ++ b)) := by rw [hH]; simp [List.append_assoc]
      rw [this]; exact n2_dig hg2 (by rw [List.length_append, k6, dig_length])
    have q16 : n2 (d ++ s ++ headS v p (T : Int) ++ b) 16 = T := by
      have : d ++ s ++ headS v p (T : Int) ++ b = (d ++ s ++ dig 2 33024 ++ dig 2 g) ++ (dig 2 T ++ b) := by rw [hH]; simp [List.append_assoc]
      rw [this]; exact n2_dig (by omega) (by rw [List.length_append, List.length_append, k6, dig_length, dig_length])
    have db : (d ++ s ++ headS v p (T : Int) ++ b).drop 18 = b := by
      rw [List.drop_append_of_le_length (by rw [List.length_append, hl, k6]; decide), List.drop_of_length_le (by rw [List.length_append, hl, k6]; decide), List.nil_append]
    unfold parseS
    rw [if_neg (by omega), if_neg (by omega), q12, if_pos rfl, if_neg (by omega), q14, q16, if_neg (by rintro (h | h | h); omega; omega; rw [h8] at h; exact absurd h (by decide)), db, List.append_assoc (d ++ s), t6, t12]
    congr 1
    · omega
    · omega
theorem pair_dig {l : List Nat} (h : Bt l) {a : Nat} (ha : a + 2 ≤ l.length) : (l.drop a).take 2 = dig 2 (n2 l a) := by
  have h1 := getD_lt h a
  have h2 := getD_lt h (a + 1)
  have e : (l.drop a).take 2 = [l.getD a 0, l.getD (a + 1) 0] := by
    apply List.ext_getElem
    · rw [List.length_take, List.length_drop]; simp; omega
    · intro i h1 h2
      rw [List.getElem_take, List.getElem_drop]
      match i, h2 with
      | 0, _ => simp [List.getD_eq_getElem?_getD, List.getElem?_eq_getElem (show a < l.length by omega)]
      | 1, _ => simp [List.getD_eq_getElem?_getD, List.getElem?_eq_getElem (show a + 1 < l.length by omega)]
  rw [e]
  unfold n2
  generalize l.getD a 0 = x at h1
  generalize l.getD (a + 1) 0 = y at h2
  clear e
  have e1 : (x * 256 + y) / 256 % 256 = x := by omega
  have e2 : (x * 256 + y) % 256 = y := by omega
  simp only [dig, List.nil_append, List.cons_append]
  rw [e1, e2]
/-- What is parsed is built as it was. -/
theorem build_parse {l : List Nat} (hb : Bt l) (h : (parseS l).e = 0) :
    okB (parseS l).d (parseS l).s (parseS l).v (parseS l).p (parseS l).t (parseS l).b ∧ (parseS l).d ++ (parseS l).s ++ headS (parseS l).v (parseS l).p (parseS l).t ++ (parseS l).b = l := by
  have b14 := n2_lt hb 14
  have b12 := n2_lt hb 12
  have b16 := n2_lt hb 16
  have d61 : ¬ (61 : Int) = 0 := by decide
  have d60 : ¬ (60 : Int) = 0 := by decide
  have r12 : l.take 6 ++ (l.drop 6).take 6 = l.take 12 := by rw [← List.take_add]
  unfold parseS at h ⊢
  by_cases c1 : 1518 < l.length
  · rw [if_pos c1] at h; exact absurd h d61
  rw [if_neg c1] at h ⊢
  by_cases c2 : l.length < 14
  · rw [if_pos c2] at h; exact absurd h d60
  rw [if_neg c2] at h ⊢
  by_cases c3 : n2 l 12 = 33024
  · rw [if_pos c3] at h ⊢
    by_cases c4 : l.length < 18
    · rw [if_pos c4] at h; exact absurd h d60
    rw [if_neg c4] at h ⊢
    by_cases c5 : n2 l 14 / 4096 % 2 = 1 ∨ n2 l 14 % 4096 = 4095 ∨ mayS (n2 l 16 : Int) = false
    · rw [if_pos c5] at h; exact absurd h d61
    rw [if_neg c5]
    have c5a : ¬ n2 l 14 / 4096 % 2 = 1 := fun x => c5 (.inl x)
    have c5b : ¬ n2 l 14 % 4096 = 4095 := fun x => c5 (.inr (.inl x))
    have c5c : mayS (n2 l 16 : Int) = true := by cases e : mayS (n2 l 16 : Int); exact absurd (.inr (.inr e)) c5; rfl
    have hv : ¬ ((n2 l 14 % 4096 : Nat) : Int) = -1 := by omega
    refine ⟨⟨by simp; omega, by simp; omega, by simp only; omega, by simp only; omega, by simp only; omega, by simp only; omega, fun x => absurd x hv, c5c, by simp only; rw [if_neg hv, List.length_drop]; omega⟩, ?_⟩
    simp only
    unfold headS
    rw [if_neg hv, show (((n2 l 14 / 8192 : Nat) : Int) * 8192 + ((n2 l 14 % 4096 : Nat) : Int)).toNat = n2 l 14 from by omega, Int.toNat_natCast, ← pair_dig hb (show 14 + 2 ≤ l.length by omega), ← pair_dig hb (show 16 + 2 ≤ l.length by omega)]
    have e0 : [129, 0] = (l.drop 12).take 2 := by rw [pair_dig hb (by omega), c3]; rfl
    rw [r12, e0]
    have j1 : (l.drop 12).take 2 ++ (l.drop 14).take 2 = (l.drop 12).take 4 := by rw [show (4 : Nat) = 2 + 2 from rfl, List.take_add, List.drop_drop]
    have j2 : (l.drop 12).take 4 ++ (l.drop 16).take 2 = (l.drop 12).take 6 := by rw [show (6 : Nat) = 4 + 2 from rfl, List.take_add, List.drop_drop]
    have j3 : l.take 12 ++ (l.drop 12).take 6 = l.take 18 := by rw [← List.take_add]
    rw [j1, j2, j3, List.take_append_drop]
  · rw [if_neg c3] at h ⊢
    by_cases c5 : mayS (n2 l 12 : Int) = false
    · rw [if_pos c5] at h; exact absurd h d61
    rw [if_neg c5]
    have c5c : mayS (n2 l 12 : Int) = true := by cases e : mayS (n2 l 12 : Int); exact absurd e c5; rfl
    refine ⟨⟨by simp; omega, by simp; omega, by simp only; omega, by simp only; omega, by simp only; omega, by simp only; omega, fun _ => rfl, c5c, by simp only [if_true, List.length_drop]; omega⟩, ?_⟩
    simp only
    unfold headS
    rw [if_pos rfl, Int.toNat_natCast, ← pair_dig hb (show 12 + 2 ≤ l.length by omega), r12, List.nil_append]
    have j3 : l.take 12 ++ (l.drop 12).take 2 = l.take 14 := by rw [← List.take_add]
    rw [j3, List.take_append_drop]
theorem Fr_bt {l : List Nat} (hb : Bt l) : Bt (parseS l).d ∧ Bt (parseS l).s ∧ Bt (parseS l).b := by
  unfold parseS
  (repeat' split) <;> first | exact ⟨Bt.nil, Bt.nil, Bt.nil⟩ | exact ⟨hb.take _, (hb.drop _).take _, hb.drop _⟩
/-! Tags. -/
def tagS (l : List Nat) (v : Int) : List Nat × Int :=
  if (parseS l).e = 0 then buildS (parseS l).d (parseS l).s v (if v = -1 then 0 else (parseS l).p) (parseS l).t (parseS l).b else ([], (parseS l).e)
theorem parse_len (l : List Nat) : (parseS l).d.length ≤ l.length ∧ (parseS l).s.length ≤ l.length ∧ (parseS l).b.length ≤ l.length := by
  unfold parseS
  (repeat' split) <;> first | exact ⟨Nat.zero_le _, Nat.zero_le _, Nat.zero_le _⟩ | (simp only [List.length_take, List.length_drop]; omega)
theorem buildM {d s b : List Nat} (v p t : Int) (hd : Bt d) (hs : Bt s) (hb : Bt b) (ld : d.length ≤ 140737488351232) (ls : s.length ≤ 140737488351232) (lb : b.length ≤ 140737488351232) :
    Ev (fun k => eth_Build.f k (mk d) (mk s) v p t (mk b)) (mk (buildS d s v p t b).1, (buildS d s v p t b).2) := by
  have := buildE (mk d) (mk s) (mk b) v p t (by rw [mk_size]; exact ld) (by rw [mk_size]; exact ls) (by rw [mk_size]; exact lb)
  rwa [B_mk hd, B_mk hs, B_mk hb] at this
theorem tagE (s : ByteArray) (v : Int) (hs : s.size ≤ 140737488351232) : Ev (fun k => eth_Tag.f k s v) (mk (tagS (B s) v).1, (tagS (B s) v).2) := by
  obtain ⟨b1, b2, b3⟩ := Fr_bt (B_bt s)
  obtain ⟨l1, l2, l3⟩ := parse_len (B s)
  rw [B_length] at l1 l2 l3
  obtain ⟨k1, e1⟩ := buildM v (if v = -1 then 0 else (parseS (B s)).p) (parseS (B s)).t b1 b2 b3 (by omega) (by omega) (by omega)
  simp only at e1
  refine ⟨k1, fun k hk => ?_⟩
  show eth_Tag.f k s v = _
  have e1 := e1 k hk
  unfold eth_Tag.f tagS
  rw [parseE]
  simp only [Option.bind_some, Fr.out]
  by_cases c : (parseS (B s)).e = 0
  · rw [if_pos c, if_pos c]
    by_cases h : v = -1
    · rw [if_pos h] at e1 ⊢
      rw [if_pos h, e1]; rfl
    · rw [if_neg h] at e1 ⊢
      rw [if_neg h, e1]; rfl
  · rw [if_neg c, if_neg c]; rfl
theorem buildS_bt {d s b : List Nat} (v p t : Int) (hd : Bt d) (hs : Bt s) (hb : Bt b) : Bt (buildS d s v p t b).1 := by
  unfold buildS
  split
  · exact ((hd.append hs).append (headS_bt _ _ _)).append hb
  · exact Bt.nil
theorem buildS_len (d s b : List Nat) (v p t : Int) : (buildS d s v p t b).1.length ≤ 1518 := by
  unfold buildS
  split
  · rename_i h
    have := headS_len v p t
    have h1 := h.1
    have h2 := h.2.1
    have h9 := h.2.2.2.2.2.2.2.2
    simp only [List.length_append]
    by_cases hv : v = -1
    · rw [if_pos hv] at this h9; omega
    · rw [if_neg hv] at this h9; omega
  · exact Nat.zero_le _
theorem tagS_bt {l : List Nat} (h : Bt l) (v : Int) : Bt (tagS l v).1 := by
  obtain ⟨b1, b2, b3⟩ := Fr_bt h
  unfold tagS
  split
  · exact buildS_bt _ _ _ b1 b2 b3
  · exact Bt.nil
theorem tagS_len (l : List Nat) (v : Int) : (tagS l v).1.length ≤ 1518 := by
  unfold tagS
  split
  · exact buildS_len _ _ _ _ _ _
  · exact Nat.zero_le _
/-! The document's frames. -/
theorem rnumE (s : ByteArray) (i : Int) (a : Nat) (hi : i = (a : Int)) (h : a + 1 < s.size) (hs : s.size ≤ 140737488351232) : aqueductref06_num.f s i = some ((n2 (B s) a : Nat) : Int) := by
  subst hi
  have e : wrap64 ((a : Int) + 1) = ((a + 1 : Nat) : Int) := by rw [wrap64_in (by omega) (by omega)]; omega
  unfold aqueductref06_num.f n2
  rw [e, if_pos (Int.natCast_nonneg _), if_pos (by omega), if_pos (Int.natCast_nonneg _), if_pos (by omega), bt_eq, bt_eq]
  have h1 := getD_lt (B_bt s) a
  have h2 := getD_lt (B_bt s) (a + 1)
  generalize (B s).getD a 0 = x at *
  generalize (B s).getD (a + 1) 0 = y at *
  clear e
  rw [wrap64_in (show (-9223372036854775808 : Int) ≤ (x : Int) by omega) (by omega), wrap64_in (show (-9223372036854775808 : Int) ≤ (y : Int) by omega) (by omega),
    wrap64_in (show (-9223372036854775808 : Int) ≤ 256 * (x : Int) by omega) (by omega), wrap64_in (show (-9223372036854775808 : Int) ≤ 256 * (x : Int) + (y : Int) by omega) (by omega)]
  congr 1; omega
theorem kindE (t : Int) : aqueductref06_kind.f t = some (mayS t) := mayE t
theorem rtwoE (n : Int) (h0 : 0 ≤ n) (h1 : n < 65536) : Ev (fun k => aqueductref06_two.f k n) (mk (dig 2 n.toNat)) := by
  obtain ⟨m, rfl⟩ := Int.eq_ofNat_of_zero_le h0
  obtain ⟨k, e⟩ := rput m (by omega) 2 true
  refine ⟨k, fun j hj => ?_⟩
  have e := e j hj
  simp only at e
  have p : putS m 2 true = (dig 2 m, 0) := by
    unfold putS; rw [if_pos ⟨by decide, by decide, by simp; omega⟩]; rfl
  show aqueductref06_two.f j (m : Int) = _
  unfold aqueductref06_two.f
  rw [wraps_u64 _ (by omega) (by omega), e, p]; rfl
theorem rparseE (s : ByteArray) (hs : s.size ≤ 140737488351232) : Ev (fun k => aqueductref06_Parse.f k s) (parseS (B s)).out := by
  refine ⟨1, fun k hk => ?_⟩
  obtain ⟨k, rfl⟩ : ∃ m, k = m + 1 := ⟨k - 1, by omega⟩
  show aqueductref06_Parse.f (k + 1) s = _
  unfold aqueductref06_Parse.f parseS
  rw [B_length]
  by_cases c1 : s.size > 1518
  · rw [if_pos (show (s.size : Int) > 1518 by omega), if_pos (show 1518 < s.size by omega)]; rfl
  rw [if_neg (show ¬ (s.size : Int) > 1518 by omega), if_neg (show ¬ 1518 < s.size by omega)]
  by_cases c2 : s.size < 14
  · rw [if_pos (show (s.size : Int) < 14 by omega), if_pos c2]; rfl
  rw [if_neg (show ¬ (s.size : Int) < 14 by omega), if_neg c2, if_pos (by decide), if_pos (by omega), if_pos (by decide), if_pos (by omega), rnumE s 12 12 rfl (by omega) hs]
  simp only [Option.bind_some]
  rw [if_pos (by omega)]
  have b14 := n2_lt (B_bt s) 14
  by_cases c3 : n2 (B s) 12 = 33024
  · rw [if_pos (show ((n2 (B s) 12 : Nat) : Int) = 33024 by omega), if_pos c3]
    by_cases c4 : s.size < 18
    · rw [if_pos (show (s.size : Int) < 18 by omega), if_pos c4]; rfl
    rw [if_neg (show ¬ (s.size : Int) < 18 by omega), if_neg c4, rnumE s 14 14 rfl (by omega) hs, rnumE s 16 16 rfl (by omega) hs]
    simp only [Option.bind_some]
    rw [if_pos (by omega)]
    rw [Int.tdiv_eq_ediv_of_nonneg (Int.natCast_nonneg _), Int.tdiv_eq_ediv_of_nonneg (Int.natCast_nonneg _), Int.tmod_eq_emod_of_nonneg (Int.natCast_nonneg _)]
    have q1 : wrap64 (((n2 (B s) 14 : Nat) : Int) / 4096) = ((n2 (B s) 14 / 4096 : Nat) : Int) := wrap64_in (by omega) (by omega)
    have q2 : wrap64 (((n2 (B s) 14 : Nat) : Int) / 8192) = ((n2 (B s) 14 / 8192 : Nat) : Int) := wrap64_in (by omega) (by omega)
    have q3 : ((n2 (B s) 14 : Nat) : Int) % 4096 = ((n2 (B s) 14 % 4096 : Nat) : Int) := by omega
    rw [q1, q2, q3, Int.tmod_eq_emod_of_nonneg (Int.natCast_nonneg _)]
    clear q1 q2 q3
    by_cases c5 : n2 (B s) 14 / 4096 % 2 = 1
    · rw [if_pos (show ((n2 (B s) 14 / 4096 : Nat) : Int) % 2 = 1 by omega), if_pos (Or.inl c5)]
      simp only [aqueductref06_Parse.j0, if_true]; rfl
    rw [if_neg (show ¬ ((n2 (B s) 14 / 4096 : Nat) : Int) % 2 = 1 by omega)]
    by_cases c6 : n2 (B s) 14 % 4096 = 4095
    · rw [if_pos (Or.inr (Or.inl c6)), c6]
      simp only [aqueductref06_Parse.j0]
      rw [if_pos (by decide)]; rfl
    have c6' : (((n2 (B s) 14 % 4096 : Nat) : Int) == 4095) = false := by rw [beq_eq_false_iff_ne]; omega
    rw [c6']
    simp only [aqueductref06_Parse.j0]
    rw [if_neg (by decide), kindE]
    simp only [Option.bind_some]
    cases hm : mayS ((n2 (B s) 16 : Nat) : Int) with
    | false => rw [if_neg (by decide), if_pos (Or.inr (Or.inr rfl))]; rfl
    | true =>
      rw [if_pos rfl, if_neg (by rintro (h | h | h); exact c5 h; exact c6 h; exact absurd h (by decide)), mk_take, mk_mid, mk_drop]
      rfl
  · rw [if_neg (show ¬ ((n2 (B s) 12 : Nat) : Int) = 33024 by omega), if_neg c3, kindE]
    simp only [Option.bind_some]
    cases hm : mayS ((n2 (B s) 12 : Nat) : Int) with
    | false => rw [if_neg (by decide), if_pos rfl]; rfl
    | true =>
      rw [if_pos rfl, if_neg (by decide), mk_take, mk_mid, mk_drop]
      rfl
theorem rbuildE (d s b : ByteArray) (v p t : Int) (hd : d.size ≤ 140737488351232) (hs : s.size ≤ 140737488351232) (hb : b.size ≤ 140737488351232) :
    Ev (fun k => aqueductref06_Build.f k d s v p t b) (mk (buildS (B d) (B s) v p t (B b)).1, (buildS (B d) (B s) v p t (B b)).2) := by
  have no : ¬ okB (B d) (B s) v p t (B b) → ∀ k, 1 ≤ k → aqueductref06_Build.j0 k true d s v p t b = some (mk (buildS (B d) (B s) v p t (B b)).1, (buildS (B d) (B s) v p t (B b)).2) := by
    intro hn k hk
    obtain ⟨k, rfl⟩ : ∃ m, k = m + 1 := ⟨k - 1, by omega⟩
    unfold buildS
    rw [if_neg hn]
    simp only [aqueductref06_Build.j0, if_true]; rfl
  have hld := B_length d
  have hls := B_length s
  have hlb := B_length b
  by_cases c1 : d.size = 6
  rotate_left
  · refine ⟨1, fun k hk => ?_⟩
    show aqueductref06_Build.f k d s v p t b = _
    unfold aqueductref06_Build.f
    rw [if_neg (by omega)]
    exact no (fun h => c1 (by have := h.1; omega)) k hk
  by_cases c2 : s.size = 6
  rotate_left
  · refine ⟨1, fun k hk => ?_⟩
    show aqueductref06_Build.f k d s v p t b = _
    unfold aqueductref06_Build.f
    rw [if_pos (by omega), if_neg (by omega)]
    exact no (fun h => c2 (by have := h.2.1; omega)) k hk
  by_cases c3 : v < -1
  · refine ⟨1, fun k hk => ?_⟩
    show aqueductref06_Build.f k d s v p t b = _
    unfold aqueductref06_Build.f
    rw [if_pos (by omega), if_pos (by omega), if_pos c3]
    exact no (fun h => by have := h.2.2.1; omega) k hk
  by_cases c4 : v > 4094
  · refine ⟨1, fun k hk => ?_⟩
    show aqueductref06_Build.f k d s v p t b = _
    unfold aqueductref06_Build.f
    rw [if_pos (by omega), if_pos (by omega), if_neg c3, if_pos c4]
    exact no (fun h => by have := h.2.2.2.1; omega) k hk
  by_cases c5 : p < 0
  · refine ⟨1, fun k hk => ?_⟩
    show aqueductref06_Build.f k d s v p t b = _
    unfold aqueductref06_Build.f
    rw [if_pos (by omega), if_pos (by omega), if_neg c3, if_neg c4, if_pos c5]
    exact no (fun h => by have := h.2.2.2.2.1; omega) k hk
  by_cases c6 : p > 7
  · refine ⟨1, fun k hk => ?_⟩
    show aqueductref06_Build.f k d s v p t b = _
    unfold aqueductref06_Build.f
    rw [if_pos (by omega), if_pos (by omega), if_neg c3, if_neg c4, if_neg c5, if_pos c6]
    exact no (fun h => by have := h.2.2.2.2.2.1; omega) k hk
  have pre2 : ∀ k, aqueductref06_Build.f k d s v p t b = aqueductref06_Build.j0 k (!mayS t) d s v p t b := by
    intro k
    unfold aqueductref06_Build.f
    rw [if_pos (by omega), if_pos (by omega), if_neg c3, if_neg c4, if_neg c5, if_neg c6, kindE]
    rfl
  cases hm : mayS t with
  | false =>
    refine ⟨1, fun k hk => ?_⟩
    show aqueductref06_Build.f k d s v p t b = _
    rw [pre2, hm]
    exact no (fun h => by have := h.2.2.2.2.2.2.2.1; rw [hm] at this; exact absurd this (by decide)) k hk
  | true =>
    obtain ⟨m1, m2, m3⟩ := may_bd hm
    obtain ⟨k1, e1⟩ := rtwoE t (by omega) (by omega)
    obtain ⟨k2, e2⟩ := rtwoE 33024 (by omega) (by omega)
    simp only at e1 e2
    have st : (mk (dig 2 t.toNat)).size = 2 := by rw [mk_size, dig_length]
    have bt_ := dig_bt 2 t.toNat
    have Bd := B_bt d
    have Bs := B_bt s
    have Bb := B_bt b
    by_cases hv : v = -1
    · by_cases hp0 : p = 0
      rotate_left
      · refine ⟨1, fun k hk => ?_⟩
        show aqueductref06_Build.f k d s v p t b = _
        obtain ⟨k, rfl⟩ : ∃ m, k = m + 1 := ⟨k - 1, by omega⟩
        rw [pre2, hm]
        simp only [aqueductref06_Build.j0]
        have hn : ¬ okB (B d) (B s) v p t (B b) := fun h => hp0 (h.2.2.2.2.2.2.1 hv)
        unfold buildS
        rw [if_neg (by decide), if_pos (by omega), if_neg (show ¬ v ≥ 0 by omega), if_pos (show p > 0 by omega), if_neg hn]; rfl
      refine ⟨k1 + 1, fun k hk => ?_⟩
      show aqueductref06_Build.f k d s v p t b = _
      obtain ⟨k, rfl⟩ : ∃ m, k = m + 1 := ⟨k - 1, by omega⟩
      rw [pre2, hm]
      simp only [aqueductref06_Build.j0]
      rw [if_neg (by decide), if_pos (by omega), if_neg (show ¬ v ≥ 0 by omega), if_neg (show ¬ p > 0 by omega), e1 k (by omega)]
      simp only [Option.bind_some]
      simp only [ByteArray.size_append, st, c1, c2]
      rw [if_pos (by decide), w64 (1518 - ((6 + 6 + 2 : Nat) : Int)) 1504 (by decide) (by omega) (by omega)]
      by_cases hL : (b.size : Int) > 1504
      · have hn : ¬ okB (B d) (B s) v p t (B b) := fun h => by have := h.2.2.2.2.2.2.2.2; rw [if_pos hv] at this; omega
        unfold buildS
        rw [if_pos hL, if_neg hn]; rfl
      · have ho : okB (B d) (B s) v p t (B b) := ⟨by omega, by omega, by omega, by omega, by omega, by omega, fun _ => hp0, hm, by rw [if_pos hv]; omega⟩
        unfold buildS
        rw [if_neg hL, if_pos (by omega), if_pos ho]
        congr 2
        apply B_inj
        rw [B_append, B_append, B_append, B_mk bt_, B_mk (((Bd.append Bs).append (headS_bt _ _ _)).append Bb)]
        unfold headS
        rw [if_pos hv]; rfl
    · obtain ⟨k3, e3⟩ := rtwoE (p * 8192 + v) (by omega) (by omega)
      simp only at e3
      have s2 : (mk (dig 2 (33024 : Int).toNat)).size = 2 := by rw [mk_size, dig_length]
      have s3 : (mk (dig 2 (p * 8192 + v).toNat)).size = 2 := by rw [mk_size, dig_length]
      have tag : wrap64 (wrap64 (8192 * p) + v) = p * 8192 + v := by
        rw [w64 (8192 * p) (p * 8192) (by omega) (by omega) (by omega)]
        exact wrap64_in (by omega) (by omega)
      refine ⟨k1 + k2 + k3 + 1, fun k hk => ?_⟩
      show aqueductref06_Build.f k d s v p t b = _
      obtain ⟨k, rfl⟩ : ∃ m, k = m + 1 := ⟨k - 1, by omega⟩
      rw [pre2, hm]
      simp only [aqueductref06_Build.j0]
      rw [if_neg (by decide), if_pos (by omega), if_pos (show v ≥ 0 by omega), tag, e2 k (by omega), e3 k (by omega)]
      clear tag
      simp only [Option.bind_some]
      rw [e1 k (by omega)]
      simp only [Option.bind_some]
      simp only [ByteArray.size_append, st, s2, s3, c1, c2]
      rw [if_pos (by decide), if_pos (by decide), if_pos (by decide), w64 (1518 - ((6 + 6 + (2 + 2) + 2 : Nat) : Int)) 1500 (by decide) (by omega) (by omega)]
      by_cases hL : (b.size : Int) > 1500
      · have hn : ¬ okB (B d) (B s) v p t (B b) := fun h => by have := h.2.2.2.2.2.2.2.2; rw [if_neg hv] at this; omega
        unfold buildS
        rw [if_pos hL, if_neg hn]; rfl
      · have ho : okB (B d) (B s) v p t (B b) := ⟨by omega, by omega, by omega, by omega, by omega, by omega, fun h => absurd h hv, hm, by rw [if_neg hv]; omega⟩
        unfold buildS
        rw [if_neg hL, if_pos (by omega), if_pos ho]
        congr 2
        apply B_inj
        rw [B_append, B_append, B_append, B_append, B_append, B_mk bt_, B_mk (dig_bt _ _), B_mk (dig_bt _ _), B_mk (((Bd.append Bs).append (headS_bt _ _ _)).append Bb)]
        unfold headS
        rw [if_neg hv, show dig 2 (33024 : Int).toNat = [129, 0] from rfl]
        simp only [List.append_assoc]
theorem rbuildM {d s b : List Nat} (v p t : Int) (hd : Bt d) (hs : Bt s) (hb : Bt b) (ld : d.length ≤ 140737488351232) (ls : s.length ≤ 140737488351232) (lb : b.length ≤ 140737488351232) :
    Ev (fun k => aqueductref06_Build.f k (mk d) (mk s) v p t (mk b)) (mk (buildS d s v p t b).1, (buildS d s v p t b).2) := by
  have := rbuildE (mk d) (mk s) (mk b) v p t (by rw [mk_size]; exact ld) (by rw [mk_size]; exact ls) (by rw [mk_size]; exact lb)
  rwa [B_mk hd, B_mk hs, B_mk hb] at this
theorem rtagE (s : ByteArray) (v : Int) (hs : s.size ≤ 140737488351232) : Ev (fun k => aqueductref06_Tag.f k s v) (mk (tagS (B s) v).1, (tagS (B s) v).2) := by
  obtain ⟨b1, b2, b3⟩ := Fr_bt (B_bt s)
  obtain ⟨l1, l2, l3⟩ := parse_len (B s)
  rw [B_length] at l1 l2 l3
  obtain ⟨k1, e1⟩ := rbuildM v (if v = -1 then 0 else (parseS (B s)).p) (parseS (B s)).t b1 b2 b3 (by omega) (by omega) (by omega)
  obtain ⟨k2, e2⟩ := rparseE s hs
  simp only at e1 e2
  refine ⟨k1 + k2, fun k hk => ?_⟩
  show aqueductref06_Tag.f k s v = _
  have e1 := e1 k (by omega)
  unfold aqueductref06_Tag.f tagS
  rw [e2 k (by omega)]
  simp only [Option.bind_some, Fr.out]
  by_cases c : (parseS (B s)).e = 0
  · rw [if_pos c, if_pos c]
    by_cases h : v = -1
    · rw [if_pos h] at e1 ⊢
      rw [if_pos h, e1]; rfl
    · rw [if_neg h] at e1 ⊢
      rw [if_neg h, e1]; rfl
  · rw [if_neg c, if_neg c]; rfl
/-! What is fixed. -/
theorem fixed06_at : aqueductlaw06_fixed.f 40 = some true := by decide +kernel
theorem fixed06 (k : Nat) (hk : 40 ≤ k) : aqueductlaw06_fixed.f k = some true := at_rounds (fun k => aqueductlaw06_fixed.mono k) hk fixed06_at
/-! What the laws say of tags. -/
theorem tag_inv {l : List Nat} {v : Int} (h : (tagS l v).2 = 0) : (parseS l).e = 0 ∧ okB (parseS l).d (parseS l).s v (if v = -1 then 0 else (parseS l).p) (parseS l).t (parseS l).b ∧
    tagS l v = ((parseS l).d ++ (parseS l).s ++ headS v (if v = -1 then 0 else (parseS l).p) (parseS l).t ++ (parseS l).b, 0) := by
  unfold tagS at h ⊢
  by_cases c : (parseS l).e = 0
  · rw [if_pos c] at h ⊢
    unfold buildS at h ⊢
    by_cases o : okB (parseS l).d (parseS l).s v (if v = -1 then 0 else (parseS l).p) (parseS l).t (parseS l).b
    · exact ⟨c, o, by rw [if_pos o]⟩
    · rw [if_neg o] at h; exact absurd h (by decide)
  · rw [if_neg c] at h; exact absurd h c
theorem tag_of {d s b : List Nat} {v p t : Int} (h : okB d s v p t b) (v' : Int) : tagS (d ++ s ++ headS v p t ++ b) v' = buildS d s v' (if v' = -1 then 0 else p) t b := by
  unfold tagS; rw [parse_build h, if_pos rfl]
theorem vlan_bd (a : Int) : 0 ≤ Int.tmod (Go.bits .and .i64 a 65535) 4095 ∧ Int.tmod (Go.bits .and .i64 a 65535) 4095 ≤ 4094 := by
  have := and_i64 a 16 (by decide)
  rw [show (((2 : Nat) ^ 16 - 1 : Nat) : Int) = 65535 from rfl] at this
  rw [this, Int.tmod_eq_emod_of_nonneg (by omega)]
  omega
theorem ok_any {d s b : List Nat} {v p t v' : Int} (h : okB d s v p t b) (h0 : 0 ≤ v) (h1 : 0 ≤ v') (h2 : v' ≤ 4094) : okB d s v' p t b := by
  obtain ⟨a1, a2, a3, a4, a5, a6, a7, a8, a9⟩ := h
  rw [if_neg (by omega)] at a9
  exact ⟨a1, a2, by omega, h2, a5, a6, fun e => by omega, a8, by rw [if_neg (by omega)]; exact a9⟩
end Go.Proofs.Ytbecpkkhpjigbaa.Wd
