/- Commands and settings: contracts by hand, and the laws over them. -/
import Derived.Test.YtkgbhlcbjflnlaaZOwn
import Derived.Test.YtkgbhlcbjflnlaaZPl2
import Derived.Test.YtkgbhlcbjflnlaaZPx9
import Derived.Test.YtkgbhlcbjflnlaaZPx10
namespace Go.Proofs.Ytkgbhlcbjflnlaa.Fl
open Go Go.RowKit Go.Proofs.YtkgbhlcbjflnlaaW.PrintWords Go.Proofs.YtkgbhlcbjflnlaaW.PrintLast Go.Proofs.YtkgbhlcbjflnlaaW.PrintMore Go.Proofs.Ytkgbhlcbjflnlaa.Mth Go.Proofs.Ytkgbhlcbjflnlaa.P Go.Proofs.Ytkgbhlcbjflnlaa.Own Go.Proofs
set_option linter.unusedVariables false
set_option linter.unusedSimpArgs false
/-! ### The document's bytes -/
theorem dig_mod (n v : Nat) : dig n (v % 256 ^ n) = dig n v := by
  refine val_inj (dig_bt _ _) (dig_bt _ _) (by rw [dig_length, dig_length]) ?_
  rw [val_dig, val_dig, Nat.mod_mod]
theorem lo_succ (n v : Nat) : lo (n + 1) v = v % 256 :: lo n (v / 256) := by
  unfold lo
  rw [dig_mod, dig_mod]
  show (dig n (v / 256) ++ [v % 256]).reverse = _
  rw [List.reverse_append]
  rfl
theorem strOfNums_one (x : Nat) : strOfNums [(x : Int)] = mk [x] := strOfNums_cast [x]
theorem rlow_l0 (N : Nat) (hN : N ≤ 4) : ∀ (d i v k : Nat) (acc : List Nat), Bt acc → acc.length ≤ 100 + i → i + d = N → d < k → v < 9223372036854775808 →
    aqueductref17_Low.l0 k (v : Int) (N : Int) (mk acc) (i : Int) = some (mk (acc ++ lo d v)) := by
  intro d
  induction d with
  | zero =>
    intro i v k acc hb hl hi hk hv
    obtain ⟨k, rfl⟩ : ∃ m, k = m + 1 := ⟨k - 1, by omega⟩
    rw [aqueductref17_Low.l0, if_neg (by omega)]
    show some (mk acc) = some (mk (acc ++ []))
    rw [List.append_nil]
  | succ d ih =>
    intro i v k acc hb hl hi hk hv
    obtain ⟨k, rfl⟩ : ∃ m, k = m + 1 := ⟨k - 1, by omega⟩
    have e1 : Int.tmod (v : Int) 256 % 256 = ((v % 256 : Nat) : Int) := by rw [Int.tmod_eq_emod_of_nonneg (by omega)]; omega
    have e2 : Int.tdiv (v : Int) 256 = ((v / 256 : Nat) : Int) := by rw [Int.tdiv_eq_ediv_of_nonneg (by omega)]; omega
    have b1 : Bt [v % 256] := fun x hx => by rw [List.mem_singleton.1 hx]; omega
    rw [aqueductref17_Low.l0, if_pos (by omega), Option.bind_some, e1, e2, strOfNums_one, if_pos (by rw [mk_size, mk_size]; simp; omega), mk_append _ _ hb b1,
      w64 ((v / 256 : Nat) : Int) ((v / 256 : Nat) : Int) rfl (by omega) (by omega), w64 ((i : Int) + 1) ((i + 1 : Nat) : Int) (by omega) (by omega) (by omega)]
    rw [ih (i + 1) (v / 256) k (acc ++ [v % 256]) (hb.append b1) (by simp; omega) (by omega) (by omega) (by omega), lo_succ, List.append_assoc]
    rfl
theorem rlow_spec (v n : Nat) (h4 : n ≤ 4) (hv : v < 9223372036854775808) (k : Nat) (hk : 10 ≤ k) : aqueductref17_Low.f k (v : Int) (n : Int) = some (mk (lo n v)) := by
  unfold aqueductref17_Low.f
  have q := rlow_l0 n h4 n 0 v k [] Bt.nil (by simp) (by omega) (by omega) hv
  rw [List.nil_append] at q
  exact q
theorem rlow_c (v n : Nat) (h4 : n ≤ 4) (hv : v < 9223372036854775808) (w : World) : Calls Try.prog 26 #[.int .i64 v, .int .i64 n] w fun e w' => e = .returned (.string (mk (lo n v))) ∧ Below w.heap.size w w' :=
  aqueductref17_Low.calls 10 v n _ w (rlow_spec v n h4 hv 10 (Nat.le_refl _))
theorem cat_cons (a : ByteArray) (l : List ByteArray) : B (cat (a :: l)) = B a ++ B (cat l) := by rw [B_cat, B_cat]; rfl
theorem cat_drop {l : List ByteArray} {i : Nat} (h : i < l.length) : B (cat (l.drop i)) = B (rdOf ByteArray.empty l (i : Int)) ++ B (cat (l.drop (i + 1))) := by
  rw [List.drop_eq_getElem_cons h, cat_cons]
  congr 2
  simp [rdOf, List.getD_eq_getElem?_getD, List.getElem?_eq_getElem h]
theorem rtable_l1 (ms : List ByteArray) (hl : ms.length ≤ 1000000) : ∀ (d i k : Nat) (acc : List Nat), Bt acc → acc.length + (B (cat (ms.drop i))).length ≤ 9223372036854775807 → i ≤ ms.length → ms.length - i = d → d < k →
    aqueductref17_Table.l1 k ms (mk acc) (i : Int) = some (mk (acc ++ B (cat (ms.drop i)))) := by
  intro d
  induction d with
  | zero =>
    intro i k acc hb hz hi hd hk
    obtain ⟨k, rfl⟩ : ∃ m, k = m + 1 := ⟨k - 1, by omega⟩
    rw [aqueductref17_Table.l1, if_neg (by omega), List.drop_eq_nil_of_le (by omega)]
    show some (mk acc) = some (mk (acc ++ []))
    rw [List.append_nil]
  | succ d ih =>
    intro i k acc hb hz hi hd hk
    obtain ⟨k, rfl⟩ : ∃ m, k = m + 1 := ⟨k - 1, by omega⟩
    have hlt : i < ms.length := by omega
    rw [cat_drop hlt] at hz ⊢
    rw [List.length_append] at hz
    obtain ⟨s, hs⟩ : ∃ s, rdOf ByteArray.empty ms (i : Int) = s := ⟨_, rfl⟩
    rw [hs] at hz ⊢
    have ez : (B s).length = s.size := B_length s
    rw [aqueductref17_Table.l1, if_pos (by omega), if_pos (by omega), hs, if_pos (by rw [mk_size]; omega), w64 ((i : Int) + 1) ((i + 1 : Nat) : Int) (by omega) (by omega) (by omega)]
    have e : mk acc ++ s = mk (acc ++ B s) := by rw [← mk_append _ _ hb (B_bt s), mk_B]
    rw [e, ih (i + 1) k (acc ++ B s) (hb.append (B_bt s)) (by rw [List.length_append]; omega) (by omega) (by omega) (by omega), List.append_assoc]
theorem rtable_l0 (us ms : List ByteArray) (hl : us.length ≤ 1000000) (hm : ms.length ≤ 1000000) : ∀ (d i k : Nat) (acc : List Nat), Bt acc → acc.length + (B (cat (us.drop i))).length + (B (cat ms)).length + 4 ≤ 9223372036854775807 → i ≤ us.length → us.length - i = d → d + ms.length + 20 < k →
    aqueductref17_Table.l0 k us ms (mk acc) (i : Int) = some (mk (acc ++ (B (cat (us.drop i)) ++ (lo 4 ms.length ++ B (cat ms))))) := by
  intro d
  induction d with
  | zero =>
    intro i k acc hb hz hi hd hk
    obtain ⟨k, rfl⟩ : ∃ m, k = m + 1 := ⟨k - 1, by omega⟩
    have q := rtable_l1 ms hm ms.length 0 k (acc ++ lo 4 ms.length) (hb.append (lo_bt _ _)) (by rw [List.length_append, lo_length, List.drop_zero]; omega) (by omega) (by omega) (by omega)
    rw [aqueductref17_Table.l0, if_neg (by omega), show (4 : Int) = ((4 : Nat) : Int) from rfl, rlow_spec ms.length 4 (by decide) (by omega) k (by omega), Option.bind_some, if_pos (by rw [mk_size, mk_size, lo_length]; omega), mk_append _ _ hb (lo_bt _ _)]
    rw [List.drop_eq_nil_of_le (show us.length ≤ i by omega)]
    rw [List.drop_zero] at q
    rw [show ((0 : Nat) : Int) = 0 from rfl] at q
    rw [q, List.append_assoc]
    rfl
  | succ d ih =>
    intro i k acc hb hz hi hd hk
    obtain ⟨k, rfl⟩ : ∃ m, k = m + 1 := ⟨k - 1, by omega⟩
    have hlt : i < us.length := by omega
    rw [cat_drop hlt] at hz ⊢
    rw [List.length_append] at hz
    obtain ⟨s, hs⟩ : ∃ s, rdOf ByteArray.empty us (i : Int) = s := ⟨_, rfl⟩
    rw [hs] at hz ⊢
    have ez : (B s).length = s.size := B_length s
    rw [aqueductref17_Table.l0, if_pos (by omega), if_pos (by omega), hs, if_pos (by rw [mk_size]; omega), w64 ((i : Int) + 1) ((i + 1 : Nat) : Int) (by omega) (by omega) (by omega)]
    have e : mk acc ++ s = mk (acc ++ B s) := by rw [← mk_append _ _ hb (B_bt s), mk_B]
    rw [e, ih (i + 1) k (acc ++ B s) (hb.append (B_bt s)) (by rw [List.length_append]; omega) (by omega) (by omega) (by omega), List.append_assoc, List.append_assoc]
theorem com_two (c n : Nat) (l : List Nat) (hc : c < 256) (hn : n < 256) : comB c n l = c :: n :: l := by
  have h : ∀ x, x < 256 → lo 1 x = [x] := fun x hx => by rw [lo_succ, Nat.mod_eq_of_lt hx]; rfl
  unfold comB
  rw [h c hc, h n hn]
  rfl
theorem rtable_c (A : Option Addr) (c : Nat) (us : List ByteArray) (A2 : Option Addr) (c2 : Nat) (ms : List ByteArray) (w : World) (hr : ReadsOf Value.string ByteArray.empty w A us.length us) (hc : us.length ≤ c) (hr2 : ReadsOf Value.string ByteArray.empty w A2 ms.length ms) (hc2 : ms.length ≤ c2)
    (hz : (cat us).size + (cat ms).size + 8 ≤ 140737488355328) (hu : us.length ≤ 1000000) (hm : ms.length ≤ 1000000) :
    Calls Try.prog 27 #[.slice A us.length c, .slice A2 ms.length c2] w fun e w' => e = .returned (.string (tableB us ms)) ∧ Below w.heap.size w w' := by
  have b2 : Bt [1, 0] := fun x hx => by
    rcases List.mem_cons.1 hx with rfl | hx
    · decide
    · rw [List.mem_singleton.1 hx]; decide
  have q := rtable_l0 us ms hu hm us.length 0 (us.length + ms.length + 30) ([1, 0] ++ lo 4 us.length) (b2.append (lo_bt _ _)) (by rw [List.length_append, lo_length, List.drop_zero, ← cat_size, ← cat_size]; simp; omega) (by omega) (by omega) (by omega)
  refine aqueductref17_Table.calls (us.length + ms.length + 30) A c us A2 c2 ms _ w (Kd.C_of_reads hr) hc (Kd.C_of_reads hr2) hc2 ?_
  unfold aqueductref17_Table.f
  rw [show (4 : Int) = ((4 : Nat) : Int) from rfl, rlow_spec us.length 4 (by decide) (by omega) _ (by omega), Option.bind_some, if_pos (by rw [mk_size, lo_length]; omega)]
  rw [show (⟨#[1, 0]⟩ : ByteArray) = mk [1, 0] from rfl, mk_append _ _ b2 (lo_bt _ _)]
  rw [List.drop_zero, show ((0 : Nat) : Int) = 0 from rfl] at q
  rw [q]
  unfold tableB
  rw [com_two _ _ _ (by decide) (by decide), List.append_assoc]
  rfl
theorem rrules_l0 (p : Nat) (hp : p < 9223372036854775808) (tab : List Nat) (key : ByteArray) (htb : ∀ q ∈ tab, q < 9223372036854775808) (hl : tab.length ≤ 100000) (hk : key.size ≤ 100000) (kn df : Int) :
    ∀ (d i k : Nat) (l : List Nat), Bt l → l.length ≤ 1000000 + 2 * i → i ≤ tab.length → tab.length - i = d → d + 20 < k →
    aqueductref17_Rules.l0 k (p : Int) (mk l) (i : Int) kn (intsOf tab) key df = some (mk (l ++ (lo2s (tab.drop i) ++ ruleT p key))) := by
  intro d
  induction d with
  | zero =>
    intro i k l hb hll hi hd hk2
    obtain ⟨k, rfl⟩ : ∃ m, k = m + 1 := ⟨k - 1, by omega⟩
    have z0 : (mk (lo 2 p)).size = 2 := by rw [mk_size, lo_length]
    have z1 : (mk (lo 1 key.size)).size = 1 := by rw [mk_size, lo_length]
    rw [aqueductref17_Rules.l0, if_neg (by rw [intsOf_len]; omega), show (2 : Int) = ((2 : Nat) : Int) from rfl, rlow_spec p 2 (by decide) hp k (by omega), Option.bind_some, if_pos (by rw [z0, mk_size]; omega), show (1 : Int) = ((1 : Nat) : Int) from rfl, rlow_spec key.size 1 (by decide) (by omega) k (by omega), Option.bind_some,
      if_pos (by rw [ByteArray.size_append, z0, z1, mk_size]; omega), if_pos (by rw [ByteArray.size_append, ByteArray.size_append, z0, z1, mk_size]; omega)]
    rw [List.drop_eq_nil_of_le (by omega)]
    congr 1
    apply B_inj
    rw [B_append, B_append, B_append, B_mk hb, B_mk (lo_bt _ _), B_mk (lo_bt _ _), B_mk (hb.append ((lo2s_bt _).append (ruleT_bt _ _)))]
    unfold ruleT lo2s
    simp only [List.append_assoc, List.nil_append]
  | succ d ih =>
    intro i k l hb hll hi hd hk2
    have hlt : i < tab.length := by omega
    obtain ⟨k, rfl⟩ : ∃ m, k = m + 1 := ⟨k - 1, by omega⟩
    have z0 : (mk (lo 2 tab[i])).size = 2 := by rw [mk_size, lo_length]
    rw [aqueductref17_Rules.l0, if_pos (by rw [intsOf_len]; omega), if_pos (by omega), rd_ints _ _ hlt, show (2 : Int) = ((2 : Nat) : Int) from rfl, rlow_spec tab[i] 2 (by decide) (htb _ (List.getElem_mem hlt)) k (by omega), Option.bind_some, if_pos (by rw [z0, mk_size]; omega), w64 ((i : Int) + 1) ((i + 1 : Nat) : Int) (by omega) (by omega) (by omega), mk_append _ _ hb (lo_bt _ _)]
    rw [ih (i + 1) k (l ++ lo 2 tab[i]) (hb.append (lo_bt _ _)) (by rw [List.length_append, lo_length]; omega) (by omega) (by omega) (by omega)]
    rw [List.drop_eq_getElem_cons hlt, lo2s, List.append_assoc, List.append_assoc]
theorem rrules_c (kn : Nat) (A : Option Addr) (c : Nat) (tab : List Nat) (key : ByteArray) (df p : Nat) (w : World) (hkn : kn < 9223372036854775808) (hdf : df < 9223372036854775808) (hp : p < 9223372036854775808)
    (htb : ∀ q ∈ tab, q < 9223372036854775808) (hl : tab.length ≤ 100000) (hk : key.size ≤ 100000) (hr : ReadsOf (Value.int .i64) 0 w A tab.length (intsOf tab)) (hc : tab.length ≤ c) :
    Calls Try.prog 28 #[.agg #[.int .i64 kn, .slice A tab.length c, .string key, .int .i64 df], .int .i64 p] w fun e w' => e = .returned (.string (ruleB kn tab key df p)) ∧ Below w.heap.size w w' := by
  have b2 : Bt [4, 1] := fun x hx => by
    rcases List.mem_cons.1 hx with rfl | hx
    · decide
    · rw [List.mem_singleton.1 hx]; decide
  have hrk : Kd.C (Kd.int .i64) w A (intsOf tab).length (intsOf tab) := by rw [intsOf_len]; exact Kd.C_of_reads hr
  have hcl : (intsOf tab).length ≤ c := by rw [intsOf_len]; exact hc
  have q := aqueductref17_Rules.calls (tab.length + 40) (kn : Int) A c (intsOf tab) key (df : Int) (p : Int) (ruleB kn tab key df p) w hrk hcl ?_
  · rw [intsOf_len] at q
    exact q
  · unfold aqueductref17_Rules.f
    have hb : Bt ([4, 1] ++ (lo 4 kn ++ (lo 2 (tab.length + 65535) ++ lo 2 df))) := b2.append ((lo_bt _ _).append ((lo_bt _ _).append (lo_bt _ _)))
    have q0 := rrules_l0 p hp tab key htb hl hk (kn : Int) (df : Int) tab.length 0 (tab.length + 40) _ hb (by rw [List.length_append, List.length_append, List.length_append, lo_length, lo_length, lo_length]; simp) (by omega) (by omega) (by omega)
    have z0 : (mk (lo 4 kn)).size = 4 := by rw [mk_size, lo_length]
    have z1 : (mk (lo 2 (tab.length + 65535))).size = 2 := by rw [mk_size, lo_length]
    have z2 : (mk (lo 2 df)).size = 2 := by rw [mk_size, lo_length]
    have z3 : (⟨#[4, 1]⟩ : ByteArray).size = 2 := rfl
    rw [intsOf_len, w64 ((tab.length : Int) + 65535) ((tab.length + 65535 : Nat) : Int) (by omega) (by omega) (by omega)]
    rw [show (4 : Int) = ((4 : Nat) : Int) from rfl, rlow_spec kn 4 (by decide) hkn _ (by omega), Option.bind_some, if_pos (by rw [z0]; omega), show (2 : Int) = ((2 : Nat) : Int) from rfl, rlow_spec (tab.length + 65535) 2 (by decide) (by omega) _ (by omega), Option.bind_some,
      if_pos (by rw [ByteArray.size_append, z0, z1, z3]; omega), rlow_spec df 2 (by decide) hdf _ (by omega), Option.bind_some, if_pos (by rw [ByteArray.size_append, ByteArray.size_append, z0, z1, z2, z3]; omega)]
    rw [show (⟨#[4, 1]⟩ : ByteArray) = mk [4, 1] from rfl, mk_append _ _ b2 (lo_bt _ _), mk_append _ _ (b2.append (lo_bt _ _)) (lo_bt _ _), mk_append _ _ ((b2.append (lo_bt _ _)).append (lo_bt _ _)) (lo_bt _ _)]
    rw [List.drop_zero, show ((0 : Nat) : Int) = 0 from rfl] at q0
    rw [List.append_assoc, List.append_assoc, q0]
    unfold ruleB
    rw [com_two _ _ _ (by decide) (by decide)]
    simp only [List.append_assoc, List.cons_append, List.nil_append]
end Go.Proofs.Ytkgbhlcbjflnlaa.Fl
