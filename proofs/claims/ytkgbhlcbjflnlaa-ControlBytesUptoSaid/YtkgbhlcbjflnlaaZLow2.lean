/- Commands and settings: contracts by hand, and the laws over them. -/
import Derived.Test.YtkgbhlcbjflnlaaZOwn
import Derived.Test.YtkgbhlcbjflnlaaZLow
import Derived.Test.YtkgbhlcbjflnlaaZPx7
import Derived.Test.YtkgbhlcbjflnlaaZPx8
namespace Go.Proofs.Ytkgbhlcbjflnlaa.Fl
open Go Go.RowKit Go.Proofs.YtkgbhlcbjflnlaaW.PrintWords Go.Proofs.YtkgbhlcbjflnlaaW.PrintLast Go.Proofs.YtkgbhlcbjflnlaaW.PrintMore Go.Proofs.Ytkgbhlcbjflnlaa.Mth Go.Proofs.Ytkgbhlcbjflnlaa.P Go.Proofs.Ytkgbhlcbjflnlaa.Own Go.Proofs
set_option linter.unusedVariables false
set_option linter.unusedSimpArgs false
open Go.Proofs.Ytkgbhlcbjflnlaa.Wd
/-! ### The bytes of the greater commands -/
def macB (m : ByteArray) : ByteArray := mk (comB 1 1 (B m))
def tableB (us ms : List ByteArray) : ByteArray := mk (comB 1 0 (lo 4 us.length ++ (B (cat us) ++ (lo 4 ms.length ++ B (cat ms)))))
theorem cat_size (l : List ByteArray) : (cat l).size = (B (cat l)).length := (B_length _).symm
theorem com_cat (c n : Nat) (hc : c < 9223372036854775808) (hn : n < 9223372036854775808) (l : List ByteArray) (h : (cat l).size ≤ 140737488355328) (hl : l.length ≤ 140737488355328) :
    Ev (fun k => control_cmd.f k (c : Int) (n : Int) l) (mk (comB c n (B (cat l)))) := by
  have q := cmd_spec c n hc hn l h hl
  have e : mk (lo 1 c) ++ mk (lo 1 n) ++ cat l = mk (comB c n (B (cat l))) := by
    rw [← com_mk _ _ _ (B_bt _), mk_B]
  rw [e] at q
  exact q
theorem mac_cmd (m : ByteArray) (hm : m.size ≤ 140737488355328) (w : World) : Calls Try.prog 21 #[.string m] w fun e w' => e = .returned (.string (macB m)) ∧ Below w.heap.size w w' := by
  obtain ⟨k, hk⟩ := com_cat 1 1 (by decide) (by decide) [m] (by rw [cat_one]; exact hm) (by simp)
  rw [cat_one] at hk
  have e := hk k (Nat.le_refl _)
  refine control_Mac.calls k m _ w ?_
  unfold control_Mac.f
  dsimp only at e
  rw [show (1 : Int) = ((1 : Nat) : Int) from rfl, e]
  rfl
theorem cat_four (a b : List Nat) (us ms : List ByteArray) (ha : Bt a) (hb : Bt b) : B (cat [mk a, cat us, mk b, cat ms]) = a ++ (B (cat us) ++ (b ++ B (cat ms))) := by
  rw [B_cat]
  simp only [List.map_cons, List.map_nil, List.flatten_cons, List.flatten_nil, List.append_nil]
  rw [B_mk ha, B_mk hb]
theorem table_cmd (A : Option Addr) (c : Nat) (us : List ByteArray) (A2 : Option Addr) (c2 : Nat) (ms : List ByteArray) (w : World) (hr : ReadsOf Value.string ByteArray.empty w A us.length us) (hc : us.length ≤ c) (hr2 : ReadsOf Value.string ByteArray.empty w A2 ms.length ms) (hc2 : ms.length ≤ c2)
    (hz : (cat us).size + (cat ms).size + 8 ≤ 140737488355328) (hu : us.length ≤ 140737488355328) (hm : ms.length ≤ 140737488355328) :
    Calls Try.prog 20 #[.slice A us.length c, .slice A2 ms.length c2] w fun e w' => e = .returned (.string (tableB us ms)) ∧ Below w.heap.size w w' := by
  obtain ⟨k0, h0⟩ := low_spec us.length 4 (by decide) (by decide) (by omega)
  obtain ⟨k1, h1⟩ := low_spec ms.length 4 (by decide) (by decide) (by omega)
  have e4 := cat_four (lo 4 us.length) (lo 4 ms.length) us ms (lo_bt _ _) (lo_bt _ _)
  obtain ⟨k2, h2⟩ := com_cat 1 0 (by decide) (by decide) [mk (lo 4 us.length), cat us, mk (lo 4 ms.length), cat ms] (by
    rw [cat_size, e4, List.length_append, List.length_append, List.length_append, lo_length, lo_length, ← cat_size, ← cat_size]; omega) (by simp)
  have e0 := h0 (k0 + k1 + k2) (by omega)
  have e1 := h1 (k0 + k1 + k2) (by omega)
  have e2 := h2 (k0 + k1 + k2) (by omega)
  dsimp only at e0 e1 e2
  rw [e4] at e2
  refine control_Table.calls (k0 + k1 + k2) A c us A2 c2 ms _ w (Kd.C_of_reads hr) hc (Kd.C_of_reads hr2) hc2 ?_
  unfold control_Table.f
  rw [show (4 : Int) = ((4 : Nat) : Int) from rfl, e0, Option.bind_some, join_spec us (by omega) hu, Option.bind_some, e1, Option.bind_some, join_spec ms (by omega) hm, Option.bind_some,
    show (1 : Int) = ((1 : Nat) : Int) from rfl, show (0 : Int) = ((0 : Nat) : Int) from rfl, e2]
  rfl
/-- The bytes of numbers, two of each. -/
def lo2s : List Nat → List Nat
  | [] => []
  | a :: r => lo 2 a ++ lo2s r
theorem lo2s_bt : ∀ l, Bt (lo2s l)
  | [] => Bt.nil
  | a :: r => (lo_bt _ _).append (lo2s_bt r)
def intsOf (l : List Nat) : List Int := l.map fun (x : Nat) => (x : Int)
theorem intsOf_len (l : List Nat) : (intsOf l).length = l.length := List.length_map _
/-- A command of rules. -/
def ruleT (p : Nat) (key : ByteArray) : List Nat := lo 2 p ++ (lo 1 key.size ++ B key)
theorem ruleT_bt (p : Nat) (key : ByteArray) : Bt (ruleT p key) := (lo_bt _ _).append ((lo_bt _ _).append (B_bt _))
def ruleB (kn : Nat) (tab : List Nat) (key : ByteArray) (df p : Nat) : ByteArray := mk (comB 4 1 (lo 4 kn ++ (lo 2 (tab.length + 65535) ++ (lo 2 df ++ (lo2s tab ++ ruleT p key)))))
theorem rd_ints (l : List Nat) (i : Nat) (h : i < l.length) : rd (intsOf l) (i : Int) = ((l[i] : Nat) : Int) := by
  simp [rd, intsOf, List.getD_eq_getElem?_getD, h]
theorem rules_l0 (p : Nat) (hp : p < 9223372036854775808) (tab : List Nat) (key : ByteArray) (htb : ∀ q ∈ tab, q < 9223372036854775808) (hl : tab.length ≤ 100000) (hk : key.size ≤ 100000) (kn df : Int) :
    ∀ (d i : Nat) (l : List Nat), Bt l → l.length ≤ 1000000 + 2 * i → i ≤ tab.length → tab.length - i = d →
    Ev (fun k => control_Rules.l0 k (p : Int) (mk l) (intsOf tab) (tab.length : Int) (i : Int) kn (intsOf tab) key df) (mk (l ++ (lo2s (tab.drop i) ++ ruleT p key))) := by
  intro d
  induction d with
  | zero =>
    intro i l hb hll hi hd
    obtain ⟨k0, h0⟩ := low_spec p 2 (by decide) (by decide) hp
    obtain ⟨k1, h1⟩ := low_spec key.size 1 (by decide) (by decide) (by omega)
    refine ⟨k0 + k1 + 1, fun k hk => ?_⟩
    obtain ⟨k, rfl⟩ : ∃ m, k = m + 1 := ⟨k - 1, by omega⟩
    have e0 := h0 k (by omega)
    have e1 := h1 k (by omega)
    dsimp only at e0 e1
    show control_Rules.l0 (k + 1) _ _ _ _ _ _ _ _ _ = _
    have z0 : (mk (lo 2 p)).size = 2 := by rw [mk_size, lo_length]
    have z1 : (mk (lo 1 key.size)).size = 1 := by rw [mk_size, lo_length]
    rw [control_Rules.l0, if_neg (by omega), show (2 : Int) = ((2 : Nat) : Int) from rfl, e0, Option.bind_some, if_pos (by rw [z0, mk_size]; omega), show (1 : Int) = ((1 : Nat) : Int) from rfl, e1, Option.bind_some,
      if_pos (by rw [ByteArray.size_append, z0, z1, mk_size]; omega), if_pos (by rw [ByteArray.size_append, ByteArray.size_append, z0, z1, mk_size]; omega)]
    rw [List.drop_eq_nil_of_le (by omega)]
    congr 1
    apply B_inj
    rw [B_append, B_append, B_append, B_mk hb, B_mk (lo_bt _ _), B_mk (lo_bt _ _), B_mk (hb.append ((lo2s_bt _).append (ruleT_bt _ _)))]
    unfold ruleT lo2s
    simp only [List.append_assoc, List.nil_append]
  | succ d ih =>
    intro i l hb hll hi hd
    have hlt : i < tab.length := by omega
    obtain ⟨k0, h0⟩ := low_spec tab[i] 2 (by decide) (by decide) (htb _ (List.getElem_mem hlt))
    obtain ⟨k1, h1⟩ := ih (i + 1) (l ++ lo 2 tab[i]) (hb.append (lo_bt _ _)) (by rw [List.length_append, lo_length]; omega) (by omega) (by omega)
    refine ⟨k0 + k1 + 1, fun k hk => ?_⟩
    obtain ⟨k, rfl⟩ : ∃ m, k = m + 1 := ⟨k - 1, by omega⟩
    have e0 := h0 k (by omega)
    have e1 := h1 k (by omega)
    dsimp only at e0 e1
    show control_Rules.l0 (k + 1) _ _ _ _ _ _ _ _ _ = _
    have z0 : (mk (lo 2 tab[i])).size = 2 := by rw [mk_size, lo_length]
    rw [control_Rules.l0, if_pos (by omega), if_pos (by omega), if_pos (by rw [intsOf_len]; omega), rd_ints _ _ hlt, show (2 : Int) = ((2 : Nat) : Int) from rfl, e0, Option.bind_some, if_pos (by rw [z0, mk_size]; omega), w64 ((i : Int) + 1) ((i + 1 : Nat) : Int) (by omega) (by omega) (by omega), mk_append _ _ hb (lo_bt _ _), e1]
    rw [List.drop_eq_getElem_cons hlt, lo2s, List.append_assoc, List.append_assoc]
theorem rules_cmd (kn : Nat) (A : Option Addr) (c : Nat) (tab : List Nat) (key : ByteArray) (df p : Nat) (w : World) (hkn : kn < 9223372036854775808) (hdf : df < 9223372036854775808) (hp : p < 9223372036854775808)
    (htb : ∀ q ∈ tab, q < 9223372036854775808) (hl : tab.length ≤ 100000) (hk : key.size ≤ 100000) (hr : ReadsOf (Value.int .i64) 0 w A tab.length (intsOf tab)) (hc : tab.length ≤ c) :
    Calls Try.prog 23 #[.agg #[.int .i64 kn, .slice A tab.length c, .string key, .int .i64 df], .int .i64 p] w fun e w' => e = .returned (.string (ruleB kn tab key df p)) ∧ Below w.heap.size w w' := by
  obtain ⟨k0, h0⟩ := low_spec kn 4 (by decide) (by decide) hkn
  obtain ⟨k1, h1⟩ := low_spec (tab.length + 65535) 2 (by decide) (by decide) (by omega)
  obtain ⟨k2, h2⟩ := low_spec df 2 (by decide) (by decide) hdf
  have e3 : B (cat [mk (lo 4 kn), mk (lo 2 (tab.length + 65535)), mk (lo 2 df)]) = lo 4 kn ++ (lo 2 (tab.length + 65535) ++ lo 2 df) := by
    rw [B_cat]
    simp only [List.map_cons, List.map_nil, List.flatten_cons, List.flatten_nil, List.append_nil]
    rw [B_mk (lo_bt _ _), B_mk (lo_bt _ _), B_mk (lo_bt _ _)]
  obtain ⟨k3, h3⟩ := com_cat 4 1 (by decide) (by decide) [mk (lo 4 kn), mk (lo 2 (tab.length + 65535)), mk (lo 2 df)] (by
    rw [cat_size, e3, List.length_append, List.length_append, lo_length, lo_length, lo_length]; omega) (by simp)
  rw [e3] at h3
  have hb : Bt (comB 4 1 (lo 4 kn ++ (lo 2 (tab.length + 65535) ++ lo 2 df))) := comB_bt ((lo_bt _ _).append ((lo_bt _ _).append (lo_bt _ _)))
  obtain ⟨k4, h4⟩ := rules_l0 p hp tab key htb hl hk (kn : Int) (df : Int) tab.length 0 _ hb (by unfold comB; rw [List.length_append, List.length_append, List.length_append, List.length_append, lo_length, lo_length, lo_length, lo_length, lo_length]; omega) (by omega) (by omega)
  obtain ⟨K, hK⟩ : ∃ K, K = k0 + k1 + k2 + k3 + k4 := ⟨_, rfl⟩
  have e0 := h0 K (by omega)
  have e1 := h1 K (by omega)
  have e2 := h2 K (by omega)
  have e4 := h3 K (by omega)
  have e5 := h4 K (by omega)
  dsimp only at e0 e1 e2 e4 e5
  have hrk : Kd.C (Kd.int .i64) w A (intsOf tab).length (intsOf tab) := by rw [intsOf_len]; exact Kd.C_of_reads hr
  have hcl : (intsOf tab).length ≤ c := by rw [intsOf_len]; exact hc
  have q := control_Rules.calls K (kn : Int) A c (intsOf tab) key (df : Int) (p : Int) (ruleB kn tab key df p) w hrk hcl ?_
  · rw [intsOf_len] at q
    exact q
  · unfold control_Rules.f
    rw [intsOf_len, w64 ((tab.length : Int) - 1) ((tab.length : Int) - 1) rfl (by omega) (by omega), w64 ((tab.length : Int) - 1 + 65536) ((tab.length + 65535 : Nat) : Int) (by omega) (by omega) (by omega)]
    rw [show (4 : Int) = ((4 : Nat) : Int) from rfl, e0, Option.bind_some, show (2 : Int) = ((2 : Nat) : Int) from rfl, e1, Option.bind_some, e2, Option.bind_some, show (1 : Int) = ((1 : Nat) : Int) from rfl, e4, Option.bind_some,
      show (0 : Int) = ((0 : Nat) : Int) from rfl, e5]
    unfold ruleB comB
    rw [List.drop_zero]
    simp only [List.append_assoc]
end Go.Proofs.Ytkgbhlcbjflnlaa.Fl
