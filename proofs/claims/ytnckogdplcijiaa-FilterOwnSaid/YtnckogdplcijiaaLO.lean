/- Filters: contracts by hand, and the laws over them. -/
import Derived.Test.YtnckogdplcijiaaOwn
import Derived.Test.YtnckogdplcijiaaFF
namespace Go.Proofs.Ytnckogdplcijiaa.Fl
open Go Go.RowKit Go.Proofs.YtnckogdplcijiaaW.PrintWords Go.Proofs.YtnckogdplcijiaaW.PrintLast Go.Proofs.YtnckogdplcijiaaW.PrintMore Go.Proofs.Ytnckogdplcijiaa.Mth Go.Proofs.Ytnckogdplcijiaa.P Go.Proofs.Ytnckogdplcijiaa.Own Go.Proofs
set_option linter.unusedVariables false
set_option linter.unusedSimpArgs false
/-! ### The plain laws of FilterOwn -/
abbrev ones : ByteArray := ⟨#[255, 255, 255, 255, 255, 255]⟩
def F0 (mac : ByteArray) : Flt := ⟨mac, false, false, false, false, false, false, [], [], false, []⟩
def S0 : Sl := ⟨none, 0, none, 0, none, 0⟩
theorem reads_nil {α : Type} (enc : α → Value) (d : α) (w : World) : ReadsOf enc d w none ([] : List α).length [] := ⟨rfl, Nat.zero_le _, fun h => absurd h (Nat.lt_irrefl _)⟩
theorem F0_fv (mac : ByteArray) (w : World) : FV w (F0 mac) S0 := ⟨reads_nil _ _ w, reads_nil _ _ w, reads_nil _ _ w, Nat.le_refl _, Nat.le_refl _, Nat.le_refl _⟩
theorem F0_small (mac : ByteArray) : Small (F0 mac) := ⟨Nat.zero_le _, Nat.zero_le _, Nat.zero_le _⟩
def plainF (a b : ByteArray) : ByteArray := (a ++ b) ++ (⟨#[8, 0]⟩ : ByteArray)
theorem plainF_size {a b : ByteArray} (ha : a.size = 6) (hb : b.size = 6) : (plainF a b).size = 14 := by
  unfold plainF
  rw [ByteArray.size_append, ByteArray.size_append, ha, hb]; rfl
theorem framed_six {a b : ByteArray} (ha : a.size = 6) (hb : b.size = 6) : aqueductlaw16_framed.f a b = some (plainF a b) := by
  unfold aqueductlaw16_framed.f plainF
  rw [if_pos (by omega), if_pos (by rw [ByteArray.size_append]; omega)]
theorem framed_own {a b : ByteArray} (w : World) (ha : a.size = 6) (hb : b.size = 6) : Calls Try.prog 15 #[.string a, .string b] w fun e w' => e = .returned (.string (plainF a b)) ∧ Below w.heap.size w w' := framed_at w (framed_six ha hb)
theorem B_ext {a b : ByteArray} : B (a ++ b) = B a ++ B b := B_append a b
theorem parse_plain {a b c : ByteArray} (ha : a.size = 6) (hb : b.size = 6) (hc : c.size ≤ 1400) : parseS (B (plainF a b ++ c)) = ⟨B a, B b, -1, 0, 2048, B c, 0⟩ := by
  have e : B (plainF a b ++ c) = B a ++ (B b ++ (8 :: 0 :: B c)) := by
    unfold plainF
    rw [B_ext, B_ext, B_ext, List.append_assoc, List.append_assoc]
    rfl
  have la : (B a).length = 6 := by rw [B_length]; exact ha
  have lb : (B b).length = 6 := by rw [B_length]; exact hb
  have lc : (B c).length = c.size := B_length c
  have hlen : (B a ++ (B b ++ (8 :: 0 :: B c))).length = 14 + c.size := by simp only [List.length_append, List.length_cons, la, lb, lc]; omega
  have n12 : n2 (B a ++ (B b ++ (8 :: 0 :: B c))) 12 = 2048 := by
    unfold n2
    simp only [List.getD_eq_getElem?_getD]
    rw [List.getElem?_append_right (by omega), List.getElem?_append_right (by omega), List.getElem?_append_right (by omega), List.getElem?_append_right (by omega), la, lb]
    simp
  rw [e]
  unfold parseS
  rw [hlen, n12, if_neg (by omega), if_neg (by omega), if_neg (by decide), if_neg (by decide)]
  have t1 : (B a ++ (B b ++ (8 :: 0 :: B c))).take 6 = B a := by rw [List.take_append_of_le_length (by omega), List.take_of_length_le (by omega)]
  have t2 : (B a ++ (B b ++ (8 :: 0 :: B c))).drop 6 = B b ++ (8 :: 0 :: B c) := by rw [List.drop_append, List.drop_of_length_le (by omega), la]; rfl
  have t3 : (B b ++ (8 :: 0 :: B c)).take 6 = B b := by rw [List.take_append_of_le_length (by omega), List.take_of_length_le (by omega)]
  have t4 : (B a ++ (B b ++ (8 :: 0 :: B c))).drop 14 = B c := by
    rw [List.drop_append, List.drop_of_length_le (by omega), la, List.nil_append]
    show (B b ++ (8 :: 0 :: B c)).drop 8 = B c
    rw [List.drop_append, List.drop_of_length_le (by omega), lb]
    rfl
  rw [t1, t2, t3, t4]
  rfl
theorem adm_own {mac a b c : ByteArray} (ha : a.size = 6) (hb : b.size = 6) (hc : c.size ≤ 1400) : adm (F0 mac) (plainF a b ++ c) = (if kindB a = 3 then true else if kindB a = 2 then false else a.toList == mac.toList) := by
  unfold adm admitsS
  rw [parse_plain ha hb hc]
  show (((0 : Int) == 0) && !(false && _ && _) && (false || takes mac false false false false false [] [] (mk (B a)))) = _
  have e : mk (B a) = a := B_inj (B_mk (B_bt a))
  rw [e]
  unfold takes
  simp only [F0, Bool.false_and, Bool.not_false, Bool.false_or, Bool.and_true, Bool.true_and, Bool.or_false, hasS, List.any_nil, Bool.and_self, beq_self_eq_true]
theorem size_six {a : ByteArray} (h : kindB a = 1) : a.size = 6 := by
  unfold kindB kindS at h
  rw [B_length] at h
  by_cases q : a.size = 6
  · exact q
  · rw [if_neg q] at h; cases h
theorem kind3_iff {a : ByteArray} (ha : a.size = 6) : kindB a = 3 ↔ a.toList = ones.toList := by
  unfold kindB kindS
  rw [B_length, if_pos ha, eqL]
  show _ ↔ B a = [255, 255, 255, 255, 255, 255]
  by_cases h : B a = [255, 255, 255, 255, 255, 255]
  · rw [if_pos h]; simp [h]
  · rw [if_neg h]
    constructor
    · intro q; split at q <;> cases q
    · intro q; exact absurd q h
theorem own1 {mac other c : ByteArray} (hm : kindB mac = 1) (ho : other.size = 6) (hc : c.size ≤ 1400) : adm (F0 mac) (plainF mac other ++ c) = true := by
  rw [adm_own (size_six hm) ho hc, hm, if_neg (by decide), if_neg (by decide)]
  exact beq_self_eq_true _
theorem own2 {mac other c : ByteArray} (ho : other.size = 6) (hc : c.size ≤ 1400) : adm (F0 mac) (plainF ones other ++ c) = true := by
  rw [adm_own rfl ho hc, if_pos ((kind3_iff rfl).2 rfl)]
theorem own3 {mac other c : ByteArray} (hm : kindB mac = 1) (ho : other.size = 6) (hc : c.size ≤ 1400) : adm (F0 mac) (plainF other mac ++ c) = (other.toList == mac.toList || other.toList == ones.toList) := by
  rw [adm_own ho (size_six hm) hc]
  by_cases h3 : kindB other = 3
  · rw [if_pos h3, (kind3_iff ho).1 h3, beq_self_eq_true, Bool.or_true]
  · rw [if_neg h3]
    have n3 : (other.toList == ones.toList) = false := by rw [beq_eq_false_iff_ne]; exact fun q => h3 ((kind3_iff ho).2 q)
    rw [n3, Bool.or_false]
    by_cases h2 : kindB other = 2
    · rw [if_pos h2]
      symm
      rw [beq_eq_false_iff_ne]
      intro q
      rw [B_inj ((eqL _ _).1 q)] at h2
      rw [h2] at hm; cases hm
    · rw [if_neg h2]
theorem check_own {mac : ByteArray} (w : World) (hk : kindB mac = 1) : Calls Try.prog 11 #[.agg (cellsF (F0 mac) S0)] w fun e w' => e = .returned (.int .i64 0) ∧ Below w.heap.size w w' :=
  (check_f (F0 mac) S0 w (F0_fv mac w)).mono fun _ _ h => ⟨by rw [h.1]; show Ending.returned (.int .i64 (checkS mac [] [] [])) = _; unfold checkS; rw [if_pos ⟨hk, by decide, by decide, rfl, rfl, rfl⟩], h.2⟩
theorem check_bad {mac : ByteArray} (w : World) (hk : ¬ kindB mac = 1) : Calls Try.prog 11 #[.agg (cellsF (F0 mac) S0)] w fun e w' => e = .returned (.int .i64 160) ∧ Below w.heap.size w w' :=
  (check_f (F0 mac) S0 w (F0_fv mac w)).mono fun _ _ h => ⟨by rw [h.1]; show Ending.returned (.int .i64 (checkS mac [] [] [])) = _; unfold checkS; rw [if_neg (fun q => hk q.1)], h.2⟩
theorem adm_flat {mac : ByteArray} {b : Bool} (s : ByteArray) (w : World) (hb : adm (F0 mac) s = b) : Calls Try.prog 13 #[.agg #[.string mac, .bool false, .bool false, .bool false, .bool false, .bool false, .bool false, .slice none 0 0, .slice none 0 0, .bool false, .slice none 0 0], .string s] w fun e w' => e = .returned (.bool b) ∧ Below w.heap.size w w' :=
  adm_at (F0 mac) S0 s w hb (F0_fv mac w) (F0_small mac)
end Go.Proofs.Ytnckogdplcijiaa.Fl
