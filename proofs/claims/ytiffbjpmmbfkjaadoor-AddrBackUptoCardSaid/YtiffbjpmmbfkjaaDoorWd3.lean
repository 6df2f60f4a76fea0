/- Addresses and their texts: laws by hand. -/
import Derived.Test.YtiffbjpmmbfkjaaDoorWd2
namespace Go.Proofs.YtiffbjpmmbfkjaaDoor.Wd
open Go Go.RowKit Go.Proofs.YtiffbjpmmbfkjaaDoor.Mth Go.Proofs.YtiffbjpmmbfkjaaDoorW.PrintWords Go.Proofs.YtiffbjpmmbfkjaaDoorW.PrintLast Go.Proofs.YtiffbjpmmbfkjaaDoorW.PrintMore Go.Proofs.YtiffbjpmmbfkjaaDoor.P Go.Proofs Go.Proofs.YtiffbjpmmbfkjaaDoor.Ad
set_option linter.unusedVariables false
set_option linter.unusedSimpArgs false
/-! The laws. -/
theorem bits_pure (a : ByteArray) : aqueductlaw05_AddrBits.f a = some true := by
  unfold aqueductlaw05_AddrBits.f
  rw [kindE, printE, fixed05]
  simp only [Option.bind_some]
  by_cases h : a.size = 6
  · have h6 : (B a).length = 6 := by rw [B_length, h]
    have hb := B_bt a
    rw [if_pos (by omega)]
    unfold printS
    rw [if_pos h6]
    simp only
    rw [if_pos trivial, mk_size, text_len h6, if_pos (by decide), if_pos (by omega)]
    obtain ⟨e0, k0⟩ := bt_nat a (i := 0) rfl
    rw [show (0 : Int) = ((0 : Nat) : Int) from rfl, e0]
    have m : Int.tmod (((B a).getD 0 0 : Nat) : Int) 2 = (((B a).getD 0 0 % 2 : Nat) : Int) := rfl
    have e3 : ((mk (textS (B a))).toList == ([102, 102, 58, 102, 102, 58, 102, 102, 58, 102, 102, 58, 102, 102, 58, 102, 102] : List UInt8)) = decide (B a = [255, 255, 255, 255, 255, 255]) := by
      rw [show ([102, 102, 58, 102, 102, 58, 102, 102, 58, 102, 102, 58, 102, 102, 58, 102, 102] : List UInt8) = (⟨#[102, 102, 58, 102, 102, 58, 102, 102, 58, 102, 102, 58, 102, 102, 58, 102, 102]⟩ : ByteArray).toList by rw [ByteArray.toList_eq], beqL, B_mk (text_bt hb h6)]
      rw [show B (⟨#[102, 102, 58, 102, 102, 58, 102, 102, 58, 102, 102, 58, 102, 102, 58, 102, 102]⟩ : ByteArray) = textS [255, 255, 255, 255, 255, 255] by decide +kernel]
      by_cases q : B a = [255, 255, 255, 255, 255, 255]
      · rw [decide_eq_true q, q]; decide
      · rw [decide_eq_false q, decide_eq_false (fun z => q (text_inj hb (by intro x hx'; simp at hx'; omega) h6 rfl z))]
    rw [e3, m]
    unfold kindS
    rw [if_pos h6]
    by_cases q : B a = [255, 255, 255, 255, 255, 255]
    · rw [if_pos q, q]; rfl
    · rw [if_neg q, decide_eq_false q]
      by_cases q2 : (B a).getD 0 0 % 2 = 1
      · rw [if_pos q2, q2]; rfl
      · have q3 : (B a).getD 0 0 % 2 = 0 := by omega
        rw [if_neg q2, q3]; rfl
  · rw [if_neg (by omega)]
    unfold kindS printS
    rw [B_length, if_neg h, if_neg h]
    rfl
theorem ports_pure (a b : Int) : aqueductlaw05_AddrPorts.f a b = some true := by
  have e15 : ∀ x : Int, ∃ n : Fin 16, Go.bits .and .i64 x 15 = ((n.1 : Nat) : Int) := fun x => by
    have q : Go.bits .and .i64 x 15 = x % 16 := and_i64 x 4 (by decide)
    exact ⟨⟨(x % 16).toNat, by omega⟩, by rw [q]; simp only; omega⟩
  obtain ⟨n, hn⟩ := e15 a
  obtain ⟨m, hm⟩ := e15 b
  unfold aqueductlaw05_AddrPorts.f
  rw [hn, hm, fixed05]
  have q : ∀ n m : Fin 16, ((addr_Port.f ((n.1 : Nat) : Int)).bind fun t170 => ((addr_Port.f ((m.1 : Nat) : Int)).bind fun t171 => ((some true).bind fun t172 => (if t172 = true then ((addr_Kind.f t170).bind fun t173 => (if t173 = 1 then (if ((t170.toList == t171.toList) == (((n.1 : Nat) : Int) == ((m.1 : Nat) : Int))) = true then ((addr_By.f t170).bind fun t174 => (if t174 = ((n.1 : Nat) : Int) then (if t170.size + 1 ≤ 9223372036854775807 then ((addr_By.f (t170 ++ (⟨#[0]⟩ : ByteArray))).bind fun t175 => (some (t175 == (-1)))) else (none)) else (some false))) else (some false)) else (some false))) else (some false))))) = some true := by decide +kernel
  exact q n m
theorem kinds_pure (a : ByteArray) (n : Int) : aqueductlaw05_AddrKinds.f 17 a n = some true := by
  unfold aqueductlaw05_AddrKinds.f
  rw [fixed05, kindE, rkindE _ _ (by decide), portE, rportE, byE, rbyE _ _ (by decide)]
  simp only [Option.bind_some, if_true, beq_self_eq_true]
theorem texts_pure (a s : ByteArray) (h : s.size < 4294967281) : aqueductlaw05_AddrTexts.f 30 a s = some true := by
  unfold aqueductlaw05_AddrTexts.f
  rw [fixed05, printE, rprintE _ _ (by decide), parseE _ h, rparseE _ _ (by decide)]
  simp only [Option.bind_some, if_true, beq_self_eq_true]
theorem back_j (s : ByteArray) (h : s.size < 4294967281) : aqueductlaw05_AddrBack.j0 1 s = some true := by
  rw [aqueductlaw05_AddrBack.j0, parseE _ h, fixed05]
  simp only [Option.bind_some]
  rcases parse_inv (B s) with ⟨b, h1, h2, h3, h4⟩ | ⟨h1, h2⟩
  · rw [h4]
    simp only
    rw [if_pos trivial, printE, Option.bind_some, B_mk h1]
    unfold printS
    rw [if_pos h2]
    simp only
    rw [if_pos trivial, if_pos ((eqL _ _).2 (by rw [B_mk (text_bt h1 h2), h3]))]
  · rw [h1]
    simp only
    rw [if_neg (by decide), if_pos (show (mk []).toList = [] by rw [ByteArray.toList_eq]; rfl)]
theorem back_pure (a b s : ByteArray) (h : s.size < 4294967281) : aqueductlaw05_AddrBack.f 1 a b s = some true := by
  unfold aqueductlaw05_AddrBack.f
  rw [printE, printE, back_j s h]
  simp only [Option.bind_some]
  by_cases h6 : a.size = 6
  · have l6 : (B a).length = 6 := by rw [B_length, h6]
    have hb := B_bt a
    have e : printS (B a) = (textS (B a), 0) := by unfold printS; rw [if_pos l6]
    rw [e]
    simp only
    rw [if_pos trivial, parseE _ (by rw [mk_size, text_len l6]; decide), Option.bind_some, B_mk (text_bt hb l6), parse_text hb l6]
    simp only
    rw [if_pos trivial, mk_B, if_pos rfl]
    by_cases k6 : b.size = 6
    · have m6 : (B b).length = 6 := by rw [B_length, k6]
      have hc := B_bt b
      have e2 : printS (B b) = (textS (B b), 0) := by unfold printS; rw [if_pos m6]
      rw [e2]
      simp only
      rw [if_pos trivial, if_neg]
      rw [beqL, beqL, B_mk (text_bt hb l6), B_mk (text_bt hc m6)]
      by_cases q : B a = B b
      · rw [q]; simp
      · rw [decide_eq_false q, decide_eq_false (fun z => q (text_inj hb hc l6 m6 z))]; simp
    · have e2 : (printS (B b)).2 = 1 := by unfold printS; rw [if_neg (by rw [B_length]; exact k6)]
      rw [e2, if_neg (by decide)]
  · have e2 : (printS (B a)).2 = 1 := by unfold printS; rw [if_neg (by rw [B_length]; exact h6)]
    rw [e2, if_neg (by decide)]
end Go.Proofs.YtiffbjpmmbfkjaaDoor.Wd
