/- A memory: its functions' contracts, by hand, and the laws over them. -/
import Derived.Test.YtllpfadjdecjiaaMemF
import Derived.Laws.Pointers
import Derived.WalkLawsBesides
import Derived.Deep.QuietTactic
import Derived.BigQuiet
import Derived.Deep.RegionWith
import Derived.Deep.RegionLaw
import Derived.Lib.BufferWrite
namespace Go.Proofs.Ytllpfadjdecjiaa.Mem
open Go Go.RowKit Go.Proofs.YtllpfadjdecjiaaW.PrintWords Go.Proofs.YtllpfadjdecjiaaW.PrintLast Go.Proofs.YtllpfadjdecjiaaW.PrintMore Go.Proofs.Ytllpfadjdecjiaa.Own Go.Proofs.Ytllpfadjdecjiaa.P Go.Proofs.Ytllpfadjdecjiaa
set_option linter.unusedVariables false
set_option linter.unusedSimpArgs false
theorem drewM {w0 w : World} {g : Nat} {s : ByteArray} {who : Int} {log : List S49} (h : Mem w0 w g s who log) : Mem w0 w.drew g s who log := h.beside (below_drew1 (Below.refl _ _))
theorem zeros_ext (n : Nat) : strOfNums (List.replicate n 0) = zeros n := by rw [← zeros_bytes, str_bytes]
theorem pow_le64 (n : Nat) (h : n ≤ 8) : 256 ^ n ≤ 18446744073709551616 := Nat.le_trans (Nat.pow_le_pow_right (by decide) h) (by decide)
theorem over_ext (s t : ByteArray) (a : Nat) (h : a + t.size ≤ s.size) (m : Nat) (hm : m ≤ t.size) : Mth.B ((over s t a).extract a (a + m)) = (Mth.B t).take m := by
  rw [Mth.B_extract, over_B, List.drop_take, show a + m - a = m from by omega, List.append_assoc]
  have l1 : ((Mth.B s).take a).length = a := by rw [List.length_take, Mth.B_length]; omega
  rw [List.drop_append_of_le_length (by omega), show ((Mth.B s).take a).drop a = [] from by rw [List.drop_eq_nil_iff]; omega, List.nil_append, List.take_append_of_le_length (by rw [Mth.B_length]; exact hm)]
theorem le_B (n v : Nat) : Mth.B (le n v) = (Mth.dig n v).reverse := Mth.B_mk (Mth.dig_bt n v).reverse
theorem dig_low : ∀ (n v : Nat), 1 ≤ n → (Mth.dig n v).reverse.take 1 = [v % 256] := by
  intro n v hn
  have h := Mth.dig_get n v 0 (by omega)
  have hl := Mth.dig_length n v
  rw [Nat.pow_zero, Nat.div_one, Nat.sub_zero] at h
  cases hd : (Mth.dig n v).reverse with
  | nil => have : (Mth.dig n v).reverse.length = 0 := by rw [hd]; rfl
           rw [List.length_reverse] at this; omega
  | cons x l =>
    have e : Mth.dig n v = l.reverse ++ [x] := by rw [← List.reverse_reverse (Mth.dig n v), hd, List.reverse_cons]
    rw [e] at h hl
    rw [List.length_append, List.length_reverse, List.length_singleton] at hl
    rw [List.getD_eq_getElem?_getD, List.getElem?_append_right (by rw [List.length_reverse]; omega), List.length_reverse, show n - 1 - l.length = 0 from by omega] at h
    simp at h
    rw [h]
    rfl
theorem ext_all (s t : ByteArray) (h : t.size ≤ s.size) : (over s t 0).extract 0 (0 + t.size) = t := by
  apply Mth.B_inj
  rw [over_ext s t 0 (by omega) t.size (Nat.le_refl _), List.take_of_length_le (by rw [Mth.B_length]; exact Nat.le_refl _)]
end Go.Proofs.Ytllpfadjdecjiaa.Mem
