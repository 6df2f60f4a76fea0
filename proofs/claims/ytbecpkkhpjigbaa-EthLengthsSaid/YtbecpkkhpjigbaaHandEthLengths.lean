/- The law EthLengths: its walk, and its plain law, joined: for every input it returns true and leaves old memory as it was. -/
import Derived.Test.YtbecpkkhpjigbaaWd
import Derived.Test.YtbecpkkhpjigbaaPx15
namespace Go.Proofs.Ytbecpkkhpjigbaa.Hand
open Go Go.RowKit Go.Proofs.Ytbecpkkhpjigbaa.P Go.Proofs.YtbecpkkhpjigbaaW.PrintWords Go.Proofs.YtbecpkkhpjigbaaW.PrintLast Go.Proofs.YtbecpkkhpjigbaaW.PrintMore Go.Proofs.Ytbecpkkhpjigbaa.Mth Go.Proofs.Ytbecpkkhpjigbaa.Wd
set_option linter.unusedVariables false
set_option linter.unusedSimpArgs false
theorem EthLengths (d s : ByteArray) (v p t : Int) (b : ByteArray) (w : World) (hd : d.size ≤ 140737488351232) (hs : s.size ≤ 140737488351232)
    (h0 : (Lit.int .i64 v).wf = true) (h1 : (Lit.int .i64 p).wf = true) (h2 : (Lit.int .i64 t).wf = true) (hb : b.size ≤ 140737488351232) :
    Calls Try.prog 8 #[.agg #[.string d, .string s, .int .i64 v, .int .i64 p, .int .i64 t, .string b]] w fun e w' => e = .returned (.bool true) ∧ Below w.heap.size w w' := by
  obtain ⟨k1, e1⟩ := buildE d s b v p t hd hs hb
  simp only at e1
  have bt1 := buildS_bt v p t (B_bt d) (B_bt s) (B_bt b)
  refine aqueductlaw06_EthLengths.calls (k1 + 40) d s v p t b true w ?_ rfl
  unfold aqueductlaw06_EthLengths.f
  rw [e1 _ (by omega)]
  simp only [Option.bind_some]
  by_cases ho : okB (B d) (B s) v p t (B b)
  rotate_left
  · have q1 : buildS (B d) (B s) v p t (B b) = ([], 61) := by unfold buildS; rw [if_neg ho]
    rw [q1, if_neg (by decide), if_pos (show (mk ([] : List Nat)).toList = [] from by rw [toList_eq]; rfl), fixed06 _ (by omega)]; rfl
  have q1 : buildS (B d) (B s) v p t (B b) = (B d ++ B s ++ headS v p t ++ B b, 0) := by unfold buildS; rw [if_pos ho]
  rw [q1] at bt1 ⊢
  have ld := B_length d
  have ls := B_length s
  have lb := B_length b
  have hl := headS_len v p t
  have o1 := ho.1
  have o2 := ho.2.1
  have o3 := ho.2.2.1
  have o9 := ho.2.2.2.2.2.2.2.2
  have e6 : (mk (B d ++ B s ++ headS v p t ++ B b)).extract 0 6 = d := by
    apply B_inj
    rw [B_extract, B_mk bt1, List.drop_zero, List.append_assoc, List.append_assoc, List.take_append_of_le_length (by omega), List.take_of_length_le (by omega)]
  have en : ∀ n : Nat, (B d ++ B s ++ headS v p t).length = n → (mk (B d ++ B s ++ headS v p t ++ B b)).extract n (mk (B d ++ B s ++ headS v p t ++ B b)).size = b := by
    intro n hn
    apply B_inj
    rw [B_extract, B_mk bt1, mk_size, List.take_length, ← hn, List.drop_left']
    rfl
  have long : ∀ x : ByteArray, 1518 < x.size → eth_Parse.f x = some (Fr.no 61).out := by
    intro x hx
    rw [parseE]
    unfold parseS
    rw [if_pos (by rw [B_length]; exact hx)]
  have sz : (mk (B d ++ B s ++ headS v p t ++ B b)).size = 12 + (headS v p t).length + b.size := by
    rw [mk_size]; simp only [List.length_append]; omega
  have all : (B d ++ B s ++ headS v p t).length = 12 + (headS v p t).length := by simp only [List.length_append]; omega
  have hy : ∀ n : Nat, (strOfNums (List.replicate n 0)).size = n := by
    intro n; rw [strOfNums_mk, mk_size]; simp
  generalize mk (B d ++ B s ++ headS v p t ++ B b) = T at *
  clear q1 bt1 e1 ho
  rw [if_pos rfl]
  have key : ∀ X : Option Bool, X = some true → (if (61 : Int) = 61 then (if (0 : Int) ≤ 6 then X else none) else some false) = some true := by
    intro X h
    rw [if_pos rfl, if_pos (by decide)]
    exact h
  by_cases hv : v = -1
  · rw [if_pos hv] at hl o9
    have sT : T.size = 14 + b.size := by omega
    have w1 : wrap64 (1519 - (T.size : Int)) = ((1519 - T.size : Nat) : Int) := by rw [wrap64_in (by omega) (by omega)]; omega
    rw [if_neg (show ¬ (T.size : Int) > 1518 by omega), if_neg (show ¬ v ≥ 0 by omega), w1, if_pos (Int.natCast_nonneg _), Int.toNat_natCast, if_pos (show 1519 - T.size ≤ 281474976710656 by omega)]
    clear w1
    rw [hy, if_pos (show T.size + (1519 - T.size) ≤ 9223372036854775807 by omega), long _ (by rw [ByteArray.size_append, hy]; omega)]
    rw [Option.bind_some]
    dsimp only [Fr.out, Fr.no]
    rw [wrap64_in (show (-9223372036854775808 : Int) ≤ 14 + (b.size : Int) by omega) (by omega), if_pos (show (T.size : Int) = 14 + (b.size : Int) by omega)]
    refine key _ ?_
    rw [if_pos (show (6 : Int) ≤ (T.size : Int) by omega), e6, if_pos rfl,
      if_pos (show (14 : Int) ≤ (T.size : Int) by omega), en 14 (by omega), if_pos rfl, fixed06 _ (by omega)]
    rfl
  · rw [if_neg hv] at hl o9
    have sT : T.size = 18 + b.size := by omega
    have w1 : wrap64 (1519 - (T.size : Int)) = ((1519 - T.size : Nat) : Int) := by rw [wrap64_in (by omega) (by omega)]; omega
    rw [if_neg (show ¬ (T.size : Int) > 1518 by omega), if_pos (show v ≥ 0 by omega), w1, if_pos (Int.natCast_nonneg _), Int.toNat_natCast, if_pos (show 1519 - T.size ≤ 281474976710656 by omega)]
    clear w1
    rw [hy, if_pos (show T.size + (1519 - T.size) ≤ 9223372036854775807 by omega), long _ (by rw [ByteArray.size_append, hy]; omega)]
    rw [Option.bind_some]
    dsimp only [Fr.out, Fr.no]
    rw [wrap64_in (show (-9223372036854775808 : Int) ≤ 18 + (b.size : Int) by omega) (by omega), if_pos (show (T.size : Int) = 18 + (b.size : Int) by omega)]
    refine key _ ?_
    rw [if_pos (show (6 : Int) ≤ (T.size : Int) by omega), e6, if_pos rfl,
      if_pos (show (18 : Int) ≤ (T.size : Int) by omega), en 18 (by omega), if_pos rfl, fixed06 _ (by omega)]
    rfl
end Go.Proofs.Ytbecpkkhpjigbaa.Hand
