/- The law WordsBack: its walk, and its plain law, joined: for every input it returns true and leaves old memory as it was. -/
import Derived.Test.YtamicgnpmhbdbaaWd
import Derived.Test.YtamicgnpmhbdbaaPx11
namespace Go.Proofs.Ytamicgnpmhbdbaa.Hand
open Go Go.RowKit Go.Proofs.Ytamicgnpmhbdbaa.P Go.Proofs.YtamicgnpmhbdbaaW.PrintWords Go.Proofs.YtamicgnpmhbdbaaW.PrintLast Go.Proofs.YtamicgnpmhbdbaaW.PrintMore Go.Proofs.Ytamicgnpmhbdbaa.Mth Go.Proofs.Ytamicgnpmhbdbaa.Wd
set_option linter.unusedVariables false
set_option linter.unusedSimpArgs false
theorem putS_ok {v m : Nat} {big : Bool} (h1 : 1 ≤ m) (h8 : m ≤ 8) (hv : v < 256 ^ m) : putS v (m : Int) big = ((if big then dig m v else (dig m v).reverse), 0) := by
  unfold putS; rw [if_pos ⟨by omega, by omega, by simpa using hv⟩]; rfl
theorem putS_no {v : Nat} {n : Int} {big : Bool} (h : ¬ (1 ≤ n ∧ n ≤ 8 ∧ v < 256 ^ n.toNat)) : putS v n big = ([], 1) := by
  unfold putS; rw [if_neg h]
theorem getS_ok {l : List Nat} {a m : Nat} {big : Bool} (h1 : 1 ≤ m) (h8 : m ≤ 8) (ha : a + m ≤ l.length) :
    getS l (a : Int) (m : Int) big = (val (if big then (l.drop a).take m else ((l.drop a).take m).reverse), 0) := by
  unfold getS
  rw [if_neg (by omega), if_neg (by omega)]
  simp
theorem WordsBack (s : ByteArray) (at' n v : Int) (big : Bool) (w : World) (hs : s.size ≤ 140737488351232) (w1 : (Lit.int .i64 at').wf = true) (w2 : (Lit.int .i64 n).wf = true) (w3 : (Lit.int .u64 v).wf = true) :
    Calls Try.prog 5 #[.agg #[.string s, .int .i64 at', .int .i64 n, .int .u64 v, .bool big]] w fun e w' => e = .returned (.bool true) ∧ Below w.heap.size w w' := by
  obtain ⟨h0, h1⟩ := u64_wf w3
  obtain ⟨v, rfl⟩ := Int.eq_ofNat_of_zero_le h0
  have hv : v < 18446744073709551616 := by omega
  have key : ∃ k, aqueductlaw01_WordsBack.f k s at' n (v : Int) big = some true := by
    clear w1 w2 w3 h0 h1
    obtain ⟨kf, ef⟩ := fixed01
    obtain ⟨k1, e1⟩ := put v hv n big
    obtain ⟨k2, e2⟩ := put v hv n (!big)
    simp only at e1 e2 ef
    by_cases hp : 1 ≤ n ∧ n ≤ 8 ∧ v < 256 ^ n.toNat
    · obtain ⟨m, rfl⟩ := Int.eq_ofNat_of_zero_le (show 0 ≤ n by omega)
      obtain ⟨hm1, hm8, hvm⟩ := hp
      rw [Int.toNat_natCast] at hvm
      have hm1 : 1 ≤ m := by omega
      have hm8 : m ≤ 8 := by omega
      obtain ⟨D, hD⟩ : ∃ D, D = (if big then dig m v else (dig m v).reverse) := ⟨_, rfl⟩
      have lD : D.length = m := by rw [hD]; cases big <;> simp [dig_length]
      have bD : Bt D := by
        rw [hD]; cases big
        · exact (dig_bt _ _).reverse
        · exact dig_bt _ _
      have vD : val (if big then D else D.reverse) = v := by rw [hD]; cases big <;> simp [val_dig_lt hvm]
      have rD : (if (!big) = true then dig m v else (dig m v).reverse) = D.reverse := by rw [hD]; cases big <;> simp
      rw [putS_ok hm1 hm8 hvm, ← hD] at e1
      rw [putS_ok hm1 hm8 hvm, rD] at e2
      simp only at e1 e2
      obtain ⟨k3, e3⟩ := turn (mk D) (by rw [mk_size]; omega)
      obtain ⟨k4, e4⟩ := get (mk D) (by rw [mk_size]; omega) 0 (m : Int) big
      rw [B_mk bD] at e3 e4
      have g0 := getS_ok (l := D) (a := 0) (m := m) (big := big) hm1 hm8 (by omega)
      simp only [List.drop_zero, Int.natCast_zero] at g0
      rw [List.take_of_length_le (by omega), vD] at g0
      rw [g0] at e4
      simp only at e3 e4
      have sD : ((mk D).size : Int) = (m : Int) := by rw [mk_size, lD]
      obtain ⟨k5, e5⟩ := set s (by omega) at' v hv (m : Int) big
      simp only at e5
      by_cases ha : at' < 0 ∨ at' > (s.size : Int) - (m : Int)
      · have s1 : setS (B s) at' v (m : Int) big = ([], 10) := by
          unfold setS
          rw [putS_ok hm1 hm8 hvm]
          simp only [if_true]
          rw [if_pos (by rw [B_length]; exact ha)]
        rw [s1] at e5
        simp only at e5
        refine ⟨k1 + k2 + k3 + k4 + k5 + kf + 2, ?_⟩
        unfold aqueductlaw01_WordsBack.f
        rw [e1 _ (by omega), e2 _ (by omega)]
        simp only [Option.bind_some, if_true]
        rw [e3 _ (by omega)]
        simp only [Option.bind_some, if_true, sD]
        rw [show (((m : Nat) : Int) != ((m : Nat) : Int)) = false from by simp]
        simp only [aqueductlaw01_WordsBack.j0]
        rw [if_neg (by decide), e4 _ (by omega)]
        simp only [Option.bind_some, if_true]
        rw [show ((v : Int) != (v : Int)) = false from by simp]
        simp only [aqueductlaw01_WordsBack.j1]
        rw [if_neg (by decide), e5 _ (by omega), ef _ (by omega)]
        have d10 : ¬ (10 : Int) = 0 := by decide
        have n0 : (mk []).toList = [] := by rw [toList_eq]; rfl
        simp only [Option.bind_some, if_neg d10, n0, if_true]
      · obtain ⟨a, rfl⟩ := Int.eq_ofNat_of_zero_le (show 0 ≤ at' by omega)
        have haL : a + m ≤ (B s).length := by rw [B_length]; omega
        have hal : a + m ≤ s.size := by omega
        have s1 : setS (B s) (a : Int) v (m : Int) big = ((B s).take a ++ D ++ (B s).drop (a + m), 0) := by
          unfold setS
          rw [putS_ok hm1 hm8 hvm, ← hD]
          simp only [if_true, Int.toNat_natCast]
          rw [if_neg (by rw [B_length]; exact ha), show ((a : Int) + (m : Int)).toNat = a + m from by omega]
        rw [s1] at e5
        simp only at e5
        obtain ⟨R, hR⟩ : ∃ R, R = (B s).take a ++ D ++ (B s).drop (a + m) := ⟨_, rfl⟩
        have lT : ((B s).take a).length = a := by rw [List.length_take]; omega
        have lR : R.length = s.size := by rw [hR, List.length_append, List.length_append, lT, lD, List.length_drop, B_length]; omega
        have bR : Bt R := by rw [hR]; exact (((B_bt s).take _).append bD).append ((B_bt s).drop _)
        rw [← hR] at e5
        have d1 : (R.drop a).take m = D := by
          rw [hR, List.append_assoc, List.drop_append_of_le_length (by omega), List.drop_of_length_le (by omega), List.nil_append, List.take_append_of_le_length (by omega), List.take_of_length_le (by omega)]
        have d2 : R.take a = (B s).take a := by
          rw [hR, List.append_assoc, List.take_append_of_le_length (by omega), List.take_of_length_le (by omega)]
        have d3 : R.drop (a + m) = (B s).drop (a + m) := by
          rw [hR, List.drop_append_of_le_length (by rw [List.length_append]; omega), List.drop_of_length_le (by rw [List.length_append]; omega), List.nil_append]
        obtain ⟨k6, e6⟩ := get (mk R) (by rw [mk_size]; omega) (a : Int) (m : Int) big
        rw [B_mk bR, getS_ok hm1 hm8 (by omega), d1, vD] at e6
        simp only at e6
        obtain ⟨k7, e7⟩ := turn s (by omega)
        obtain ⟨k8, e8⟩ := turn (mk (B s).reverse) (by rw [mk_size, List.length_reverse, B_length]; omega)
        rw [B_mk (B_bt s).reverse, List.reverse_reverse, mk_B] at e8
        simp only at e7 e8
        have sR : (mk R).size = s.size := by rw [mk_size, lR]
        have t1 : ((mk R).extract 0 a).toList = (s.extract 0 a).toList := by
          congr 1; apply B_inj
          rw [B_extract, B_extract, B_mk bR, d2]
        have t2 : ((mk R).extract (a + m) s.size).toList = (s.extract (a + m) s.size).toList := by
          congr 1; apply B_inj
          rw [B_extract, B_extract, B_mk bR, List.take_of_length_le (by omega), List.take_of_length_le (by rw [B_length]; omega), d3]
        have q1 : ¬ ((a : Int) < 0) := by omega
        have q2 : ¬ ((a : Int) > (s.size : Int) - (m : Int)) := by omega
        have q3 : (0 : Int) ≤ (a : Int) := by omega
        have q4 : (a : Int) ≤ (s.size : Int) := by omega
        have q5 : (0 : Int) ≤ (a : Int) + (m : Int) := by omega
        have q6 : (a : Int) + (m : Int) ≤ (s.size : Int) := by omega
        have q7 : ((a : Int) + (m : Int)).toNat = a + m := by omega
        refine ⟨k1 + k2 + k3 + k4 + k5 + k6 + k7 + k8 + kf + 3, ?_⟩
        unfold aqueductlaw01_WordsBack.f
        rw [e1 _ (by omega), e2 _ (by omega)]
        simp only [Option.bind_some, if_true]
        rw [e3 _ (by omega)]
        simp only [Option.bind_some, if_true, sD]
        rw [show (((m : Nat) : Int) != ((m : Nat) : Int)) = false from by simp]
        simp only [aqueductlaw01_WordsBack.j0]
        rw [if_neg (by decide), e4 _ (by omega)]
        simp only [Option.bind_some, if_true]
        rw [show ((v : Int) != (v : Int)) = false from by simp]
        simp only [aqueductlaw01_WordsBack.j1]
        rw [if_neg (by decide), e5 _ (by omega)]
        simp only [Option.bind_some, if_true, sR]
        rw [w64 ((s.size : Int) - (m : Int)) _ rfl (by omega) (by omega), w64 ((a : Int) + (m : Int)) _ rfl (by omega) (by omega)]
        simp only [if_neg q1, if_neg q2, q3, q4, q5, q6, q7, Int.toNat_natCast, t1, t2, if_true]
        rw [show ∀ x : List UInt8, (x != x) = false from fun x => by simp]
        simp only [aqueductlaw01_WordsBack.j2]
        rw [if_neg (by decide), e6 _ (by omega)]
        simp only [Option.bind_some, if_true]
        rw [e7 _ (by omega)]
        simp only [Option.bind_some]
        rw [e8 _ (by omega), ef _ (by omega)]
        simp
    · rw [putS_no hp] at e1
      rw [putS_no hp] at e2
      simp only at e1 e2
      refine ⟨k1 + k2 + kf + 1, ?_⟩
      unfold aqueductlaw01_WordsBack.f
      rw [e1 _ (by omega), e2 _ (by omega)]
      have d1 : ¬ (1 : Int) = 0 := by decide
      simp only [Option.bind_some, if_true, if_neg d1, aqueductlaw01_WordsBack.j0]
      rw [if_neg (by decide), ef _ (by omega)]
      rfl
  obtain ⟨k, hk⟩ := key
  exact aqueductlaw01_WordsBack.calls k s at' n v big true w hk rfl
end Go.Proofs.Ytamicgnpmhbdbaa.Hand
