/- The law WordsApart: its walk, and its plain law, joined: for every input it returns true and leaves old memory as it was. -/
import Derived.Test.YtamicgnpmhbdbaaWd
import Derived.Test.YtamicgnpmhbdbaaPx13
namespace Go.Proofs.Ytamicgnpmhbdbaa.Hand
open Go Go.RowKit Go.Proofs.Ytamicgnpmhbdbaa.P Go.Proofs.YtamicgnpmhbdbaaW.PrintWords Go.Proofs.YtamicgnpmhbdbaaW.PrintLast Go.Proofs.YtamicgnpmhbdbaaW.PrintMore Go.Proofs.Ytamicgnpmhbdbaa.Mth Go.Proofs.Ytamicgnpmhbdbaa.Wd
set_option linter.unusedVariables false
set_option linter.unusedSimpArgs false
theorem setS_ok {l : List Nat} {a v m : Nat} {big : Bool} (h1 : 1 ≤ m) (h8 : m ≤ 8) (hv : v < 256 ^ m) (ha : a + m ≤ l.length) :
    setS l (a : Int) v (m : Int) big = (l.take a ++ (if big then dig m v else (dig m v).reverse) ++ l.drop (a + m), 0) := by
  have p : putS v (m : Int) big = ((if big then dig m v else (dig m v).reverse), 0) := by
    unfold putS; rw [if_pos ⟨by omega, by omega, by simpa using hv⟩]; rfl
  unfold setS
  rw [p]
  simp only [if_true, Int.toNat_natCast]
  rw [if_neg (by omega), show ((a : Int) + (m : Int)).toNat = a + m from by omega]
theorem WordsApart_pure : aqueductlaw01_WordsApart.Pure := by
  intro s v big hs w1
  obtain ⟨h0, h1⟩ := u64_wf w1
  obtain ⟨v, rfl⟩ := Int.eq_ofNat_of_zero_le h0
  have hv : v < 18446744073709551616 := by omega
  clear w1 h0 h1
  obtain ⟨z, hz⟩ : ∃ z : ByteArray, z = strOfNums (List.replicate 16 0) := ⟨_, rfl⟩
  have hzB : B z = List.replicate 16 0 := by
    rw [hz, strOfNums_mk, List.map_replicate]
    exact B_mk (fun x hx => by have := List.eq_of_mem_replicate hx; subst this; decide)
  have hzs : z.size = 16 := by rw [← B_length, hzB]; simp
  unfold aqueductlaw01_WordsApart.f
  simp only [Option.bind_some, ← hz]
  clear hz
  have a16 : Go.bits .and .u64 (v : Int) 65535 = ((v % 65536 : Nat) : Int) := and_u64 v hv 16 (by decide)
  have a8 : Go.bits .and .u64 (v : Int) 255 = ((v % 256 : Nat) : Int) := and_u64 v hv 8 (by decide)
  simp only [a16, a8]
  obtain ⟨t, ht⟩ : ∃ t : ByteArray, t = s ++ z := ⟨_, rfl⟩
  have hts : t.size = s.size + 16 := by rw [ht, ByteArray.size_append, hzs]
  have htl : (B t).length = s.size + 16 := by rw [B_length, hts]
  have h16 : 16 ≤ 281474976710656 := by decide
  have h17 : s.size + z.size ≤ 9223372036854775807 := by omega
  simp only [if_pos h16, if_pos h17, ← ht]
  clear ht hzB
  have c1 := setS_ok (l := B t) (a := 0) (v := v % 65536) (m := 2) (big := big) (by omega) (by omega) (by omega) (by omega)
  have c3 := setS_ok (l := B t) (a := 2) (v := v % 256) (m := 1) (big := big) (by omega) (by omega) (by omega) (by omega)
  have ln : ∀ m x : Nat, (if big then dig m x else (dig m x).reverse).length = m := by intro m x; cases big <;> simp [dig_length]
  have nb : ∀ m x : Nat, Bt (if big then dig m x else (dig m x).reverse) := by
    intro m x; cases big
    · exact (dig_bt _ _).reverse
    · exact dig_bt _ _
  generalize hP : (if big then dig 2 (v % 65536) else (dig 2 (v % 65536)).reverse) = P at *
  generalize hQ : (if big then dig 1 (v % 256) else (dig 1 (v % 256)).reverse) = Q at *
  have lP : P.length = 2 := by rw [← hP]; exact ln _ _
  have lQ : Q.length = 1 := by rw [← hQ]; exact ln _ _
  have bP : Bt P := by rw [← hP]; exact nb _ _
  have bQ : Bt Q := by rw [← hQ]; exact nb _ _
  simp only [List.take_zero, List.nil_append, Nat.zero_add] at c1
  have ba : Bt (P ++ (B t).drop 2) := bP.append ((B_bt t).drop 2)
  have bc : Bt ((B t).take 2 ++ Q ++ (B t).drop 3) := (((B_bt t).take 2).append bQ).append ((B_bt t).drop 3)
  have c2 := setS_ok (l := P ++ (B t).drop 2) (a := 2) (v := v % 256) (m := 1) (big := big) (by omega) (by omega) (by omega) (by rw [List.length_append, List.length_drop]; omega)
  have c4 := setS_ok (l := (B t).take 2 ++ Q ++ (B t).drop 3) (a := 0) (v := v % 65536) (m := 2) (big := big) (by omega) (by omega) (by omega) (by rw [List.length_append, List.length_append, List.length_take, List.length_drop]; omega)
  rw [hQ] at c2
  rw [hP] at c4
  have e2 : (P ++ (B t).drop 2).take 2 ++ Q ++ (P ++ (B t).drop 2).drop 3 = P ++ Q ++ (B t).drop 3 := by
    rw [List.take_append_of_le_length (by omega), List.take_of_length_le (by omega), List.drop_append, lP, List.drop_of_length_le (by omega), List.nil_append, List.drop_drop]
  have e4 : ((B t).take 2 ++ Q ++ (B t).drop 3).drop 2 = Q ++ (B t).drop 3 := by
    rw [List.append_assoc, List.drop_append_of_le_length (by rw [List.length_take]; omega), List.drop_of_length_le (by rw [List.length_take]; omega), List.nil_append]
  rw [show (2 : Nat) + 1 = 3 from rfl] at c2
  rw [e2] at c2
  simp only [List.take_zero, List.nil_append, Nat.zero_add] at c4
  rw [e4] at c4
  obtain ⟨k1, e1⟩ := set t (by omega) 0 (v % 65536) (by omega) 2 big
  obtain ⟨k2, e2'⟩ := set (mk (P ++ (B t).drop 2)) (by rw [mk_size, List.length_append, List.length_drop]; omega) 2 (v % 256) (by omega) 1 big
  obtain ⟨k3, e3⟩ := set t (by omega) 2 (v % 256) (by omega) 1 big
  obtain ⟨k4, e4'⟩ := set (mk ((B t).take 2 ++ Q ++ (B t).drop 3)) (by rw [mk_size, List.length_append, List.length_append, List.length_take, List.length_drop]; omega) 0 (v % 65536) (by omega) 2 big
  obtain ⟨k5, e5⟩ := fixed01
  have e1 := e1 (k1 + k2 + k3 + k4 + k5) (by omega)
  have e2' := e2' (k1 + k2 + k3 + k4 + k5) (by omega)
  have e3 := e3 (k1 + k2 + k3 + k4 + k5) (by omega)
  have e4' := e4' (k1 + k2 + k3 + k4 + k5) (by omega)
  have e5 := e5 (k1 + k2 + k3 + k4 + k5) (by omega)
  refine ⟨k1 + k2 + k3 + k4 + k5, ?_⟩
  simp only at e1 e2' e3 e4' e5
  rw [B_mk ba] at e2'
  rw [B_mk bc] at e4'
  have z0 : ((0 : Nat) : Int) = 0 := rfl
  have z1 : ((1 : Nat) : Int) = 1 := rfl
  have z2 : ((2 : Nat) : Int) = 2 := rfl
  rw [z0, z2] at c1
  rw [z2, z1] at c2
  rw [z2, z1] at c3
  rw [z0, z2] at c4
  rw [c1] at e1
  rw [c2] at e2'
  rw [show (2 : Nat) + 1 = 3 from rfl] at c3
  rw [c3] at e3
  rw [c4] at e4'
  simp only at e1 e2' e3 e4'
  have q1 : ((mk (P ++ Q ++ (B t).drop 3)).size : Int) = (t.size : Int) := by
    rw [mk_size, List.length_append, List.length_append, List.length_drop]; omega
  simp only [List.append_assoc] at e1 e2' e3 e4' q1
  simp only [e1, e2', e3, e4', e5, Option.bind_some, if_true, q1]
theorem WordsApart (a0 : ByteArray) (a1 : Int) (a2 : Bool) (w : World) (w0 : a0.size ≤ 140737488351232) (w1 : (Lit.int .u64 a1).wf = true) :
    Calls Try.prog 8 #[.string a0, .int .u64 a1, .bool a2] w fun e w' => e = .returned (.bool true) ∧ Below w.heap.size w w' := aqueductlaw01_WordsApart.walk WordsApart_pure a0 a1 a2 w w0 w1
end Go.Proofs.Ytamicgnpmhbdbaa.Hand
