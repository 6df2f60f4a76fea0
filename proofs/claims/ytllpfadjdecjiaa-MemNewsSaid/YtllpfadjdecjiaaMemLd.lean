/- A memory: its functions' contracts, by hand, and the laws over them. -/
import Derived.Test.YtllpfadjdecjiaaMemS
import Derived.Test.YtllpfadjdecjiaaPx4
import Derived.Test.YtllpfadjdecjiaaWd
import Derived.Laws.Pointers
import Derived.WalkLawsBesides
import Derived.Deep.QuietTactic
import Derived.BigQuiet
import Derived.Deep.RegionWith
import Derived.Deep.RegionLaw
import Derived.Lib.BufferWrite
namespace Go.Proofs.Ytllpfadjdecjiaa.Mem
open Go Go.RowKit Go.Proofs.YtllpfadjdecjiaaW.PrintWords Go.Proofs.YtllpfadjdecjiaaW.PrintLast Go.Proofs.YtllpfadjdecjiaaW.PrintMore Go.Proofs.Ytllpfadjdecjiaa.Own Go.Proofs.Ytllpfadjdecjiaa.P Go.Proofs.Ytllpfadjdecjiaa
set_option linter.unusedVariables false
set_option linter.unusedSimpArgs false
def sizedP (n : Int) : Prop := n = 1 ∨ n = 2 ∨ n = 4 ∨ n = 8
theorem sized_f (n : Int) (b : Bool) (h : b = true ↔ sizedP n) : gmem_sized.f n = some b := by
  unfold gmem_sized.f sizedP at *
  by_cases h1 : n = 1
  · rw [if_pos h1, h.2 (.inl h1)]
  rw [if_neg h1]
  by_cases h2 : n = 2
  · rw [if_pos h2, h.2 (.inr (.inl h2))]
  rw [if_neg h2]
  by_cases h4 : n = 4
  · rw [if_pos h4, h.2 (.inr (.inr (.inl h4)))]
  rw [if_neg h4]
  congr 1
  by_cases h8 : n = 8
  · rw [h.2 (.inr (.inr (.inr h8))), h8]; rfl
  · have : b ≠ true := fun e => by have := h.1 e; omega
    rw [Bool.eq_false_iff.mpr this]
    simpa using h8
theorem drawn_below {w w' : World} (h : Drawn0 w w') : Below w.heap.size w w' := by
  obtain ⟨n, rfl⟩ := h.out
  exact pw_below_drewN (Below.refl _ _) n
/-- The n lowest bytes of a number, the lowest first. -/
def le (n v : Nat) : ByteArray := Mth.mk (Mth.dig n v).reverse
theorem le_size (n v : Nat) : (le n v).size = n := by unfold le; rw [Mth.mk_size, List.length_reverse, Mth.dig_length]
section
variable {w0 w : World} {g : Nat} {s : ByteArray} {who : Int} {log : List S49}
set_option maxHeartbeats 4000000 in
set_option maxRecDepth 100000 in
theorem store (a n v : Nat) (hn : sizedP n) (hv : v < 256 ^ n) (han : a + n ≤ s.size) (hl : log.length ≤ 4000) (h : Mem w0 w g s who log) :
    Calls Try.prog 19 #[ptr g, .int .i64 (a : Int), .int .i64 (n : Int), .int .u64 (v : Int)] w fun e w' => e = .returned (.int .i64 0) ∧ Mem w0 w' g (over s (le n v) a) who (noted log who a n true) := by
  have n8 : 1 ≤ n ∧ n ≤ 8 := by unfold sizedP at hn; omega
  have hv64 : v < 18446744073709551616 := Nat.lt_of_lt_of_le hv (Nat.le_trans (Nat.pow_le_pow_right (by decide) n8.2) (by decide))
  have C1 := Aside0.mk fun W => gmem_sized.calls (n : Int) true W (sized_f n true (by simp [hn]))
  obtain ⟨k, hk⟩ := Wd.put v hv64 (n : Int) false
  have hk := hk k (Nat.le_refl _)
  unfold Wd.putS at hk
  rw [if_pos ⟨by omega, by omega, by rw [Int.toNat_natCast]; exact hv⟩, Int.toNat_natCast] at hk
  have C2 := Aside0.mk fun W => words_Put.calls k (v : Int) n false (le n v) 0 W hk
  have H := Aside0.mk h
  clear h hk
  have b1 : ((0 : Int) != 0) = false := rfl
  go_enter Try.func19, Try.ntmps19
  go_wp2_with fail
  refine (C1.out w).mono ?_
  rintro e w1 ⟨rfl, d1⟩
  have H1 := Aside0.mk (H.out.beside (drawn_below d1))
  clear d1
  go_wp2_with fail
  refine (C2.out w1).mono ?_
  rintro e w2 ⟨rfl, d2⟩
  have H2 := Aside0.mk (H1.out.beside d2)
  clear d2
  go_wp2_with fail
  refine (write (le n v) a (by rw [le_size]; exact han) hl H2.out).mono ?_
  rintro e w3 ⟨rfl, h3⟩
  rw [le_size] at h3
  have H3 := Aside0.mk h3
  clear h3
  go_wp2
  go_ret
  exact ⟨rfl, H3.out⟩
set_option maxHeartbeats 4000000 in
set_option maxRecDepth 100000 in
theorem store_at (a : Int) (n v : Nat) (hn : sizedP n) (hv : v < 256 ^ n) (han : ¬ (0 ≤ a ∧ a + n ≤ (s.size : Int))) (h : Mem w0 w g s who log) :
    Calls Try.prog 19 #[ptr g, .int .i64 a, .int .i64 (n : Int), .int .u64 (v : Int)] w fun e w' => e = .returned (.int .i64 41) ∧ Mem w0 w' g s who log := by
  have n8 : 1 ≤ n ∧ n ≤ 8 := by unfold sizedP at hn; omega
  have hv64 : v < 18446744073709551616 := Nat.lt_of_lt_of_le hv (Nat.le_trans (Nat.pow_le_pow_right (by decide) n8.2) (by decide))
  have C1 := Aside0.mk fun W => gmem_sized.calls (n : Int) true W (sized_f n true (by simp [hn]))
  obtain ⟨k, hk⟩ := Wd.put v hv64 (n : Int) false
  have hk := hk k (Nat.le_refl _)
  unfold Wd.putS at hk
  rw [if_pos ⟨by omega, by omega, by rw [Int.toNat_natCast]; exact hv⟩, Int.toNat_natCast] at hk
  have C2 := Aside0.mk fun W => words_Put.calls k (v : Int) n false (le n v) 0 W hk
  have H := Aside0.mk h
  clear h hk
  have b1 : ((0 : Int) != 0) = false := rfl
  go_enter Try.func19, Try.ntmps19
  go_wp2_with fail
  refine (C1.out w).mono ?_
  rintro e w1 ⟨rfl, d1⟩
  have H1 := Aside0.mk (H.out.beside (drawn_below d1))
  clear d1
  go_wp2_with fail
  refine (C2.out w1).mono ?_
  rintro e w2 ⟨rfl, d2⟩
  have H2 := Aside0.mk (H1.out.beside d2)
  clear d2
  go_wp2_with fail
  refine (write_no (le n v) a (by rw [le_size]; exact han) H2.out).mono ?_
  rintro e w3 ⟨rfl, rfl⟩
  go_wp2
  go_ret
  exact ⟨rfl, H2.out⟩
set_option maxHeartbeats 4000000 in
set_option maxRecDepth 100000 in
theorem store_arg (a n : Int) (v : Nat) (hv64 : v < 18446744073709551616) (hn : ¬ (sizedP n ∧ v < 256 ^ n.toNat)) (h : Mem w0 w g s who log) :
    Calls Try.prog 19 #[ptr g, .int .i64 a, .int .i64 n, .int .u64 (v : Int)] w fun e w' => e = .returned (.int .i64 1) ∧ Mem w0 w' g s who log := by
  by_cases hs : sizedP n
  · have n8 : 1 ≤ n ∧ n ≤ 8 := by unfold sizedP at hs; omega
    have C1 := Aside0.mk fun W => gmem_sized.calls n true W (sized_f n true (by simp [hs]))
    obtain ⟨k, hk⟩ := Wd.put v hv64 n false
    have hk := hk k (Nat.le_refl _)
    unfold Wd.putS at hk
    rw [if_neg (fun q => hn ⟨hs, q.2.2⟩)] at hk
    have C2 := Aside0.mk fun W => words_Put.calls k (v : Int) n false _ 1 W hk
    have H := Aside0.mk h
    clear h hk
    have b1 : ((1 : Int) != 0) = true := rfl
    go_enter Try.func19, Try.ntmps19
    go_wp2_with fail
    refine (C1.out w).mono ?_
    rintro e w1 ⟨rfl, d1⟩
    have H1 := Aside0.mk (H.out.beside (drawn_below d1))
    clear d1
    go_wp2_with fail
    refine (C2.out w1).mono ?_
    rintro e w2 ⟨rfl, d2⟩
    have H2 := Aside0.mk (H1.out.beside d2)
    clear d2
    go_wp2
    go_ret
    exact ⟨rfl, H2.out⟩
  · have C1 := Aside0.mk fun W => gmem_sized.calls n false W (sized_f n false (by simp [hs]))
    have H := Aside0.mk h
    clear h
    go_enter Try.func19, Try.ntmps19
    go_wp2_with fail
    refine (C1.out w).mono ?_
    rintro e w1 ⟨rfl, d1⟩
    have H1 := Aside0.mk (H.out.beside (drawn_below d1))
    clear d1
    go_wp2
    go_ret
    exact ⟨rfl, H1.out⟩
set_option maxHeartbeats 4000000 in
set_option maxRecDepth 100000 in
theorem load (a n : Nat) (hn : sizedP n) (han : a + n ≤ s.size) (hl : log.length ≤ 4000) (h : Mem w0 w g s who log) :
    Calls Try.prog 12 #[ptr g, .int .i64 (a : Int), .int .i64 (n : Int)] w fun e w' => e = .returned (.tuple #[.int .u64 (Mth.val (Mth.B (s.extract a (a + n))).reverse : Nat), .int .i64 0]) ∧ Mem w0 w' g s who (noted log who a n false) := by
  have n8 : 1 ≤ n ∧ n ≤ 8 := by unfold sizedP at hn; omega
  have C1 := Aside0.mk fun W => gmem_sized.calls (n : Int) true W (sized_f n true (by simp [hn]))
  have hsz : (s.extract a (a + n)).size = n := by rw [ByteArray.size_extract]; omega
  obtain ⟨k, hk⟩ := Wd.get (s.extract a (a + n)) (by omega) 0 (n : Int) false
  have hk := hk k (Nat.le_refl _)
  unfold Wd.getS at hk
  rw [if_neg (by omega), if_neg (by rw [Mth.B_length, hsz]; omega), Int.toNat_natCast] at hk
  have et : ((Mth.B (s.extract a (a + n))).drop (0 : Int).toNat).take n = Mth.B (s.extract a (a + n)) := by
    rw [show (0 : Int).toNat = 0 from rfl, List.drop_zero, List.take_of_length_le (by rw [Mth.B_length, hsz]; exact Nat.le_refl _)]
  simp only [Bool.false_eq_true, if_false] at hk
  rw [et] at hk
  have C2 := Aside0.mk fun W => words_Get.calls k (s.extract a (a + n)) 0 n false _ 0 W hk
  have H := Aside0.mk h
  clear h hk et
  have b1 : ((0 : Int) != 0) = false := rfl
  go_enter Try.func12, Try.ntmps12
  go_wp2_with fail
  refine (C1.out w).mono ?_
  rintro e w1 ⟨rfl, d1⟩
  have H1 := Aside0.mk (H.out.beside (drawn_below d1))
  clear d1
  go_wp2_with fail
  refine (read a n han hl H1.out).mono ?_
  rintro e w2 ⟨rfl, h2⟩
  have H2 := Aside0.mk h2
  clear h2
  go_wp2_with fail
  refine (C2.out w2).mono ?_
  rintro e w3 ⟨rfl, d3⟩
  have H3 := Aside0.mk (H2.out.beside d3)
  clear d3
  go_wp2
  go_ret2
  exact ⟨rfl, H3.out⟩
set_option maxHeartbeats 4000000 in
set_option maxRecDepth 100000 in
theorem load_arg (a n : Int) (hn : ¬ sizedP n) (h : Mem w0 w g s who log) :
    Calls Try.prog 12 #[ptr g, .int .i64 a, .int .i64 n] w fun e w' => e = .returned (.tuple #[.int .u64 0, .int .i64 1]) ∧ Mem w0 w' g s who log := by
  have C1 := Aside0.mk fun W => gmem_sized.calls n false W (sized_f n false (by simp [hn]))
  have H := Aside0.mk h
  clear h
  go_enter Try.func12, Try.ntmps12
  go_wp2_with fail
  refine (C1.out w).mono ?_
  rintro e w1 ⟨rfl, d1⟩
  have H1 := Aside0.mk (H.out.beside (drawn_below d1))
  clear d1
  go_wp2
  go_ret2
  exact ⟨rfl, H1.out⟩
set_option maxHeartbeats 4000000 in
set_option maxRecDepth 100000 in
theorem load_at (a n : Int) (hn : sizedP n) (han : ¬ (0 ≤ a ∧ a + n ≤ (s.size : Int))) (h : Mem w0 w g s who log) :
    Calls Try.prog 12 #[ptr g, .int .i64 a, .int .i64 n] w fun e w' => e = .returned (.tuple #[.int .u64 0, .int .i64 41]) ∧ Mem w0 w' g s who log := by
  have C1 := Aside0.mk fun W => gmem_sized.calls n true W (sized_f n true (by simp [hn]))
  have H := Aside0.mk h
  clear h
  have n0 : 0 ≤ n := by unfold sizedP at hn; omega
  have b1 : ((41 : Int) != 0) = true := rfl
  go_enter Try.func12, Try.ntmps12
  go_wp2_with fail
  refine (C1.out w).mono ?_
  rintro e w1 ⟨rfl, d1⟩
  have H1 := Aside0.mk (H.out.beside (drawn_below d1))
  clear d1
  go_wp2_with fail
  refine (read_no a n n0 han H1.out).mono ?_
  rintro e w2 ⟨rfl, rfl⟩
  go_wp2
  go_ret2
  exact ⟨rfl, H1.out⟩
end
end Go.Proofs.Ytllpfadjdecjiaa.Mem
