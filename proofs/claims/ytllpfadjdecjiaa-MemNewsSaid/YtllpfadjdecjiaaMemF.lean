/- A memory: its functions' contracts, by hand, and the laws over them. -/
import Derived.Test.YtllpfadjdecjiaaMemLd
import Derived.Laws.Pointers
import Derived.WalkLawsBesides
import Derived.Deep.QuietTactic
import Derived.BigQuiet
import Derived.Deep.RegionWith
import Derived.Deep.RegionLaw
import Derived.Lib.BufferWrite
namespace Go.Proofs.Ytllpfadjdecjiaa.Mem
open Go Go.RowKit Go.Proofs.YtllpfadjdecjiaaW.PrintWords Go.Proofs.YtllpfadjdecjiaaW.PrintLast Go.Proofs.YtllpfadjdecjiaaW.PrintMore Go.Proofs.Ytllpfadjdecjiaa.Own Go.Proofs.Ytllpfadjdecjiaa.P Go.Proofs.Ytllpfadjdecjiaa
set_option linter.unusedVariables false
set_option linter.unusedSimpArgs false
theorem C_of_own {w : World} {base n c : Nat} {A : Option Addr} {l : List S49} (hn : l.length = n) (h : w.ownsRow base 49 4 (.slice A n c) n (rowA l)) : Kd.C k49 w A n l := by
  subst hn
  obtain ⟨A', c', e, -, hr⟩ := reads h
  simp only [Value.slice.injEq, true_and] at e
  obtain ⟨rfl, rfl⟩ := e
  exact hr
theorem two_noted (a n b m : Int) (w w' : Bool) (hn : n ≠ 0) (hm : m ≠ 0) (who : Int) : noted (noted [] who a n w) who b m w' = [⟨who, a, n, w⟩, ⟨who, b, m, w'⟩] := by
  unfold noted
  rw [if_neg hn, if_neg hm]
  rfl
set_option maxHeartbeats 8000000 in
set_option maxRecDepth 100000 in
theorem fixed (w : World) : Calls Try.prog 13 #[] w fun e w' => e = .returned (.bool true) ∧ Below w.heap.size w w' := by
  go_enter Try.func13, Try.ntmps13
  go_wp2_with fail
  refine (new (w0 := w) 64 (Below.refl _ _) (by decide) (by decide)).mono ?_
  rintro e w1 ⟨g, rfl, h1⟩
  have L1 := Aside0.mk h1
  clear h1
  go_wp2_with fail
  refine (New_no 63 w1 (.inl (by decide))).mono ?_
  rintro e w2 ⟨rfl, rfl⟩
  go_wp2_with fail
  refine (store (s := zeros 64) 0 2 4660 (by unfold sizedP; omega) (by decide) (by rw [zeros_size]; decide) (by decide) L1.out).mono ?_
  rintro e w3 ⟨rfl, h3⟩
  have L3 := Aside0.mk h3
  clear h3 L1
  have hsz : (over (zeros 64) (le 2 4660) 0).size = 64 := by rw [over_size _ _ _ (by rw [zeros_size, le_size]; decide), zeros_size]
  have HSZ := Aside0.mk hsz
  clear hsz
  go_wp2_with fail
  refine (read 0 2 (by rw [HSZ.out]; decide) (by decide) L3.out).mono ?_
  rintro e w4 ⟨rfl, h4⟩
  have ht : ((over (zeros 64) (le 2 4660) 0).extract 0 (0 + 2)).toList = [52, 18] := by rw [ByteArray.toList_eq]; decide +kernel
  obtain ⟨t, et⟩ : ∃ t, (over (zeros 64) (le 2 4660) 0).extract 0 (0 + 2) = t := ⟨_, rfl⟩
  rw [et] at ht ⊢
  rw [two_noted _ _ _ _ _ _ (by decide) (by decide)] at h4
  have L4 := Aside0.mk h4
  have HT := Aside0.mk ht
  clear h4 L3 ht et
  go_wp2_with fail
  refine (load_at 63 2 (by unfold sizedP; omega) (by rw [HSZ.out]; decide) L4.out).mono ?_
  rintro e w5 ⟨rfl, h5⟩
  have L5 := Aside0.mk h5
  clear h5 L4
  go_wp2_with fail
  refine (load_arg 0 3 (by unfold sizedP; omega) L5.out).mono ?_
  rintro e w6 ⟨rfl, h6⟩
  have L6 := Aside0.mk h6
  clear h6 L5
  go_wp2_with fail
  refine (store_arg 0 1 256 (by decide) (by rintro ⟨-, q⟩; exact absurd q (by decide)) L6.out).mono ?_
  rintro e w7 ⟨rfl, h7⟩
  have L7 := Aside0.mk h7
  clear h7 L6
  go_wp2_with fail
  refine (Read_neg g 0 (-1) w7 (by decide)).mono ?_
  rintro e w8 ⟨rfl, rfl⟩
  go_wp2_with fail
  refine (log_ (by decide) L7.out).mono ?_
  rintro e w9 ⟨A, c, rfl, hc, ho, h9⟩
  have L9 := Aside0.mk h9
  have O9 := Aside0.mk ho
  have HC := Aside0.mk hc
  clear ho h9 hc L7
  go_wp2_with fail
  · have q := World.ownsRow_lit (base := 0) (e := 49) (size := 4) w9 #[.int .i64 0, .int .i64 0, .int .i64 2, .bool true, .int .i64 0, .int .i64 0, .int .i64 2, .bool false] 2 (Nat.zero_le _) (by decide) (by decide)
    refine (Same_ok [⟨0, 0, 2, true⟩, ⟨0, 0, 2, false⟩] 2 rfl A _ c 2 _ (by decide) (C_of_own rfl (World.ownsRow.alloc O9.out _)) HC.out (C_of_own rfl q) (by decide)).mono ?_
    rintro e w10 ⟨rfl, m, rfl⟩
    have L10 := Aside0.mk ((L9.out.beside (below_alloc (Below.refl _ _) (.cells #[.int .i64 0, .int .i64 0, .int .i64 2, .bool true, .int .i64 0, .int .i64 0, .int .i64 2, .bool false] 49))).beside (pw_below_drewN (Below.refl _ _) m))
    clear q L9
    go_wp2_with fail
    refine (log_ (by decide) L10.out).mono ?_
    rintro e w11 ⟨A2, c2, rfl, -, -, h11⟩
    have L11 := Aside0.mk h11
    clear h11 L10
    go_wp2_with fail
    refine (may_yes 64 0 (by decide) (by decide) (by rw [HSZ.out]; decide) L11.out).mono ?_
    rintro e w12 ⟨rfl, rfl⟩
    go_wp2_with fail
    refine (may_no 64 1 (by rw [HSZ.out]; decide) L11.out).mono ?_
    rintro e w12 ⟨rfl, rfl⟩
    go_wp2_with fail
    refine (size_ L11.out).mono ?_
    rintro e w12 ⟨rfl, rfl⟩
    rw [HSZ.out]
    go_wp2_with fail
    go_ret
    exact ⟨rfl, L11.out.bel⟩
  all_goals exact absurd HT.out ‹_›
/-- A memory whose log nobody asks for. -/
def MemL (w0 w : World) (g : Nat) (s : ByteArray) (m : Nat) : Prop := ∃ who log, log.length ≤ m ∧ Mem w0 w g s who log
theorem MemL.bel {w0 w : World} {g : Nat} {s : ByteArray} {m : Nat} (h : MemL w0 w g s m) : Below w0.heap.size w0 w := h.elim fun _ h => h.elim fun _ h => h.2.bel
section
variable {w0 w : World} {g : Nat} {s : ByteArray} {m : Nat}
theorem readL (a n : Nat) (han : a + n ≤ s.size) (hm : m ≤ 3000) (h : MemL w0 w g s m) :
    Calls Try.prog 11 #[ptr g, .int .i64 (a : Int), .int .i64 (n : Int)] w fun e w' => e = .returned (.tuple #[.string (s.extract a (a + n)), .int .i64 0]) ∧ MemL w0 w' g s (m + 1) := by
  obtain ⟨who, log, hl, h⟩ := h
  refine (read a n han (by omega) h).mono ?_
  rintro e w' ⟨rfl, h1⟩
  exact ⟨rfl, who, _, Nat.le_trans (noted_len _ _ _ _ _) (by omega), h1⟩
theorem writeL (t : ByteArray) (a : Nat) (han : a + t.size ≤ s.size) (hm : m ≤ 3000) (h : MemL w0 w g s m) :
    Calls Try.prog 10 #[ptr g, .int .i64 (a : Int), .string t] w fun e w' => e = .returned (.int .i64 0) ∧ MemL w0 w' g (over s t a) (m + 1) := by
  obtain ⟨who, log, hl, h⟩ := h
  refine (write t a han (by omega) h).mono ?_
  rintro e w' ⟨rfl, h1⟩
  exact ⟨rfl, who, _, Nat.le_trans (noted_len _ _ _ _ _) (by omega), h1⟩
theorem loadL (a n : Nat) (hn : sizedP n) (han : a + n ≤ s.size) (hm : m ≤ 3000) (h : MemL w0 w g s m) :
    Calls Try.prog 12 #[ptr g, .int .i64 (a : Int), .int .i64 (n : Int)] w fun e w' => e = .returned (.tuple #[.int .u64 (Mth.val (Mth.B (s.extract a (a + n))).reverse : Nat), .int .i64 0]) ∧ MemL w0 w' g s (m + 1) := by
  obtain ⟨who, log, hl, h⟩ := h
  refine (load a n hn han (by omega) h).mono ?_
  rintro e w' ⟨rfl, h1⟩
  exact ⟨rfl, who, _, Nat.le_trans (noted_len _ _ _ _ _) (by omega), h1⟩
theorem Mem.hide {who : Int} {log : List S49} (h : Mem w0 w g s who log) (hl : log.length ≤ m) : MemL w0 w g s m := ⟨who, log, hl, h⟩
end
end Go.Proofs.Ytllpfadjdecjiaa.Mem
