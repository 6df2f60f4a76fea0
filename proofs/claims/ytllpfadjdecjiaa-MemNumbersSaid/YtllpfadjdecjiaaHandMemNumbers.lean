/- A memory: its functions' contracts, by hand, and the laws over them. -/
import Derived.Test.YtllpfadjdecjiaaMemP
import Derived.Laws.Pointers
import Derived.WalkLawsBesides
import Derived.Deep.QuietTactic
import Derived.BigQuiet
import Derived.Deep.RegionWith
import Derived.Deep.RegionLaw
import Derived.Lib.BufferWrite
namespace Go.Proofs.Ytllpfadjdecjiaa.Hand
open Go Go.RowKit Go.Proofs.YtllpfadjdecjiaaW.PrintWords Go.Proofs.YtllpfadjdecjiaaW.PrintLast Go.Proofs.YtllpfadjdecjiaaW.PrintMore Go.Proofs.Ytllpfadjdecjiaa.Own Go.Proofs.Ytllpfadjdecjiaa.P Go.Proofs.Ytllpfadjdecjiaa Go.Proofs.Ytllpfadjdecjiaa.Mem
set_option linter.unusedVariables false
set_option linter.unusedSimpArgs false
set_option maxHeartbeats 8000000 in
set_option maxRecDepth 100000 in
theorem MemNumbers (at_ n v' : Int) (w : World) (h0 : (Lit.int .i64 at_).wf = true) (h1 : (Lit.int .i64 n).wf = true) (h2 : (Lit.int .u64 v').wf = true) :
    Calls Try.prog 6 #[.int .i64 at_, .int .i64 n, .int .u64 v'] w fun e w' => e = .returned (.bool true) ∧ Below w.heap.size w w' := by
  obtain ⟨hv0, hv1⟩ := Mth.u64_wf h2
  obtain ⟨v, rfl⟩ := Int.eq_ofNat_of_zero_le hv0
  have hv : v < 18446744073709551616 := by omega
  have C1 := Aside0.mk (new (w0 := w) 200 (Below.refl _ _) (by decide) (by decide))
  have hmk : ∀ W : World, (Instr.makeSlice 41 (.int .i64 200) (.int .i64 200)).run Try.prog W = .ok (.slice (some ⟨W.heap.size, 0, none⟩) 200 200) (W.alloc (.cells (madeCells #[.int .u8 0] 200) 5)) := print_make (P := Try.prog) 41 5 .u8 1 Try.underlying41 infoB (by decide) 200 (by decide)
  have hcv := fun W : World => own_string (P := Try.prog) Try.underlying41 Try.underlying5 Try.underlying9 (own_made W 0 5 .u8 200 (Nat.zero_le _) (by decide))
  have hcd := fun W : World => own_string (P := Try.prog) Try.underlying41 Try.underlying5 Try.underlying9 (own_drew (own_made W 0 5 .u8 200 (Nat.zero_le _) (by decide)))
  rw [zeros_ext] at hcv hcd
  by_cases hok : (sizedP n ∧ v < 256 ^ n.toNat) ∧ 0 ≤ at_ ∧ at_ + n ≤ 200
  · obtain ⟨⟨s1, s2⟩, s3, s4⟩ := hok
    have n1 : 1 ≤ n ∧ n ≤ 8 := by unfold sizedP at s1; omega
    obtain ⟨m, rfl⟩ := Int.eq_ofNat_of_zero_le (show 0 ≤ n by omega)
    obtain ⟨a, rfl⟩ := Int.eq_ofNat_of_zero_le s3
    rw [Int.toNat_natCast] at s2
    clear hmk hcv hcd
    have hS : (over (zeros 200) (le m v) a).size = 200 := by rw [over_size _ _ _ (by rw [zeros_size, le_size]; omega), zeros_size]
    have v1 : Mth.val (Mth.B ((over (zeros 200) (le m v) a).extract a (a + m))).reverse = v := by
      rw [over_ext _ _ _ (by rw [zeros_size, le_size]; omega) m (by rw [le_size]; exact Nat.le_refl _), List.take_of_length_le (by rw [Mth.B_length, le_size]; exact Nat.le_refl _), le_B, List.reverse_reverse, Mth.val_dig_lt s2]
    have v2 : Mth.val (Mth.B ((over (zeros 200) (le m v) a).extract a (a + 1))).reverse = v % 256 := by
      rw [over_ext _ _ _ (by rw [zeros_size, le_size]; omega) 1 (by rw [le_size]; omega), le_B, dig_low m v (by omega)]
      simp [Mth.val]
    have HS := Aside0.mk hS
    have HV1 := Aside0.mk v1
    have HV2 := Aside0.mk v2
    clear hS v1 v2
    have b255 : Go.bits .and .u64 (v : Int) 255 = ((v % 256 : Nat) : Int) := Mth.and_u64 v hv 8 (by decide)
    go_enter Try.func6, Try.ntmps6
    go_wp2_with fail
    refine C1.out.mono ?_
    rintro e w1 ⟨g, rfl, h1⟩
    have L1 := Aside0.mk h1
    clear h1 C1
    go_wp2_with fail
    refine (Mem.store a m v s1 s2 (by rw [zeros_size]; omega) (by decide) L1.out).mono ?_
    rintro e w2 ⟨rfl, h2⟩
    have L2 := Aside0.mk (h2.hide (m := 1) (noted_len _ _ _ _ _))
    clear h2 L1
    go_wp2_with fail
    refine (loadL a m s1 (by rw [HS.out]; omega) (by decide) L2.out).mono ?_
    rintro e w3 ⟨rfl, h3⟩
    rw [HV1.out]
    have L3 := Aside0.mk h3
    clear h3 L2
    go_wp2_with fail
    refine (loadL a 1 (by unfold sizedP; omega) (by rw [HS.out]; omega) (by decide) L3.out).mono ?_
    rintro e w4 ⟨rfl, h4⟩
    rw [HV2.out]
    have L4 := Aside0.mk h4
    clear h4 L3
    have B4 := Aside0.mk L4.out.bel
    go_wp2_with fail
    refine (fixed w4).mono ?_
    rintro e w5 ⟨rfl, h5⟩
    have B5 := Aside0.mk (below_step B4.out h5)
    clear h5
    go_wp2
    go_ret
    exact ⟨rfl, B5.out⟩
  · have key : ∀ g w1, Mem w w1 g (zeros 200) 0 [] → ∃ f : Int, f ≠ 0 ∧ Calls Try.prog 19 #[ptr g, .int .i64 at_, .int .i64 n, .int .u64 (v : Int)] w1 fun e w' => e = .returned (.int .i64 f) ∧ Mem w w' g (zeros 200) 0 [] := by
      intro g w1 h
      by_cases q : sizedP n ∧ v < 256 ^ n.toNat
      · have n1 : 1 ≤ n ∧ n ≤ 8 := by have := q.1; unfold sizedP at this; omega
        obtain ⟨m, rfl⟩ := Int.eq_ofNat_of_zero_le (show 0 ≤ n by omega)
        have q2 := q.2
        rw [Int.toNat_natCast] at q2
        exact ⟨41, by decide, Mem.store_at at_ m v q.1 q2 (by rw [zeros_size]; intro z; exact hok ⟨q, z⟩) h⟩
      · exact ⟨1, by decide, Mem.store_arg at_ n v hv q h⟩
    have KEY := Aside0.mk key
    clear key hok
    go_enter Try.func6, Try.ntmps6
    go_wp2_with fail
    refine C1.out.mono ?_
    rintro e w1 ⟨g, rfl, h1⟩
    obtain ⟨f, hf, C2⟩ := KEY.out g w1 h1
    clear h1 C1 KEY
    have bf : (f != 0) = true := by simpa using hf
    have C2 := Aside0.mk C2
    go_wp2_with fail
    refine C2.out.mono ?_
    rintro e w2 ⟨rfl, h2⟩
    have L2 := Aside0.mk h2
    have I2 := Aside0.mk fun (W : World) (hW : Below w2.heap.size w2 W) => image (h2.beside hW)
    have B2 := Aside0.mk h2.bel
    clear h2 C2
    go_wp2_with fail
    go_region_with (first
      | (go_at_call 16; (with_reducible refine (I2.out _ (by repeat (first | exact Below.refl _ _ | apply below_drew1 | apply below_alloc))).mono ?_); rintro e w3 ⟨rfl, rfl⟩)
      | (go_at_call 13; refine (fixed _).mono ?_; rintro e w8 ⟨rfl, hb8⟩; have B8 := Aside0.mk hb8; clear hb8))
    all_goals go_wp2
    all_goals go_ret
    all_goals exact ⟨rfl, below_step (by repeat (first | exact B2.out | apply below_drew1 | apply below_alloc)) B8.out⟩
end Go.Proofs.Ytllpfadjdecjiaa.Hand
