/- A memory: its functions' contracts, by hand, and the laws over them. -/
import Derived.Test.YtllpfadjdecjiaaMemF
import Derived.Laws.Pointers
import Derived.WalkLawsBesides
import Derived.Deep.QuietTactic
import Derived.BigQuiet
import Derived.Deep.RegionWith
import Derived.Deep.RegionLaw
import Derived.Lib.BufferWrite
namespace Go.Proofs.Ytllpfadjdecjiaa.Hand
open Go Go.RowKit Go.Proofs.YtllpfadjdecjiaaW.PrintWords Go.Proofs.YtllpfadjdecjiaaW.PrintLast Go.Proofs.YtllpfadjdecjiaaW.PrintMore Go.Proofs.Ytllpfadjdecjiaa.Own Go.Proofs.Ytllpfadjdecjiaa.P Go.Proofs.Ytllpfadjdecjiaa Go.Proofs.Ytllpfadjdecjiaa.Mem
set_option linter.unusedVariables false
set_option linter.unusedSimpArgs false
theorem val2 (y : ByteArray) (h : y.size = 2) : ∃ u v : Nat, u < 256 ∧ v < 256 ∧ Mth.val (Mth.B y).reverse = u + 256 * v ∧ (∀ h0 : 0 < y.size, (y[0]'h0).toNat = u) ∧ ∀ h1 : 1 < y.size, (y[1]'h1).toNat = v := by
  have hl := Mth.B_length y
  rw [h] at hl
  have g : ∀ (i : Nat) (hi : i < y.size), (y[i]'hi).toNat = (Mth.B y).getD i 0 := by
    intro i hi
    have hi' : i < y.data.toList.length := by rw [Array.length_toList]; exact hi
    simp only [Mth.B, List.getD_eq_getElem?_getD, List.getElem?_map, List.getElem?_eq_getElem hi', Option.map_some, Option.getD_some, Array.getElem_toList]
    rfl
  match hB : Mth.B y, hl with
  | [u, v], _ =>
    have bu : u < 256 := Mth.B_bt y u (by rw [hB]; simp)
    have bv : v < 256 := Mth.B_bt y v (by rw [hB]; simp)
    refine ⟨u, v, bu, bv, ?_, fun h0 => ?_, fun h1 => ?_⟩
    · simp only [List.reverse_cons, List.reverse_nil, List.nil_append, List.cons_append, Mth.val, List.foldl_cons, List.foldl_nil]
      omega
    · rw [g 0 h0, hB]; rfl
    · rw [g 1 h1, hB]; rfl
theorem zeros_img (t : ByteArray) (n : Nat) (h : t.size ≤ n) : (over (zeros n) t 0).size = n := by rw [over_size _ _ _ (by rw [zeros_size]; omega), zeros_size]
theorem ext_cat (s : ByteArray) (a c k : Nat) (h : c ≤ k) : s.extract a (a + c) ++ s.extract (a + c) (a + c + (k - c)) = s.extract a (a + k) := by
  apply Mth.B_inj
  rw [Mth.B_append, Mth.B_extract, Mth.B_extract, Mth.B_extract, List.drop_take, List.drop_take, List.drop_take, show a + c - a = c from by omega, show a + c + (k - c) - (a + c) = k - c from by omega, show a + k - a = k from by omega, ← List.drop_drop]
  conv => rhs; rw [show k = c + (k - c) from by omega, List.take_add]
set_option maxHeartbeats 8000000 in
set_option maxRecDepth 100000 in
theorem MemParts (im : ByteArray) (at_ n cut : Int) (w : World) (him : im.size ≤ 140737488351232) (h0 : (Lit.int .i64 at_).wf = true) (h1 : (Lit.int .i64 n).wf = true) (h2 : (Lit.int .i64 cut).wf = true) :
    Calls Try.prog 3 #[.agg #[.string im, .int .i64 at_, .int .i64 n, .int .i64 cut]] w fun e w' => e = .returned (.bool true) ∧ Below w.heap.size w w' := by
  have ea : Go.bits .and .i64 at_ 255 = at_ % 256 := Mth.and_i64 at_ 8 (by decide)
  have ek : Go.bits .and .i64 n 31 = n % 32 := Mth.and_i64 n 5 (by decide)
  have ec : Go.bits .and .i64 cut 65535 = cut % 65536 := Mth.and_ffff cut
  obtain ⟨a, ha, a1⟩ : ∃ a : Nat, at_ % 256 = (a : Int) ∧ a ≤ 255 := ⟨(at_ % 256).toNat, by omega, by omega⟩
  obtain ⟨k, hk, k1⟩ : ∃ k : Nat, n % 32 = (k : Int) ∧ k ≤ 31 := ⟨(n % 32).toNat, by omega, by omega⟩
  obtain ⟨q, hq, q1⟩ : ∃ q : Nat, cut % 65536 = (q : Int) ∧ q ≤ 65535 := ⟨(cut % 65536).toNat, by omega, by omega⟩
  rw [ha] at ea
  rw [hk] at ek
  rw [hq] at ec
  clear ha hk hq
  go_enter Try.func3, Try.ntmps3
  go_wp2
  go_quiet (fail)
  go_wp2_with fail
  refine (new (w0 := w) 300 (pw_below_drewN (below_alloc (Below.refl _ _) _) _) (by decide) (by decide)).mono ?_
  rintro e w1 ⟨g, rfl, h1⟩
  have L1 := Aside0.mk (h1.hide (m := 0) (Nat.zero_le _))
  clear h1
  go_wp2_with fail
  obtain ⟨t, et⟩ : ∃ t, im.extract 0 (min (im.size : Int) 300).toNat = t := ⟨_, rfl⟩
  have ht : t.size ≤ 300 := by rw [← et, ByteArray.size_extract]; omega
  rw [et]
  have hS := zeros_img t 300 ht
  refine (writeL t 0 (by rw [zeros_size]; omega) (by decide) L1.out).mono ?_
  rintro e w2 ⟨rfl, h2⟩
  obtain ⟨S, eS⟩ : ∃ S, over (zeros 300) t 0 = S := ⟨_, rfl⟩
  rw [eS] at h2 hS
  have L2 := Aside0.mk h2
  have HS := Aside0.mk hS
  clear h2 L1 eS et ht hS
  have wk : IntKind.i64.wrap ((k : Int) + 1) = ((k + 1 : Nat) : Int) := by rw [IntKind.wrap_i64]; omega
  have nz : (((k + 1 : Nat) : Int) == 0) = false := beq_eq_false_iff_ne.mpr (by omega)
  go_wp2_with fail
  obtain ⟨c, ec', c1⟩ : ∃ c : Nat, (q : Int) % ((k : Int) + 1) = (c : Int) ∧ c ≤ k := ⟨q % (k + 1), by rw [show ((k : Int) + 1) = ((k + 1 : Nat) : Int) from by omega]; exact (Int.natCast_emod q (k + 1)).symm, by have := Nat.mod_lt q (show 0 < k + 1 by omega); omega⟩
  rw [ec']
  clear ec' wk nz
  refine (readL a k (by rw [HS.out]; omega) (by decide) L2.out).mono ?_
  rintro e w3 ⟨rfl, h3⟩
  have L3 := Aside0.mk h3
  clear h3 L2
  have hcat := ext_cat S a c k c1
  obtain ⟨x1, e1⟩ : ∃ x, S.extract a (a + k) = x := ⟨_, rfl⟩
  rw [e1] at hcat ⊢
  go_wp2_with fail
  refine (readL a c (by rw [HS.out]; omega) (by decide) L3.out).mono ?_
  rintro e w4 ⟨rfl, h4⟩
  have L4 := Aside0.mk h4
  clear h4 L3
  obtain ⟨x2, e2⟩ : ∃ x, S.extract a (a + c) = x := ⟨_, rfl⟩
  rw [e2] at hcat ⊢
  have w1_ : IntKind.i64.wrap ((a : Int) + (c : Int)) = ((a + c : Nat) : Int) := by rw [IntKind.wrap_i64]; omega
  have w2_ : IntKind.i64.wrap ((k : Int) - (c : Int)) = ((k - c : Nat) : Int) := by rw [IntKind.wrap_i64]; omega
  go_wp2_with fail
  refine (readL (a + c) (k - c) (by rw [HS.out]; omega) (by decide) L4.out).mono ?_
  rintro e w5 ⟨rfl, h5⟩
  have L5 := Aside0.mk h5
  clear h5 L4
  obtain ⟨x3, e3⟩ : ∃ x, S.extract (a + c) (a + c + (k - c)) = x := ⟨_, rfl⟩
  rw [e3] at hcat ⊢
  go_wp2_with fail
  refine (loadL a 2 (by unfold sizedP; omega) (by rw [HS.out]; omega) (by decide) L5.out).mono ?_
  rintro e w6 ⟨rfl, h6⟩
  have L6 := Aside0.mk h6
  clear h6 L5
  have y2 : (S.extract a (a + 2)).size = 2 := by rw [ByteArray.size_extract, HS.out]; omega
  obtain ⟨y, ey⟩ : ∃ y, S.extract a (a + 2) = y := ⟨_, rfl⟩
  rw [ey] at y2 ⊢
  obtain ⟨v, hv⟩ : ∃ v : Nat, Mth.val (Mth.B y).reverse = v := ⟨_, rfl⟩
  rw [hv]
  go_wp2_with fail
  refine (readL a 2 (by rw [HS.out]; omega) (by decide) L6.out).mono ?_
  rintro e w7 ⟨rfl, h7⟩
  have L7 := Aside0.mk h7
  clear h7 L6
  rw [ey]
  have hx0 := bt_at y 0
  have hx1 := bt_at y 1
  have HCAT := Aside0.mk hcat
  have HV := Aside0.mk hv
  have hsz23 : x2.size + x3.size ≤ 9223372036854775807 := by rw [← e2, ← e3, ByteArray.size_extract, ByteArray.size_extract, HS.out]; omega
  clear e1 e2 e3 ey hcat hv
  obtain ⟨b0, b1, hb0, hb1, hval, hy0, hy1⟩ := val2 y y2
  rw [HV.out] at hval
  have u0 : IntKind.u64.wrap (b0 : Int) = (b0 : Int) := by rw [Mth.wrap_u64]; omega
  have u1 : IntKind.u64.wrap (b1 : Int) = (b1 : Int) := by rw [Mth.wrap_u64]; omega
  have u2 : IntKind.u64.wrap (256 * (b1 : Int)) = 256 * (b1 : Int) := by rw [Mth.wrap_u64]; omega
  have u3 : IntKind.u64.wrap ((b0 : Int) + 256 * (b1 : Int)) = (b0 : Int) + 256 * (b1 : Int) := by rw [Mth.wrap_u64]; omega
  have u4 : (v : Int) = (b0 : Int) + 256 * (b1 : Int) := by omega
  clear hx0 hx1
  have y2' : (y.size : Int) = 2 := by omega
  clear hb0 hb1 hval
  have hcat := HCAT.out
  go_upto_region 14 with (fail)
  go_region_with (first | (go_at_call 13; refine (fixed _).mono ?_; rintro e w8 ⟨rfl, hb8⟩; have B8 := Aside0.mk hb8; clear hb8))
  all_goals go_wp2
  all_goals go_ret
  all_goals exact ⟨rfl, below_then (below_drew1 L7.out.bel) L7.out.bel.size B8.out⟩
end Go.Proofs.Ytllpfadjdecjiaa.Hand
