/- A memory: its functions' contracts, by hand, and the laws over them. -/
import Derived.Test.YtllpfadjdecjiaaMemP
import Derived.Laws.Pointers
import Derived.WalkLawsBesides
import Derived.Deep.QuietTactic
import Derived.BigQuiet
import Derived.Deep.RegionWith
import Derived.Deep.RegionLaw
import Derived.Lib.BufferWrite
namespace Go.Proofs.Ytllpfadjdecjiaa.Hand
open Go Go.RowKit Go.Proofs.YtllpfadjdecjiaaW.PrintWords Go.Proofs.YtllpfadjdecjiaaW.PrintLast Go.Proofs.YtllpfadjdecjiaaW.PrintMore Go.Proofs.Ytllpfadjdecjiaa.Own Go.Proofs.Ytllpfadjdecjiaa.P Go.Proofs.Ytllpfadjdecjiaa Go.Proofs.Ytllpfadjdecjiaa.Mem
set_option linter.unusedVariables false
set_option linter.unusedSimpArgs false
theorem ext_min (im : ByteArray) (n : Nat) : ∃ t : ByteArray, im.extract 0 (min (im.size : Int) (n : Int)).toNat = t ∧ t.size ≤ n ∧ t.size = min im.size n := ⟨_, rfl, by rw [ByteArray.size_extract]; omega, by rw [ByteArray.size_extract]; omega⟩
set_option maxHeartbeats 8000000 in
set_option maxRecDepth 100000 in
theorem MemBack (im : ByteArray) (kd at_ nn vv : Int) (t : ByteArray) (w : World) (him : im.size ≤ 140737488351232) (h0 : (Lit.int .i64 kd).wf = true) (h1 : (Lit.int .i64 at_).wf = true) (h2 : (Lit.int .i64 nn).wf = true) (h3 : (Lit.int .u64 vv).wf = true) (ht : t.size ≤ 140737488351232) :
    Calls Try.prog 5 #[.string im, .agg #[.int .i64 kd, .int .i64 at_, .int .i64 nn, .int .u64 vv, .string t]] w fun e w' => e = .returned (.bool true) ∧ Below w.heap.size w w' := by
  obtain ⟨n, hn, n1, n2⟩ : ∃ n : Nat, max 64 (min (im.size : Int) 2000) = (n : Int) ∧ 64 ≤ n ∧ n ≤ 2000 := ⟨(max 64 (min (im.size : Int) 2000)).toNat, by omega, by omega, by omega⟩
  obtain ⟨t0, et0, lt0, -⟩ := ext_min im n
  have HAT := Aside0.mk (Mth.i64_wf h1)
  clear h0 h1 h2 h3
  have hu44 := Try.underlying44
  go_enter Try.func5, Try.ntmps5
  go_wp2_with fail
  obtain ⟨wa, hwa⟩ : ∃ wa, w.alloc (.cells #[.int .i64 kd, .int .i64 at_, .int .i64 nn, .int .u64 vv, .string t] 44) = wa := ⟨_, rfl⟩
  rw [hwa]
  have cells : ∀ W : World, Below wa.heap.size wa W → W.cell? ⟨w.heap.size, 1, none⟩ = some (.int .i64 at_) ∧ W.cell? ⟨w.heap.size, 4, none⟩ = some (.string t) := by
    intro W hW
    have hb : W.heap[w.heap.size]? = some (.cells #[.int .i64 kd, .int .i64 at_, .int .i64 nn, .int .u64 vv, .string t] 44 (0, 0)) := blk_below (by rw [← hwa]; exact blk_new _ _) hW
    exact ⟨(blk_cell hb 1).trans rfl, (blk_cell hb 4).trans rfl⟩
  have fin : ∀ W : World, Below wa.heap.size wa W → Below w.heap.size w W := fun W hW => below_step (by rw [← hwa]; exact below_alloc (Below.refl _ _) _) hW
  have CELLS := Aside0.mk cells
  have FIN := Aside0.mk fin
  clear cells fin hwa
  refine (new (w0 := wa) n (Below.refl _ _) n1 (by omega)).mono ?_
  rintro e w1 ⟨g, rfl, h1⟩
  have L1 := Aside0.mk h1
  clear h1
  go_wp2_with fail
  try rw [et0]
  refine (write t0 0 (by rw [zeros_size]; omega) (by decide) L1.out).mono ?_
  rintro e w2 ⟨rfl, h2⟩
  have zS : (over (zeros n) t0 0).size = n := by rw [over_size _ _ _ (by rw [zeros_size]; omega), zeros_size]
  obtain ⟨S, eS⟩ : ∃ S, over (zeros n) t0 0 = S := ⟨_, rfl⟩
  rw [eS] at h2 zS
  obtain ⟨lg, el⟩ : ∃ lg, noted [] 0 ((0 : Nat) : Int) t0.size true = lg := ⟨_, rfl⟩
  have ll : lg.length ≤ 1 := by rw [← el]; exact noted_len _ _ _ _ _
  rw [el] at h2
  have L2 := Aside0.mk h2
  have ZS := Aside0.mk zS
  clear h2 L1 eS zS el et0 lt0
  go_wp2_with fail
  refine (log_ (by omega) L2.out).mono ?_
  rintro e w3 ⟨A3, c3, rfl, -, -, h3⟩
  have L3 := Aside0.mk h3
  clear h3 L2 ll
  go_wp2_with fail
  refine (image L3.out).mono ?_
  rintro e w4 ⟨rfl, rfl⟩
  have z' : (S.size : Int) = (n : Int) := by rw [ZS.out]
  obtain ⟨q1, q4⟩ := CELLS.out w4 L3.out.bel
  by_cases hok : 0 ≤ at_ ∧ at_ + (t.size : Int) ≤ (n : Int)
  · obtain ⟨ha0, ha1⟩ := hok
    obtain ⟨a, rfl⟩ := Int.eq_ofNat_of_zero_le ha0
    have an : a + t.size ≤ n := by omega
    go_wp2_with fail
    refine (write t a (by rw [ZS.out]; exact an) (by decide) L3.out).mono ?_
    rintro e w5 ⟨rfl, h5⟩
    have zS2 : (over S t a).size = n := by rw [over_size _ _ _ (by rw [ZS.out]; exact an), ZS.out]
    have e1 : (over S t a).extract 0 a = S.extract 0 a := by
      apply Mth.B_inj
      rw [Mth.B_extract, Mth.B_extract, over_B, List.drop_zero, List.drop_zero, List.append_assoc, List.take_append_of_le_length (by rw [List.length_take, Mth.B_length, ZS.out]; omega), List.take_take, Nat.min_self]
    have e2 : (over S t a).extract (a + t.size) n = S.extract (a + t.size) n := by
      apply Mth.B_inj
      rw [Mth.B_extract, Mth.B_extract, List.take_of_length_le (by rw [Mth.B_length, zS2]; exact Nat.le_refl _), List.take_of_length_le (by rw [Mth.B_length, ZS.out]; exact Nat.le_refl _), over_B, List.drop_append_of_le_length (by rw [List.length_append, List.length_take, Mth.B_length, Mth.B_length, ZS.out]; omega), List.drop_eq_nil_iff.2 (by rw [List.length_append, List.length_take, Mth.B_length, Mth.B_length, ZS.out]; omega), List.nil_append]
    have e3 : (over S t a).extract a (a + t.size) = t := by
      apply Mth.B_inj
      rw [over_ext S t a (by rw [ZS.out]; exact an) t.size (Nat.le_refl _), List.take_of_length_le (by rw [Mth.B_length]; exact Nat.le_refl _)]
    obtain ⟨S2, eS2⟩ : ∃ S2, over S t a = S2 := ⟨_, rfl⟩
    rw [eS2] at h5 zS2 e1 e2 e3
    have L5 := Aside0.mk h5
    have ZS2 := Aside0.mk zS2
    have E := Aside0.mk (And.intro e1 (And.intro e2 e3))
    clear h5 L3 zS2 e1 e2 e3 eS2 q1 q4
    go_wp2_with fail
    refine (image L5.out).mono ?_
    rintro e w6 ⟨rfl, rfl⟩
    obtain ⟨q1, q4⟩ := CELLS.out w6 L5.out.bel
    obtain ⟨m, hm⟩ : ∃ m : Nat, a + t.size = m := ⟨_, rfl⟩
    have wend : IntKind.i64.wrap ((a : Int) + (t.size : Int)) = (m : Int) := by rw [IntKind.wrap_i64]; omega
    have z2 : (S2.size : Int) = (n : Int) := by rw [ZS2.out]
    have r1 : decide ((a : Int) < 0) = false := decide_eq_false (by omega)
    have r2 : IntKind.i64.wrap ((n : Int) - (t.size : Int)) = (n : Int) - (t.size : Int) := by rw [IntKind.wrap_i64]; omega
    have r3 : decide ((n : Int) - (t.size : Int) < (a : Int)) = false := decide_eq_false (by omega)
    have zz := ZS.out
    have zz2 := ZS2.out
    have e1 := E.out.1
    have e2 := E.out.2.1
    have e3 := E.out.2.2
    rw [hm] at e2 e3
    have s1 : (0 : Int) ≤ (a : Int) := by omega
    have s2 : (a : Int) ≤ (n : Int) := by omega
    have s3 : (a : Int) ≤ (m : Int) := by omega
    have s4 : (m : Int) ≤ (n : Int) := by omega
    have s5 : a ≤ m := by omega
    have s6 : m ≤ n := by omega
    have s7 : a ≤ n := by omega
    have HM := Aside0.mk hm
    clear hm
    go_upto_region 14 with (fail)
    go_quiet (fail)
    have LQ := Aside0.mk (L5.out.beside (pw_below_drewN (Below.refl _ _) nq))
    have e3' : S2.extract a (a + t.size) = t := by rw [HM.out]; exact e3
    clear e1 e2 e3 wend r1 r2 r3 s1 s2 s3 s4 s5 s6 s7 zz zz2 z2
    have E3 := Aside0.mk e3'
    clear e3' E L5
    go_wp2_with fail
    refine (read a t.size (by rw [ZS2.out]; exact an) (Nat.le_trans (noted_len _ _ _ _ _) (by decide)) LQ.out).mono ?_
    rintro e w7 ⟨rfl, h7⟩
    rw [E3.out]
    by_cases tz : t.size = 0
    · have eN : noted (noted [] 0 (a : Int) (t.size : Int) true) 0 (a : Int) (t.size : Int) false = [] := by unfold noted; rw [if_pos (by omega), if_pos (by omega)]
      rw [eN] at h7
      have L7 := Aside0.mk h7
      clear h7 LQ eN
      go_wp2_with fail
      refine (log_ (by decide) L7.out).mono ?_
      rintro e w8 ⟨A8, c8, rfl, -, -, h8⟩
      obtain ⟨p1, p4⟩ := CELLS.out w8 h8.bel
      have B8 := Aside0.mk (FIN.out w8 h8.bel)
      clear h8 L7
      have tz' : ((t.size : Int) == 0) = true := by rw [tz]; rfl
      go_wp2_with fail
      refine (fixed w8).mono ?_
      rintro e w9 ⟨rfl, h9⟩
      have B9 := Aside0.mk (below_step B8.out h9)
      clear h9
      go_wp2_with fail
      go_ret
      exact ⟨rfl, B9.out⟩
    · rw [two_noted _ _ _ _ _ _ (by omega) (by omega)] at h7
      have L7 := Aside0.mk h7
      clear h7 LQ
      go_wp2_with fail
      refine (log_ (by simp) L7.out).mono ?_
      rintro e w8 ⟨A8, c8, rfl, hc8, ho8, h8⟩
      obtain ⟨p1, p4⟩ := CELLS.out w8 h8.bel
      have O8 := Aside0.mk ho8
      have HC := Aside0.mk hc8
      have B8 := Aside0.mk h8.bel
      clear h8 L7 ho8 hc8
      have tz' : ((t.size : Int) == 0) = false := beq_eq_false_iff_ne.mpr (by omega)
      go_wp2_with fail
      have q := World.ownsRow_lit (base := 0) (e := 49) (size := 4) w8 #[.int .i64 0, .int .i64 (a : Int), .int .i64 (t.size : Int), .bool true, .int .i64 0, .int .i64 (a : Int), .int .i64 (t.size : Int), .bool false] 2 (Nat.zero_le _) (by decide) rfl
      refine (Same_ok [⟨0, a, t.size, true⟩, ⟨0, a, t.size, false⟩] 2 rfl A8 _ c8 2 _ (by simp) (C_of_own rfl (World.ownsRow.alloc O8.out _)) HC.out (C_of_own rfl q) (by decide)).mono ?_
      rintro e w9 ⟨rfl, k9, rfl⟩
      have B9 := Aside0.mk (FIN.out _ (pw_below_drewN (below_alloc B8.out (.cells #[.int .i64 0, .int .i64 (a : Int), .int .i64 (t.size : Int), .bool true, .int .i64 0, .int .i64 (a : Int), .int .i64 (t.size : Int), .bool false] 49)) k9))
      clear q
      go_wp2_with fail
      refine (fixed _).mono ?_
      rintro e w10 ⟨rfl, h10⟩
      have B10 := Aside0.mk (below_step B9.out h10)
      clear h10
      go_wp2_with fail
      go_ret
      exact ⟨rfl, B10.out⟩
  · go_wp2_with fail
    refine (write_no t at_ (by rw [ZS.out]; exact hok) L3.out).mono ?_
    rintro e w5 ⟨rfl, rfl⟩
    go_wp2_with fail
    refine (image L3.out).mono ?_
    rintro e w5 ⟨rfl, rfl⟩
    go_wp2_with fail
    refine (log_ (by decide) L3.out).mono ?_
    rintro e w6 ⟨A6, c6, rfl, -, -, h6⟩
    have B6 := Aside0.mk (FIN.out _ h6.bel)
    clear h6
    go_wp2_with fail
    refine (fixed _).mono ?_
    rintro e w7 ⟨rfl, h7⟩
    have B7 := Aside0.mk (below_step B6.out h7)
    clear h7
    go_wp2_with fail
    go_ret
    exact ⟨rfl, B7.out⟩
end Go.Proofs.Ytllpfadjdecjiaa.Hand
