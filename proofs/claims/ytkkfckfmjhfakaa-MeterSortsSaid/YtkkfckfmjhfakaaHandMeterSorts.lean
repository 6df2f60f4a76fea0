/- Floats and the meter: contracts by hand, and the laws over them. -/
import Derived.Test.YtkkfckfmjhfakaaOwn
import Derived.Test.YtkkfckfmjhfakaaFx
import Derived.Test.YtkkfckfmjhfakaaPla
namespace Go.Proofs.Ytkkfckfmjhfakaa.Hand
open Go Go.RowKit Go.Proofs.YtkkfckfmjhfakaaW.PrintWords Go.Proofs.YtkkfckfmjhfakaaW.PrintLast Go.Proofs.YtkkfckfmjhfakaaW.PrintMore Go.Proofs.Ytkkfckfmjhfakaa.Mth Go.Proofs.Ytkkfckfmjhfakaa.Own Go.Proofs Go.Proofs.Ytkkfckfmjhfakaa.Mt
set_option linter.unusedVariables false
set_option linter.unusedSimpArgs false
open Go.Sort
theorem sevenF : (4619567317775286272 : Nat) < 2 ^ 64 := by decide
set_option maxHeartbeats 16000000 in
theorem MeterSorts (A : Option Addr) (c : Nat) (l : List Nat) (a b : Nat) (w : World) (hle : l.length ≤ c) (hmx : c ≤ 9223372036854775807) (hgd : ∀ a ∈ l, (Lit.float .f64 a).wf = true) (hr : ReadsOf (Value.float .f64) 0 w A l.length l) (wa : (Lit.float .f64 a).wf = true) (wb : (Lit.float .f64 b).wf = true) :
    Calls Try.prog 4 #[.slice A l.length c, .float .f64 a, .float .f64 b] w fun e w' => e = .returned (.bool true) ∧ Below w.heap.size w w' := by
  have ha : a < 2 ^ 64 := by simpa [Lit.wf] using wa
  have hb : b < 2 ^ 64 := by simpa [Lit.wf] using wb
  obtain ⟨L, hL, hrL⟩ := reads_F hr (fun x hx => by simpa [Lit.wf] using hgd x hx)
  rw [← hL] at hle ⊢
  have HA := Aside0.mk ha
  have HB := Aside0.mk hb
  have HR := Aside0.mk (take_lenF hrL 100)
  have tl : (L.take 100).length ≤ 100 := by rw [List.length_take]; omega
  have tc : (L.take 100).length ≤ c := by rw [List.length_take]; omega
  have te : (min (L.length : Int) 100).toNat = (L.take 100).length := by rw [List.length_take]; omega
  clear hgd hr ha hb wa wb hL hrL
  go_enter Try.func4, Try.ntmps4
  have O0 := Aside0.mk (own_emptyF w w.heap.size (Nat.le_refl _))
  have B0 : Aside0 (Below w.heap.size w (w.alloc (.cells #[] 22))) := ⟨below_alloc (Below.refl _ _) _⟩
  obtain ⟨t, ht⟩ : ∃ t, L.take 100 = t := ⟨_, rfl⟩
  rw [ht] at HR tl tc te
  have HT : Aside0 (min 100 L.length = t.length) := ⟨by rw [← ht, List.length_take]⟩
  clear ht
  go_wp2_with (at_builtin; go_loud (refine print_append_row_of (w0 := w) encF default w.heap.size rfl (.tmp 15) (.tmp 16) 28 22 (.float .f64 0) 8 rfl Try.underlying28 infoF rfl (by decide) (fun _ => rfl) (.slice (some ⟨w.heap.size, 0, none⟩) 0 0) [] t A t.length c rfl rfl ?c1 ?c2 ?c3 ?c4 ?c5 ?_; (case c1 => exact O0.out); (case c2 => exact HR.out.below B0.out); (case c3 => exact B0.out); (case c4 => simp); (case c5 => simp only [List.length_nil]; omega); intro v1 w1 ho1 hb1 hg1 hf1; have HO1 := Aside0.mk ho1; have B1 := Aside0.mk hb1; obtain ⟨A1, c1_, rfl⟩ := own_slice ho1; simp only [List.nil_append] at HO1; clear ho1 hb1 hg1 hf1))
  have R1 := Aside0.mk (HR.out.below B1.out)
  clear O0 B0 HT te
  refine (Sort_big A c t w1 R1.out (by omega)).mono ?_
  rintro e w2 ⟨A2, c2, s, rfl, hsl, ho, hp, hs, b1⟩
  have HSL := Aside0.mk hsl
  have HO2 := Aside0.mk ho
  have HPS := Aside0.mk (And.intro hp hs)
  have B2 := Aside0.mk b1
  have BW2 := Aside0.mk (below_step B1.out b1)
  clear hsl ho hp hs b1
  go_wp2_with fail
  refine (Less_calls a b w2 HA.out HB.out).mono ?_
  rintro e w_ ⟨rfl, hw_⟩
  rw [hw_]
  clear hw_ w_
  go_wp2_with fail
  refine (RLess_calls a b w2 HA.out HB.out).mono ?_
  rintro e w3 ⟨rfl, b1⟩
  have B3 := Aside0.mk (below_step BW2.out b1)
  have HO3 := Aside0.mk (pw_own_below HO2.out b1)
  have X3 := Aside0.mk (B2.out.trans (b1.mono B2.out.size))
  clear b1 HO2
  cases hq : lessB a b
  all_goals
    clear hq
    go_wp2_with fail
    refine (RSort_calls A c t w3 (HR.out.below B3.out) (by omega)).mono ?_
    rintro e w4 ⟨A4, c4, rfl, ho4, b4⟩
    have B4 := Aside0.mk (below_step B3.out b4)
    have HO4 := Aside0.mk (pw_own_below HO3.out b4)
    have HQ4 := Aside0.mk ho4
    have X4 := Aside0.mk (X3.out.trans (b4.mono X3.out.size))
    have RS := rs_spec t t.length (Nat.le_refl _)
    rw [List.take_length] at RS
    have SM := Aside0.mk (same_sorted (HPS.out.1.trans RS.2.symm) HPS.out.2 RS.1)
    have LR : (rsL t t.length).length = s.length := by rw [rs_len (Nat.le_refl _), HSL.out]
    have C := All_true A2 c2 s A4 c4 (rsL t t.length) w4 (own_reads_of' (by have q := HO4.out; exact q)) (own_reads_of' HQ4.out) LR (by rw [HSL.out]; omega) SM.out
    rw [HSL.out] at C
    have HC := Aside0.mk C
    clear b4 ho4 RS LR C HO3
    go_wp2_with fail
    refine HC.out.mono ?_
    rintro e w5 ⟨rfl, d5⟩
    have B5 := Aside0.mk (below_step B4.out d5.below)
    have HO5 := Aside0.mk (pw_own_below HO4.out d5.below)
    have X5 := Aside0.mk (X4.out.trans (d5.below.mono X4.out.size))
    clear d5 HC HO4 HQ4 SM
    go_wp2_with fail
    refine (Top_calls A c t w5 (HR.out.below B5.out) (by omega)).mono ?_
    rintro e w_ ⟨rfl, hw_⟩
    rw [hw_]
    clear hw_ w_
    obtain ⟨T, hT⟩ : ∃ T, topN t t.length = T := ⟨_, rfl⟩
    have HT := Aside0.mk hT
    rw [hT]
    clear hT
    have eT : ((T : Int) != T) = false := by simp
    go_wp2_with fail
    refine (RTop_calls A c t w5 (HR.out.below B5.out) (by omega)).mono ?_
    rintro e w6 ⟨rfl, d6⟩
    rw [HT.out]
    have B6 := Aside0.mk (below_step B5.out d6.below)
    have HO6 := Aside0.mk (pw_own_below HO5.out d6.below)
    have X6 := Aside0.mk (X5.out.trans (d6.below.mono X5.out.size))
    clear d6 HO5
    go_wp2_with fail
    clear eT
    go_loopg [9] t.length (fun gk v9 w' => ∃ (i : Nat) (ls : List F64), v9 = .int .i64 (i : Int) ∧ Aside0 (i + gk = t.length ∧ ls.length = t.length) ∧ Aside0 (OwnF w1.heap.size w' A2 c2 ls) ∧ Aside0 (Below w1.heap.size w1 w'))
    case atStart => exact ⟨0, s, rfl, ⟨by omega, HSL.out⟩, HO6, X6⟩
    case round =>
      obtain ⟨i, ls, rfl, hk, HO, HX⟩ := hrel
      have hkk := hk.out
      have wi : IntKind.i64.wrap ((i : Int) + 1) = ((i + 1 : Nat) : Int) := by rw [IntKind.wrap_i64]; omega
      by_cases hi : i < t.length
      · have d1 : decide ((i : Int) < (t.length : Int)) = true := decide_eq_true (by omega)
        have d1' : decide (i < t.length) = true := decide_eq_true hi
        have i0 : (0 : Int) ≤ (i : Int) := by omega
        have i9 : (i : Int) < (t.length : Int) := by omega
        have hst := fun (a : Addr) (v : Nat) (m : Mode) (w : World) => run_store Try.prog w a (.float .f64 v) m rfl
        obtain ⟨g, hA, hg⟩ : ∃ g, A2 = some ⟨g, 0, none⟩ ∧ w1.heap.size ≤ g := by
          rcases HO.out.2 with ⟨h, _⟩ | ⟨g, cap, cur, h, hg, _⟩
          · injection h; omega
          · injection h with h1 _ _; exact ⟨g, h1, hg⟩
        subst hA
        have PUT := own_put_of (enc := encF) HO.out (i : Int) ⟨4619567317775286272, sevenF⟩
        rw [Int.toNat_natCast] at PUT
        have HP : Aside0 (OwnF w1.heap.size (wr.setCell ⟨g, i, none⟩ (.float .f64 4619567317775286272)) (some ⟨g, 0, none⟩) c2 (ls.set i ⟨4619567317775286272, sevenF⟩)) := ⟨by
          have e : (ls.set i (⟨4619567317775286272, sevenF⟩ : F64)).length = ls.length := by simp
          rw [← e] at PUT
          exact PUT⟩
        have HXX : Aside0 (Below w1.heap.size w1 (wr.setCell ⟨g, i, none⟩ (.float .f64 4619567317775286272))) := ⟨below_set HX.out hg⟩
        have LS : Aside0 ((ls.set i (⟨4619567317775286272, sevenF⟩ : F64)).length = t.length) := ⟨by rw [List.length_set]; exact hkk.2⟩
        obtain ⟨g2, hcell, hfr⟩ : ∃ x, wr.cell? ⟨g, i, none⟩ = some x ∧ wr.frozen? ⟨g, i, none⟩ = false := by
          obtain ⟨g', cap, hv, _, _, _, _, _, hH⟩ := Go.Lib.holds_of_ownsRow (zs := ls) HO.out (by intro q; cases q)
          injection hv with q _ _
          injection q with q
          injection q with q
          subst q
          have r := hH i (by rw [List.size_toArray]; omega)
          rw [Nat.zero_add] at r
          exact ⟨_, r.1, r.2⟩
        have HK : Aside0 (i + 1 + (gk - 1) = t.length ∧ gk - 1 < gk) := ⟨by omega⟩
        clear PUT hkk hk hi HO HX hg
        go_wp2_with fail
        try rw [wi]
        go_roundg (gk - 1)
        case measure => have := HK.out; omega
        case rel => exact ⟨i + 1, _, rfl, ⟨HK.out.1, LS.out⟩, HP, HXX⟩
      · have d1 : decide ((i : Int) < (t.length : Int)) = false := decide_eq_false (by omega)
        have d1' : decide (i < t.length) = false := decide_eq_false hi
        have BW := Aside0.mk (below_step B1.out HX.out)
        have C := Aside0.mk (All_true A c t A1 c1_ t wr (HR.out.below BW.out) (own_reads_of' (pw_own_below HO1.out HX.out)) rfl (by omega) (fun _ _ => same_refl _))
        clear hkk hk hi
        go_wp2_with fail
        refine C.out.mono ?_
        rintro e w7 ⟨rfl, d7⟩
        have B7 := Aside0.mk (below_step BW.out d7.below)
        clear d7 C
        go_wp2_with fail
        refine (fixed_calls w7).mono ?_
        rintro e w8 ⟨rfl, b8⟩
        have B8 := Aside0.mk (below_step B7.out b8)
        clear b8
        go_wp2
        go_ret
        exact ⟨rfl, B8.out⟩
end Go.Proofs.Ytkkfckfmjhfakaa.Hand
