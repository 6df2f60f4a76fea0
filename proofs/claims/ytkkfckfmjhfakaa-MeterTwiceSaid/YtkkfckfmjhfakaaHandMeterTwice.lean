/- Floats and the meter: contracts by hand, and the laws over them. -/
import Derived.Test.YtkkfckfmjhfakaaOwn
import Derived.Test.YtkkfckfmjhfakaaFx
import Derived.Test.YtkkfckfmjhfakaaPla
namespace Go.Proofs.Ytkkfckfmjhfakaa.Hand
open Go Go.RowKit Go.Proofs.YtkkfckfmjhfakaaW.PrintWords Go.Proofs.YtkkfckfmjhfakaaW.PrintLast Go.Proofs.YtkkfckfmjhfakaaW.PrintMore Go.Proofs.Ytkkfckfmjhfakaa.Mth Go.Proofs.Ytkkfckfmjhfakaa.Own Go.Proofs Go.Proofs.Ytkkfckfmjhfakaa.Mt
set_option linter.unusedVariables false
set_option linter.unusedSimpArgs false
open Go.Sort
theorem getD_mem {l : List F64} {k : Nat} (h : k < l.length) : l.getD k default ∈ l := by
  rw [List.getD_eq_getElem?_getD, List.getElem?_eq_getElem h]; exact List.getElem_mem h
theorem mem_getD {l : List F64} {x : F64} (h : x ∈ l) : ∃ k, k < l.length ∧ l.getD k default = x := by
  obtain ⟨k, hk, e⟩ := List.getElem_of_mem h
  exact ⟨k, hk, by rw [List.getD_eq_getElem?_getD, List.getElem?_eq_getElem hk]; exact e⟩
theorem sortedL_get {l : List F64} (h : SortedL l) {i j : Nat} (hij : i ≤ j) (hj : j < l.length) : ltF (l.getD j default) (l.getD i default) = false := by
  rcases Nat.lt_or_ge i j with q | q
  · have := List.pairwise_iff_getElem.1 h i j (by omega) hj q
    rw [List.getD_eq_getElem?_getD, List.getD_eq_getElem?_getD, List.getElem?_eq_getElem hj, List.getElem?_eq_getElem (by omega : i < l.length)]
    exact this
  · obtain rfl : i = j := by omega
    exact ltF_irr _
theorem top_last {l s : List F64} {t : Nat} (ht : t < l.length) (h1 : ∀ k, k < l.length → ltF (l.getD t default) (l.getD k default) = false) (hp : s.Perm l) (hs : SortedL s) : sameB (l.getD t default).1 (s.getD (l.length - 1) default).1 = true := by
  have hl := hp.length_eq
  rw [same_key]
  refine key_of_not ?_ ?_
  · obtain ⟨k, hk, e⟩ := mem_getD (hp.mem_iff.1 (getD_mem (l := s) (k := l.length - 1) (by omega)))
    rw [← e]; exact h1 k hk
  · obtain ⟨k, hk, e⟩ := mem_getD (hp.mem_iff.2 (getD_mem ht))
    rw [← e]; exact sortedL_get hs (by omega) (by omega)
def cS (x : F64) (l : List F64) (k : Nat) : Nat := (l.take k).countP (fun y => sameB y.1 x.1)
theorem cS_step {x : F64} {l : List F64} {k : Nat} (h : k < l.length) : cS x l (k + 1) = cS x l k + (if sameB (l.getD k default).1 x.1 then 1 else 0) := by
  unfold cS
  rw [takeF h, List.countP_append, List.countP_cons, List.countP_nil]
  omega
theorem cS_le (x : F64) (l : List F64) (k : Nat) : cS x l k ≤ k := Nat.le_trans List.countP_le_length (by rw [List.length_take]; omega)
theorem cS_perm {x : F64} {l s : List F64} (hp : s.Perm l) {n : Nat} (hn : l.length = n) : cS x s n = cS x l n := by
  unfold cS
  rw [List.take_of_length_le (by rw [hp.length_eq]; omega), List.take_of_length_le (by omega)]
  exact hp.countP_eq _
set_option maxHeartbeats 32000000 in
set_option maxRecDepth 100000 in
theorem MeterTwice (A : Option Addr) (c : Nat) (l : List Nat) (w : World) (hle : l.length ≤ c) (hmx : c ≤ 9223372036854775807) (hgd : ∀ a ∈ l, (Lit.float .f64 a).wf = true) (hr : ReadsOf (Value.float .f64) 0 w A l.length l) :
    Calls Try.prog 7 #[.slice A l.length c] w fun e w' => e = .returned (.bool true) ∧ Below w.heap.size w w' := by
  obtain ⟨L, hL, hrL⟩ := reads_F hr (fun x hx => by simpa [Lit.wf] using hgd x hx)
  rw [← hL] at hle ⊢
  have HR := Aside0.mk (take_lenF hrL 60)
  have tl : (L.take 60).length ≤ 60 := by rw [List.length_take]; omega
  have tc : (L.take 60).length ≤ c := by rw [List.length_take]; omega
  have te : (min (L.length : Int) 60).toNat = (L.take 60).length := by rw [List.length_take]; omega
  clear hgd hr hL hrL
  obtain ⟨t, ht⟩ : ∃ t, L.take 60 = t := ⟨_, rfl⟩
  have HT : Aside0 (min 60 L.length = t.length) := ⟨by rw [← ht, List.length_take]⟩
  rw [ht] at HR tl tc te
  clear ht
  go_enter Try.func7, Try.ntmps7
  go_wp2_with fail
  try rw [HT.out]
  clear te HT
  refine (Sort_big A c t w HR.out (by omega)).mono ?_
  rintro e w1 ⟨A1, c1, s, rfl, hsl, ho, hp, hs, b1⟩
  have HSL := Aside0.mk hsl
  have HPS := Aside0.mk (And.intro hp hs)
  have HO1 := Aside0.mk ho
  have B1 := Aside0.mk b1
  clear hsl ho hp hs b1
  have e0 : ((t.length : Int) != (t.length : Int)) = false := by simp
  have CS := Sort_big A1 c1 s w1 (own_reads_of' HO1.out) (by rw [HSL.out]; omega)
  rw [HSL.out] at CS
  have HCS := Aside0.mk CS
  clear CS
  go_wp2_with fail
  clear e0
  refine HCS.out.mono ?_
  rintro e w2 ⟨A2, c2, s2, rfl, hsl, ho, hp, hs, b2⟩
  have B2 := Aside0.mk (below_step B1.out b2)
  have HO2 := Aside0.mk (pw_own_below HO1.out b2)
  have CA := All_true A2 c2 s2 A1 c1 s w2 (own_reads_of' ho) (own_reads_of' HO2.out) (by rw [hsl, HSL.out]) (by rw [hsl]; omega) (same_sorted hp hs HPS.out.2)
  rw [hsl, HSL.out] at CA
  have HCA := Aside0.mk CA
  clear hsl ho hp hs b2 CA HCS HO1
  go_wp2_with fail
  refine HCA.out.mono ?_
  rintro e w3 ⟨rfl, d3⟩
  have B3 := Aside0.mk (below_step B2.out d3.below)
  have HO3 := Aside0.mk (pw_own_below HO2.out d3.below)
  clear d3 HCA HO2
  go_wp2_with fail
  refine (Top_calls A c t w3 (HR.out.below B3.out) (by omega)).mono ?_
  rintro e w_ ⟨rfl, hw_⟩
  rw [hw_]
  clear hw_ w_
  by_cases h0 : t.length = 0
  · have E0 := Aside0.mk h0
    have T0 : Aside0 (topN t t.length = -1) := ⟨by rw [h0]; rfl⟩
    have z1 : ((t.length : Int) == 0) = true := by rw [h0]; rfl
    rw [T0.out]
    clear h0 T0
    go_wp2_with fail
    refine (fixed_calls w3).mono ?_
    rintro e w4 ⟨rfl, b4⟩
    have B4 := Aside0.mk (below_step B3.out b4)
    clear b4
    go_wp2
    go_ret
    exact ⟨rfl, B4.out⟩
  · rcases top_spec t t.length (Nat.le_refl _) with ⟨h, _⟩ | ⟨T, eT, hT, h1, h2⟩
    · exact absurd h h0
    rw [eT]
    have z1 : ((t.length : Int) == 0) = false := beq_eq_false_iff_ne.2 (by omega)
    have z2 : decide ((T : Int) < 0) = false := decide_eq_false (by omega)
    have z3 : decide ((t.length : Int) ≤ (T : Int)) = false := decide_eq_false (by omega)
    have z3' : decide (t.length ≤ T) = false := decide_eq_false (by omega)
    have z4 : (0 : Int) ≤ (T : Int) := by omega
    have z5 : (T : Int) < (t.length : Int) := by omega
    obtain ⟨p, hp⟩ : ∃ p, t.length - 1 = p := ⟨_, rfl⟩
    have z6 : (t.length : Int) - 1 = (p : Int) := by omega
    have z7 : IntKind.i64.wrap (p : Int) = (p : Int) := by rw [IntKind.wrap_i64]; omega
    have z8 : (0 : Int) ≤ (p : Int) := by omega
    have z9 : (p : Int) < (t.length : Int) := by omega
    have TL := top_last hT h1 HPS.out.1 HPS.out.2
    rw [hp] at TL
    obtain ⟨ad, hA, g1⟩ := (HR.out.below B3.out).2.2 (by omega)
    obtain ⟨ad1, hA1, g2⟩ := (own_reads_of' (d := default) HO3.out).2.2 (by rw [HSL.out]; omega)
    have LT : Aside0 (∀ k, k < t.length → w3.cell? (ad.add k) = some (.float .f64 (t.getD k default).1)) := ⟨g1⟩
    have LS : Aside0 (∀ k, k < t.length → w3.cell? (ad1.add k) = some (.float .f64 (s.getD k default).1)) := ⟨fun k hk => g2 k (by rw [HSL.out]; exact hk)⟩
    clear g1 g2
    subst hA hA1
    have k1 := LT.out T hT
    have k2 := LS.out p (by omega)
    have CSM := Aside0.mk (fun W => same_q (t.getD T default) (s.getD p default) rfl rfl W)
    rw [TL] at CSM
    obtain ⟨x, hx⟩ : ∃ x, (t.getD T default).1 = x := ⟨_, rfl⟩
    obtain ⟨y, hy⟩ : ∃ y, (s.getD p default).1 = y := ⟨_, rfl⟩
    rw [hx] at k1 CSM
    rw [hy] at k2 CSM
    clear hx hy hp h0 eT hT h1 h2 TL
    go_wp2_with fail
    go_quiet (first | (go_at_call 11; exact Calls.quiet_of (CSM.out _)))
    clear k1 k2 z2 z3 z3' z4 z5 z6 z7 z8 z9
    have D4 : Aside0 (Dr w3 (w3.drewN nq)) := ⟨⟨nq, rfl⟩⟩
    generalize w3.drewN nq = w4 at D4 ⊢
    clear nq
    go_wp2_with fail
    clear z1
    go_loopg [5] t.length (fun gk v5 w' => ∃ i : Nat, v5 = .int .i64 (i : Int) ∧ Aside0 (i + gk = t.length) ∧ Aside0 (Dr w3 w'))
    case atStart => exact ⟨0, rfl, ⟨by omega⟩, D4⟩
    case round =>
      clear D4
      obtain ⟨i, rfl, hk, HD⟩ := hrel
      have hkk := hk.out
      have wi : IntKind.i64.wrap ((i : Int) + 1) = ((i + 1 : Nat) : Int) := by rw [IntKind.wrap_i64]; omega
      by_cases hi : i < t.length
      · have d1 : decide ((i : Int) < (t.length : Int)) = true := decide_eq_true (by omega)
        have d1' : decide (i < t.length) = true := decide_eq_true hi
        have i0 : (0 : Int) ≤ (i : Int) := by omega
        have i9 : (i : Int) < (t.length : Int) := by omega
        have HI := Aside0.mk hi
        obtain ⟨X, hX⟩ : ∃ X, t.getD i default = X := ⟨_, rfl⟩
        have HX := Aside0.mk hX
        obtain ⟨x, hx⟩ : ∃ x, X.1 = x := ⟨_, rfl⟩
        have Hx := Aside0.mk hx
        obtain ⟨G, rfl⟩ : ∃ G, G = gk := ⟨gk, rfl⟩
        clear hkk hi hX hx
        go_wp2_with fail
        go_loopg [6, 7, 8] t.length (fun gk v6 v7 v8 w' => ∃ (k na nb : Nat), v8 = .int .i64 (k : Int) ∧ v6 = .int .i64 (na : Int) ∧ v7 = .int .i64 (nb : Int) ∧ Aside0 (k + gk = t.length ∧ na = cS X t k ∧ nb = cS X s k) ∧ Aside0 (Dr w3 w'))
        case atStart => exact ⟨0, 0, 0, rfl, rfl, rfl, ⟨by omega, rfl, rfl⟩, HD⟩
        case round =>
          clear HD
          obtain ⟨k, na, nb, rfl, rfl, rfl, hk2, HD⟩ := hrel
          have hkk := hk2.out
          have wk : IntKind.i64.wrap ((k : Int) + 1) = ((k + 1 : Nat) : Int) := by rw [IntKind.wrap_i64]; omega
          have DC : ∀ a, wr.cell? a = w3.cell? a := fun a => by obtain ⟨m, hm⟩ := HD.out; rw [hm]; rfl
          by_cases hlt : k < t.length
          · have d2 : decide ((k : Int) < (t.length : Int)) = true := decide_eq_true (by omega)
            have d2' : decide (k < t.length) = true := decide_eq_true hlt
            have k0 : (0 : Int) ≤ (k : Int) := by omega
            have k9 : (k : Int) < (t.length : Int) := by omega
            have la := cS_le X t k
            have lb := cS_le X s k
            rw [← hkk.2.1] at la
            rw [← hkk.2.2] at lb
            have wa : IntKind.i64.wrap ((na : Int) + 1) = ((na + 1 : Nat) : Int) := by rw [IntKind.wrap_i64]; omega
            have wb : IntKind.i64.wrap ((nb : Int) + 1) = ((nb + 1 : Nat) : Int) := by rw [IntKind.wrap_i64]; omega
            have cx := LT.out i HI.out
            have cy := LT.out k hlt
            have cz := LS.out k hlt
            have sa := cS_step (x := X) hlt
            have sb := cS_step (x := X) (l := s) (k := k) (by rw [HSL.out]; exact hlt)
            rw [← hkk.2.1] at sa
            rw [← hkk.2.2] at sb
            rw [HX.out, Hx.out] at cx
            obtain ⟨Y, hY⟩ : ∃ Y, t.getD k default = Y := ⟨_, rfl⟩
            obtain ⟨Z, hZ⟩ : ∃ Z, s.getD k default = Z := ⟨_, rfl⟩
            rw [hY] at cy sa
            rw [hZ] at cz sb
            have CY := Aside0.mk (fun W => same_q Y X rfl rfl W)
            have CZ := Aside0.mk (fun W => same_q Z X rfl rfl W)
            rw [Hx.out] at CY CZ
            obtain ⟨y, hy⟩ : ∃ y, Y.1 = y := ⟨_, rfl⟩
            obtain ⟨z, hz⟩ : ∃ z, Z.1 = z := ⟨_, rfl⟩
            rw [hy] at cy CY
            rw [hz] at cz CZ
            have KX : Aside0 (w3.cell? (ad.add i) = some (.float .f64 x) ∧ w3.cell? (ad1.add k) = some (.float .f64 z)) := ⟨cx, cz⟩
            have ex : wr.cell? (ad.add i) = some (.float .f64 x) := by rw [DC]; exact cx
            have ey : wr.cell? (ad.add k) = some (.float .f64 y) := by rw [DC]; exact cy
            have HK : Aside0 (k + 1 + (gk - 1) = t.length ∧ gk - 1 < gk) := ⟨by omega⟩
            rw [hy, Hx.out] at sa
            rw [hz, Hx.out] at sb
            clear hkk hk2 hlt DC cx cy cz hY hZ hy hz la lb
            cases q1 : sameB y x <;> cases q2 : sameB z x
            all_goals
              rw [q1] at CY sa
              rw [q2] at CZ sb
              have SA := Aside0.mk sa
              have SB := Aside0.mk sb
              clear q1 q2 sa sb
              go_wp2_with fail
              go_quiet (first | (go_at_call 11; exact Calls.quiet_of (CY.out _)))
              clear ex ey CY
              have HD1 := Aside0.mk (Dr.trans HD.out ⟨nq, rfl⟩)
              generalize wr.drewN nq = wq at HD1 ⊢
              clear nq
              have DC : ∀ a, wq.cell? a = w3.cell? a := fun a => by obtain ⟨m, hm⟩ := HD1.out; rw [hm]; rfl
              have ex : wq.cell? (ad.add i) = some (.float .f64 x) := by rw [DC]; exact KX.out.1
              have ey : wq.cell? (ad1.add k) = some (.float .f64 z) := by rw [DC]; exact KX.out.2
              clear DC
              go_wp2_with fail
              go_quiet (first | (go_at_call 11; exact Calls.quiet_of (CZ.out _)))
              clear ex ey CZ
              go_wp2_with fail
              try rw [wk]
              try rw [wa]
              try rw [wb]
              go_roundg (gk - 1)
              case measure => have := HK.out; omega
              case rel => exact ⟨k + 1, _, _, rfl, rfl, rfl, ⟨HK.out.1, SA.out.symm, SB.out.symm⟩, ⟨Dr.trans HD1.out ⟨_, rfl⟩⟩⟩
          · have d2 : decide ((k : Int) < (t.length : Int)) = false := decide_eq_false (by omega)
            have d2' : decide (k < t.length) = false := decide_eq_false hlt
            have eab : nb = na := by
              rw [hkk.2.1, hkk.2.2, show k = t.length by omega]
              exact cS_perm HPS.out.1 rfl
            subst eab
            have nn : ((nb : Int) != (nb : Int)) = false := by simp
            have HK : Aside0 (i + 1 + (G - 1) = t.length ∧ G - 1 < G) := ⟨by have := hk.out; have := HI.out; omega⟩
            by_cases hi0 : i = 0
            · subst hi0
              clear hkk hk2 hlt DC
              go_wp2_with fail
              go_quiet (fail)
              go_wp2_with fail
              try rw [wi]
              go_roundg (G - 1)
              case measure => have := HK.out; omega
              case rel => exact ⟨0 + 1, rfl, ⟨HK.out.1⟩, ⟨Dr.trans HD.out ⟨_, rfl⟩⟩⟩
            · have g1 : decide (0 < (i : Int)) = true := decide_eq_true (by omega)
              have g2 : decide (0 < i) = true := decide_eq_true (by omega)
              obtain ⟨j, hj⟩ : ∃ j, i - 1 = j := ⟨_, rfl⟩
              have ej : (i : Int) - 1 = (j : Int) := by omega
              have rj : IntKind.i64.wrap (j : Int) = (j : Int) := by have := HI.out; rw [IntKind.wrap_i64]; omega
              have j0 : (0 : Int) ≤ (j : Int) := by omega
              have j9 : (j : Int) < (t.length : Int) := by have := HI.out; omega
              have cx := LS.out i HI.out
              have cy := LS.out j (by have := HI.out; omega)
              have SL : ltF (s.getD i default) (s.getD j default) = false := sortedL_get HPS.out.2 (by omega) (by have := HI.out; rw [HSL.out]; omega)
              have CL : ∀ W, Calls Try.prog 16 #[.float .f64 (s.getD i default).1, .float .f64 (s.getD j default).1] W fun e w' => e = .returned (.bool (ltF (s.getD i default) (s.getD j default))) ∧ w' = W := fun W => Less_calls _ _ W (s.getD i default).2 (s.getD j default).2
              rw [SL] at CL
              obtain ⟨y, hy⟩ : ∃ y, (s.getD i default).1 = y := ⟨_, rfl⟩
              obtain ⟨z, hz⟩ : ∃ z, (s.getD j default).1 = z := ⟨_, rfl⟩
              rw [hy] at cx CL
              rw [hz] at cy CL
              have ex : wr.cell? (ad1.add i) = some (.float .f64 y) := by rw [DC]; exact cx
              have ey : wr.cell? (ad1.add j) = some (.float .f64 z) := by rw [DC]; exact cy
              have HCL := Aside0.mk CL
              clear hkk hk2 hlt DC cx cy SL CL hy hz hj hi0
              go_wp2_with fail
              go_quiet (first | (go_at_call 16; exact Calls.quiet_of_same (HCL.out _)))
              go_wp2_with fail
              try rw [wi]
              go_roundg (G - 1)
              case measure => have := HK.out; omega
              case rel => exact ⟨i + 1, rfl, ⟨HK.out.1⟩, ⟨Dr.trans HD.out ⟨_, rfl⟩⟩⟩
      · have d1 : decide ((i : Int) < (t.length : Int)) = false := decide_eq_false (by omega)
        have d1' : decide (i < t.length) = false := decide_eq_false hi
        have B4 := Aside0.mk (below_step B3.out HD.out.below)
        clear hkk hk hi
        go_wp2_with fail
        refine (fixed_calls wr).mono ?_
        rintro e w8 ⟨rfl, b8⟩
        have B8 := Aside0.mk (below_step B4.out b8)
        clear b8
        go_wp2
        go_ret
        exact ⟨rfl, B8.out⟩
end Go.Proofs.Ytkkfckfmjhfakaa.Hand
