/- A memory: its functions' contracts, by hand, and the laws over them. -/
import Derived.Test.YtllpfadjdecjiaaMemG
import Derived.Laws.Pointers
import Derived.WalkLawsBesides
import Derived.Deep.QuietTactic
import Derived.BigQuiet
import Derived.Deep.RegionWith
import Derived.Deep.RegionLaw
import Derived.Lib.BufferWrite
namespace Go.Proofs.Ytllpfadjdecjiaa.Hand
open Go Go.RowKit Go.Proofs.YtllpfadjdecjiaaW.PrintWords Go.Proofs.YtllpfadjdecjiaaW.PrintLast Go.Proofs.YtllpfadjdecjiaaW.PrintMore Go.Proofs.Ytllpfadjdecjiaa.Own Go.Proofs.Ytllpfadjdecjiaa.P Go.Proofs.Ytllpfadjdecjiaa Go.Proofs.Ytllpfadjdecjiaa.Mem
set_option linter.unusedVariables false
set_option linter.unusedSimpArgs false
theorem wpList_append_none {P : Program} {w : World} {ops : Array Oper} {rest : List Oper} {o : Oper} {a : Act} {Q : Exit → Act → World → Prop} (hgd : o.guard = none) (s x : Operand) (t e : TypeId)
    (ho : o.op = .call { callee := .builtin .append, args := #[s, x], argTypes := #[t, t] }) (ht : P.underlying t = some (.slice e)) (hi : ((P.info? e).map fun i => (i.zero, i.size, i.bytes)).isSome = true)
    (v : Value) (n size base : Nat) (cs : List Value) (hs : a.eval s = v) (hown : w.ownsRow base e size v n cs) (hx : a.eval x = .slice none 0 0)
    (h : wpList P ops Q rest (a.put o.dst v) w) : wpList P ops Q (o :: rest) a w := by
  refine wpList_plain hgd fun K hK => ?_
  have hr : (Builtin.append_ #[t, t] o.type #[v, .slice none 0 0]).run P w = .ok v w := by
    rw [Option.isSome_map] at hi
    obtain ⟨i, hi⟩ := Option.isSome_iff_exists.1 hi
    rcases hown.2 with ⟨rfl, _⟩ | ⟨g, cap, cur, rfl, _, _, hc, _⟩
    · simp [Builtin.append_, run_underlying ht, sizeOf, typeInfo, hi, Builtin.lenOf, Builtin.firstCells, loadCells, loadCellsFrom]
    · simp [Builtin.append_, run_underlying ht, sizeOf, typeInfo, hi, Builtin.lenOf, Builtin.firstCells, storeCells, hc]
  unfold Oper.wp execOp
  simp only [ho, resolve, invoke, builtin, Sem.run_bind, Sem.run_pure, Result.andThen_ok, List.map_toArray, List.map_cons, List.map_nil, hs, hx, hr]
  exact hK _ _ h
theorem noted4 (log : List S49) (who a : Int) (b : Bool) : noted log who a 4 b = log ++ [⟨who, a, 4, b⟩] := by
  unfold noted; rw [if_neg (by decide)]
theorem rowA_snoc (l : List S49) (x : S49) : rowA (l ++ [x]) = rowA l ++ encA x := by simp [rowA]
theorem rowA_app (l m : List S49) : rowA (l ++ m) = rowA l ++ rowA m := by simp [rowA]
set_option maxHeartbeats 16000000 in
set_option maxRecDepth 100000 in
theorem MemLogs (A0 : Option Addr) (c0 : Nat) (ps : List Int) (A1 : Option Addr) (c1 : Nat) (qs : List Int) (w : World)
    (le0 : ps.length ≤ c0) (mx0 : c0 ≤ 9223372036854775807) (gd0 : ∀ a ∈ ps, (Lit.int .i64 a).wf = true) (rd0 : ReadsOf (Value.int .i64) 0 w A0 ps.length ps)
    (le1 : qs.length ≤ c1) (mx1 : c1 ≤ 9223372036854775807) (gd1 : ∀ a ∈ qs, (Lit.int .i64 a).wf = true) (rd1 : ReadsOf (Value.int .i64) 0 w A1 qs.length qs) :
    Calls Try.prog 8 #[.slice A0 ps.length c0, .slice A1 qs.length c1] w fun e w' => e = .returned (.bool true) ∧ Below w.heap.size w w' := by
  have R0 := Aside0.mk rd0
  have R1 := Aside0.mk rd1
  have hq63 : qs.length ≤ 9223372036854775807 := by omega
  clear rd0 rd1 gd0 gd1 le0 le1 mx0 mx1
  go_enter Try.func8, Try.ntmps8
  go_wp2_with fail
  refine (New_ok 64 w (by decide) (by decide)).mono ?_
  rintro e w1 ⟨g, vb, rfl, hm, hb, hg, hv⟩
  have L0 : Aside0 (St w w1 g vb (.slice none 0 0) (zeros 64) 0 []) := ⟨hm, hb, hg, hv, fun k hk => by simp [Value.ownBlock] at hk, by rw [zeros_size]; decide, by rw [zeros_size]; decide⟩
  clear hm hb hg hv
  go_wp2_with fail
  have start : Lg w ((w1.alloc (.cells #[] 49)).alloc (.cells #[] 49)) g vb (.slice none 0 0) (.slice (some ⟨w1.heap.size, 0, none⟩) 0 0) (.slice (some ⟨w1.heap.size + 1, 0, none⟩) 0 0) (zeros 64) 0 [] [] [] := by
    have o1 := World.ownsRow_lit (base := 0) (e := 49) (size := 4) w1 #[] 0 (Nat.zero_le _) (by decide) rfl
    have o2 := World.ownsRow_lit (base := 0) (e := 49) (size := 4) (w1.alloc (.cells #[] 49)) #[] 0 (Nat.zero_le _) (by decide) rfl
    rw [World.size_alloc] at o2
    have t := L0.out
    refine ⟨⟨(t.ln.beside (below_alloc (below_alloc (Below.refl _ _) _) _)), below_alloc (below_alloc t.bel _) _, t.hg, t.hb, t.hl, t.z, t.m⟩, o1.alloc _, o2, ?_, ?_, ?_, ?_, ?_⟩
    · intro k hk hk2
      simp only [Value.ownBlock, Option.some.injEq] at hk hk2
      omega
    · intro k hk; simp [Value.ownBlock] at hk
    · intro k hk; simp [Value.ownBlock] at hk
    · intro k hk
      simp only [Value.ownBlock, Option.some.injEq] at hk
      have := t.bel.size
      omega
    · intro k hk
      simp only [Value.ownBlock, Option.some.injEq] at hk
      have := t.bel.size
      omega
  have START := Aside0.mk start
  clear start L0
  go_loopg [7, 8, 9, 10] 60 (fun k v7 v8 v9 v10 w' => ∃ (i : Nat) (vb vl : Value) (s : ByteArray) (who : Int) (log want got : List S49), v9 = .int .i64 (i : Int) ∧ Aside0 (i + k = 60) ∧ Aside0 (Lg w w' g vb vl v7 v8 s who log want got) ∧ Aside0 (want = got ++ log) ∧ Aside0 (s.size = 64) ∧ Aside0 (want.length ≤ i))
  case atStart => exact ⟨0, vb, _, _, _, [], [], [], rfl, ⟨rfl⟩, START, ⟨rfl⟩, ⟨zeros_size 64⟩, ⟨Nat.le_refl _⟩⟩
  case round =>
    clear START
    obtain ⟨i, vb, vl, s, who, log, want, got, rfl, hk, L, W, Z, hlen⟩ := hrel
    have hkk := hk.out
    have lw : log.length ≤ 60 := by have h1 := congrArg List.length W.out; rw [List.length_append] at h1; have := hlen.out; omega
    have lg : got.length ≤ 60 := by have h1 := congrArg List.length W.out; rw [List.length_append] at h1; have := hlen.out; omega
    have lwant : want.length ≤ 60 := by have := hlen.out; omega
    have wi : IntKind.i64.wrap ((i : Int) + 1) = ((i + 1 : Nat) : Int) := by rw [IntKind.wrap_i64]; omega
    by_cases hc : i < ps.length ∧ i < 60
    · have d1 : decide ((i : Int) < (ps.length : Int)) = true := decide_eq_true (by omega)
      have d2 : decide ((i : Int) < 60) = true := decide_eq_true (by omega)
      have R := R0.out.below L.out.m.bel
      obtain ⟨ad, rfl, hcell⟩ := R.at_ (i : Int) (by omega) (by omega)
      have i0 : decide (0 ≤ (i : Int)) = true := decide_eq_true (by omega)
      obtain ⟨x, hx⟩ : ∃ x : Int, rdOf 0 ps (i : Int) = x := ⟨_, rfl⟩
      rw [hx, Int.toNat_natCast] at hcell
      clear R
      have ea : Go.bits .and .i64 x 31 = x % 32 := Mth.and_i64 x 5 (by decide)
      obtain ⟨a, ha, a1⟩ : ∃ a : Nat, x % 32 = (a : Int) ∧ a ≤ 31 := ⟨(x % 32).toNat, by omega, by omega⟩
      rw [ha] at ea
      clear ha
      obtain ⟨kk, rfl⟩ : ∃ m, gk = m + 1 := ⟨gk - 1, by omega⟩
      have LW := Aside0.mk (And.intro lw (And.intro lg lwant))
      have A1 := Aside0.mk a1
      clear lw lg lwant a1
      go_wp2_with fail
      refine (As g vb vl s who log (i : Int) wr L.out.m.ln).mono ?_
      rintro e w2 ⟨rfl, m2, u2⟩
      have L2 := Aside0.mk (L.out.step m2 rfl u2 (.inl rfl))
      clear m2 u2 L
      go_wp2_with fail
      refine (May_yes g vb vl s i log a 5 w2 L2.out.m.m (by omega) (by decide) (by rw [Z.out]; have := A1.out; omega) L2.out.m.ln).mono ?_
      rintro e w3 ⟨rfl, rfl⟩
      obtain ⟨b, hb⟩ : ∃ b : Bool, ((i : Int) % 2 == 0) = b := ⟨_, rfl⟩
      have key : ∃ (s' : ByteArray), s'.size = 64 ∧ (b = true → Calls Try.prog 19 #[ptr g, .int .i64 (a : Int), .int .i64 4, .int .u64 7] w3 fun e w' => e = .returned (.int .i64 0) ∧ ∃ vl', Lg w w' g vb vl' u7 u8 s' i (log ++ [⟨i, a, 4, b⟩]) want got) ∧
          (b = false → ∃ t, Calls Try.prog 11 #[ptr g, .int .i64 (a : Int), .int .i64 4] w3 fun e w' => e = .returned (.tuple #[.string t, .int .i64 0]) ∧ ∃ vl', Lg w w' g vb vl' u7 u8 s' i (log ++ [⟨i, a, 4, b⟩]) want got) := by
        cases b with
        | true =>
          have sz : (over s (le 4 7) a).size = 64 := by rw [over_size _ _ _ (by rw [le_size, Z.out]; have := A1.out; omega), Z.out]
          refine ⟨over s (le 4 7) a, sz, fun _ => ?_, fun h => (by cases h)⟩
          refine (storeR a A1.out (by have := LW.out.1; omega) L2.out.m).mono ?_
          rintro e w' ⟨rfl, vl', h3, u3, f3⟩
          rw [noted4] at h3
          exact ⟨rfl, vl', L2.out.step h3 (by rw [sz, Z.out]) u3 f3⟩
        | false =>
          refine ⟨s, Z.out, fun h => (by cases h), fun _ => ⟨s.extract a (a + 4), ?_⟩⟩
          refine (Read_ok g vb vl s i log a 4 w3 L2.out.m.z L2.out.m.m (by rw [Z.out]; have := A1.out; omega) (by have := LW.out.1; omega) L2.out.m.ln).mono ?_
          rintro e w' ⟨rfl, vl', h3, u3, f3⟩
          have e4 : noted log (i : Int) (a : Int) ((4 : Nat) : Int) false = log ++ [⟨i, a, 4, false⟩] := noted4 _ _ _ _
          rw [e4] at h3
          exact ⟨rfl, vl', L2.out.step h3 rfl u3 f3⟩
      obtain ⟨s', z', kt, kf⟩ := key
      have Z' := Aside0.mk z'
      have KT := Aside0.mk kt
      have KF := Aside0.mk kf
      clear kt kf z' L2 Z
      cases b with
      | true =>
        have kt2 := KT.out rfl
        clear KT KF
        have KT2 := Aside0.mk kt2
        clear kt2
        go_wp2_with fail
        refine KT2.out.mono ?_
        rintro e w4 ⟨rfl, vl', h4⟩
        have L4 := Aside0.mk h4
        clear h4
        have LL := Aside0.mk (show (log ++ [(⟨i, a, 4, true⟩ : S49)]).length ≤ 61 by rw [List.length_append, List.length_singleton]; have := LW.out.1; omega)
        have LN := Aside0.mk (show (want ++ [(⟨i, a, 4, true⟩ : S49)]).length ≤ i + 1 by rw [List.length_append, List.length_singleton]; have := hlen.out; omega)
        have WN := Aside0.mk (show want ++ [(⟨i, a, 4, true⟩ : S49)] = got ++ (log ++ [⟨i, a, 4, true⟩]) by rw [W.out, List.append_assoc])
        by_cases hq : qs.length = 0
        · have q0 : decide ((0 : Int) < (qs.length : Int)) = false := decide_eq_false (by omega)
          have q0n : decide (0 < qs.length) = false := decide_eq_false (by omega)
          clear hq
          go_wp2_with (at_builtin; refine print_append_cells (w0 := w4) 0 rfl (.tmp 53) (.tmp 60) 45 49 (.agg #[.int .i64 0, .int .i64 0, .int .i64 0, .bool false]) 4 32 rfl Try.underlying45 infoA rfl (by decide) (by decide) u7 want.length (rowA want) (encA ⟨i, a, 4, true⟩) rfl rfl rfl (by intro u hu; simp at hu; rcases hu with rfl | rfl | rfl | rfl <;> rfl) L4.out.ow (Below.refl 0 w4) (Nat.zero_le _) (by have := LW.out.2.2; omega) ?_; intro v1 w5 ho1 hb1 hg1 hf1; obtain ⟨A9, c9, rfl⟩ := own_slice ho1; have L5 := Aside0.mk (L4.out.growW (want' := want ++ [⟨i, a, 4, true⟩]) (by rw [rowA_snoc, List.length_append]; exact ho1) hg1 hf1); clear ho1 hb1 hg1 hf1)
          refine (Image g vb vl' s' i _ w5 L5.out.m.ln).mono ?_
          rintro e wz ⟨rfl, rfl⟩
          go_wp2_with fail
          try rw [wi]
          go_roundg kk
          case measure => omega
          case rel => exact ⟨i + 1, vb, vl', s', i, _, _, got, rfl, ⟨by omega⟩, L5, WN, Z', LN⟩
        · have q0 : decide ((0 : Int) < (qs.length : Int)) = true := decide_eq_true (by omega)
          have nz : ((qs.length : Int) == 0) = false := beq_eq_false_iff_ne.mpr (by omega)
          obtain ⟨j, hj, jl⟩ : ∃ j : Nat, (i : Int) % (qs.length : Int) = (j : Int) ∧ j < qs.length := ⟨i % qs.length, (Int.natCast_emod i qs.length).symm, Nat.mod_lt _ (by omega)⟩
          obtain ⟨ad1, rfl, -⟩ := R1.out.at_ (j : Int) (by omega) (by omega)
          obtain ⟨y, hy⟩ : ∃ y : Int, rdOf 0 qs (j : Int) = y := ⟨_, rfl⟩
          have CELL := Aside0.mk fun (W : World) (hW : Below w.heap.size w W) => (show W.cell? (ad1.add j) = some (.int .i64 y) from by
            obtain ⟨ad2, e2, h2⟩ := (R1.out.below hW).at_ (j : Int) (by omega) (by omega)
            obtain rfl := Option.some.inj e2
            rw [hy, Int.toNat_natCast] at h2
            exact h2)
          have j0 : decide (0 ≤ (j : Int)) = true := decide_eq_true (by omega)
          have j1 : decide ((j : Int) < (qs.length : Int)) = true := decide_eq_true (by omega)
          have ey : Go.bits .and .i64 y 1 = y % 2 := Mth.and_i64 y 1 (by decide)
          by_cases hy1 : y % 2 = 1
          · rw [hy1] at ey
            go_wp2_with (at_builtin; refine print_append_cells (w0 := w4) 0 rfl (.tmp 53) (.tmp 60) 45 49 (.agg #[.int .i64 0, .int .i64 0, .int .i64 0, .bool false]) 4 32 rfl Try.underlying45 infoA rfl (by decide) (by decide) u7 want.length (rowA want) (encA ⟨i, a, 4, true⟩) rfl rfl rfl (by intro u hu; simp at hu; rcases hu with rfl | rfl | rfl | rfl <;> rfl) L4.out.ow (Below.refl 0 w4) (Nat.zero_le _) (by have := LW.out.2.2; omega) ?_; intro v1 w5 ho1 hb1 hg1 hf1; obtain ⟨A9, c9, rfl⟩ := own_slice ho1; have L5 := Aside0.mk (L4.out.growW (want' := want ++ [⟨i, a, 4, true⟩]) (by rw [rowA_snoc, List.length_append]; exact ho1) hg1 hf1); have hcl := CELL.out w5 L5.out.m.bel; clear ho1 hb1 hg1 hf1)
            refine (Log g vb vl' s' i _ w5 (by have := LL.out; omega) L5.out.m.ln).mono ?_
            rintro e w6 ⟨v6, rfl, ho6, m6, u6⟩
            have L6 := Aside0.mk (L5.out.step m6 rfl u6 (.inr fun b hb => by simp [Value.ownBlock] at hb))
            rw [List.length_append, List.length_singleton] at ho6
            rcases ho6.2 with ⟨-, hz0⟩ | ⟨b6, c6, cur6, rfl, -, -, hn6, -, -, -⟩
            · exact absurd hz0 (by simp)
            obtain ⟨iA, hi0, hi1, hi2, hi3⟩ := info49
            have hnews := World.ownsRow.cells ho6 (g := b6) rfl
            clear m6 u6
            go_wp2_with (at_builtin; refine wpList_append_own_at (w := w6) rfl (.tmp 76) (.tmp 78) 45 rfl 0 49 iA (.agg #[.int .i64 0, .int .i64 0, .int .i64 0, .bool false]) 4 32 Try.underlying45 hi0 hi1 hi2 hi3 rfl (by decide) u8 got.length (rowA got) rfl L6.out.og ⟨b6, 0, none⟩ (log.length + 1) c6 (rowA (log ++ [⟨i, a, 4, true⟩])) rfl (by rw [rowA_len, List.length_append, List.length_singleton]) hnews (rowA_one _) (by have h1 := LW.out.1; have h2 := LW.out.2.1; unfold maxLen; omega) (by have h1 := LW.out.1; have h2 := LW.out.2.1; omega) (Nat.zero_le _) ?_; intro v7 w7 ho7 hg7 hn7 hf7; obtain ⟨A7, c7, rfl⟩ := own_slice ho7; have L7 := Aside0.mk (L6.out.growG (got' := got ++ (log ++ [⟨i, a, 4, true⟩])) (by rw [rowA_app, List.length_append, List.length_append, List.length_singleton]; exact ho7) hg7 (hf7.imp id fun e => ⟨_, e, Nat.le_refl _⟩)); clear ho7 hg7 hn7 hf7)
            refine (Image g vb _ s' i _ w7 L7.out.m.ln).mono ?_
            rintro e wz ⟨rfl, rfl⟩
            go_wp2_with fail
            try rw [wi]
            go_roundg kk
            case measure => omega
            case rel => exact ⟨i + 1, vb, _, s', i, [], _, _, rfl, ⟨by omega⟩, L7, ⟨by rw [WN.out, List.append_nil]⟩, Z', LN⟩
          · have hy0 : y % 2 = 0 := by omega
            rw [hy0] at ey
            go_wp2_with (at_builtin; refine print_append_cells (w0 := w4) 0 rfl (.tmp 53) (.tmp 60) 45 49 (.agg #[.int .i64 0, .int .i64 0, .int .i64 0, .bool false]) 4 32 rfl Try.underlying45 infoA rfl (by decide) (by decide) u7 want.length (rowA want) (encA ⟨i, a, 4, true⟩) rfl rfl rfl (by intro u hu; simp at hu; rcases hu with rfl | rfl | rfl | rfl <;> rfl) L4.out.ow (Below.refl 0 w4) (Nat.zero_le _) (by have := LW.out.2.2; omega) ?_; intro v1 w5 ho1 hb1 hg1 hf1; obtain ⟨A9, c9, rfl⟩ := own_slice ho1; have L5 := Aside0.mk (L4.out.growW (want' := want ++ [⟨i, a, 4, true⟩]) (by rw [rowA_snoc, List.length_append]; exact ho1) hg1 hf1); have hcl := CELL.out w5 L5.out.m.bel; clear ho1 hb1 hg1 hf1)
            refine (Image g vb vl' s' i _ w5 L5.out.m.ln).mono ?_
            rintro e wz ⟨rfl, rfl⟩
            go_wp2_with fail
            try rw [wi]
            go_roundg kk
            case measure => omega
            case rel => exact ⟨i + 1, vb, vl', s', i, _, _, got, rfl, ⟨by omega⟩, L5, WN, Z', LN⟩
      | false =>
        obtain ⟨t, kf⟩ := KF.out rfl
        clear KT KF
        have KF2 := Aside0.mk kf
        clear kf
        go_wp2_with fail
        refine KF2.out.mono ?_
        rintro e w4 ⟨rfl, vl', h4⟩
        have L4 := Aside0.mk h4
        clear h4
        have LL := Aside0.mk (show (log ++ [(⟨i, a, 4, false⟩ : S49)]).length ≤ 61 by rw [List.length_append, List.length_singleton]; have := LW.out.1; omega)
        have LN := Aside0.mk (show (want ++ [(⟨i, a, 4, false⟩ : S49)]).length ≤ i + 1 by rw [List.length_append, List.length_singleton]; have := hlen.out; omega)
        have WN := Aside0.mk (show want ++ [(⟨i, a, 4, false⟩ : S49)] = got ++ (log ++ [⟨i, a, 4, false⟩]) by rw [W.out, List.append_assoc])
        by_cases hq : qs.length = 0
        · have q0 : decide ((0 : Int) < (qs.length : Int)) = false := decide_eq_false (by omega)
          have q0n : decide (0 < qs.length) = false := decide_eq_false (by omega)
          clear hq
          go_wp2_with (at_builtin; refine print_append_cells (w0 := w4) 0 rfl (.tmp 53) (.tmp 60) 45 49 (.agg #[.int .i64 0, .int .i64 0, .int .i64 0, .bool false]) 4 32 rfl Try.underlying45 infoA rfl (by decide) (by decide) u7 want.length (rowA want) (encA ⟨i, a, 4, false⟩) rfl rfl rfl (by intro u hu; simp at hu; rcases hu with rfl | rfl | rfl | rfl <;> rfl) L4.out.ow (Below.refl 0 w4) (Nat.zero_le _) (by have := LW.out.2.2; omega) ?_; intro v1 w5 ho1 hb1 hg1 hf1; obtain ⟨A9, c9, rfl⟩ := own_slice ho1; have L5 := Aside0.mk (L4.out.growW (want' := want ++ [⟨i, a, 4, false⟩]) (by rw [rowA_snoc, List.length_append]; exact ho1) hg1 hf1); clear ho1 hb1 hg1 hf1)
          refine (Image g vb vl' s' i _ w5 L5.out.m.ln).mono ?_
          rintro e wz ⟨rfl, rfl⟩
          go_wp2_with fail
          try rw [wi]
          go_roundg kk
          case measure => omega
          case rel => exact ⟨i + 1, vb, vl', s', i, _, _, got, rfl, ⟨by omega⟩, L5, WN, Z', LN⟩
        · have q0 : decide ((0 : Int) < (qs.length : Int)) = true := decide_eq_true (by omega)
          have nz : ((qs.length : Int) == 0) = false := beq_eq_false_iff_ne.mpr (by omega)
          obtain ⟨j, hj, jl⟩ : ∃ j : Nat, (i : Int) % (qs.length : Int) = (j : Int) ∧ j < qs.length := ⟨i % qs.length, (Int.natCast_emod i qs.length).symm, Nat.mod_lt _ (by omega)⟩
          obtain ⟨ad1, rfl, -⟩ := R1.out.at_ (j : Int) (by omega) (by omega)
          obtain ⟨y, hy⟩ : ∃ y : Int, rdOf 0 qs (j : Int) = y := ⟨_, rfl⟩
          have CELL := Aside0.mk fun (W : World) (hW : Below w.heap.size w W) => (show W.cell? (ad1.add j) = some (.int .i64 y) from by
            obtain ⟨ad2, e2, h2⟩ := (R1.out.below hW).at_ (j : Int) (by omega) (by omega)
            obtain rfl := Option.some.inj e2
            rw [hy, Int.toNat_natCast] at h2
            exact h2)
          have j0 : decide (0 ≤ (j : Int)) = true := decide_eq_true (by omega)
          have j1 : decide ((j : Int) < (qs.length : Int)) = true := decide_eq_true (by omega)
          have ey : Go.bits .and .i64 y 1 = y % 2 := Mth.and_i64 y 1 (by decide)
          by_cases hy1 : y % 2 = 1
          · rw [hy1] at ey
            go_wp2_with (at_builtin; refine print_append_cells (w0 := w4) 0 rfl (.tmp 53) (.tmp 60) 45 49 (.agg #[.int .i64 0, .int .i64 0, .int .i64 0, .bool false]) 4 32 rfl Try.underlying45 infoA rfl (by decide) (by decide) u7 want.length (rowA want) (encA ⟨i, a, 4, false⟩) rfl rfl rfl (by intro u hu; simp at hu; rcases hu with rfl | rfl | rfl | rfl <;> rfl) L4.out.ow (Below.refl 0 w4) (Nat.zero_le _) (by have := LW.out.2.2; omega) ?_; intro v1 w5 ho1 hb1 hg1 hf1; obtain ⟨A9, c9, rfl⟩ := own_slice ho1; have L5 := Aside0.mk (L4.out.growW (want' := want ++ [⟨i, a, 4, false⟩]) (by rw [rowA_snoc, List.length_append]; exact ho1) hg1 hf1); have hcl := CELL.out w5 L5.out.m.bel; clear ho1 hb1 hg1 hf1)
            refine (Log g vb vl' s' i _ w5 (by have := LL.out; omega) L5.out.m.ln).mono ?_
            rintro e w6 ⟨v6, rfl, ho6, m6, u6⟩
            have L6 := Aside0.mk (L5.out.step m6 rfl u6 (.inr fun b hb => by simp [Value.ownBlock] at hb))
            rw [List.length_append, List.length_singleton] at ho6
            rcases ho6.2 with ⟨-, hz0⟩ | ⟨b6, c6, cur6, rfl, -, -, hn6, -, -, -⟩
            · exact absurd hz0 (by simp)
            obtain ⟨iA, hi0, hi1, hi2, hi3⟩ := info49
            have hnews := World.ownsRow.cells ho6 (g := b6) rfl
            clear m6 u6
            go_wp2_with (at_builtin; refine wpList_append_own_at (w := w6) rfl (.tmp 76) (.tmp 78) 45 rfl 0 49 iA (.agg #[.int .i64 0, .int .i64 0, .int .i64 0, .bool false]) 4 32 Try.underlying45 hi0 hi1 hi2 hi3 rfl (by decide) u8 got.length (rowA got) rfl L6.out.og ⟨b6, 0, none⟩ (log.length + 1) c6 (rowA (log ++ [⟨i, a, 4, false⟩])) rfl (by rw [rowA_len, List.length_append, List.length_singleton]) hnews (rowA_one _) (by have h1 := LW.out.1; have h2 := LW.out.2.1; unfold maxLen; omega) (by have h1 := LW.out.1; have h2 := LW.out.2.1; omega) (Nat.zero_le _) ?_; intro v7 w7 ho7 hg7 hn7 hf7; obtain ⟨A7, c7, rfl⟩ := own_slice ho7; have L7 := Aside0.mk (L6.out.growG (got' := got ++ (log ++ [⟨i, a, 4, false⟩])) (by rw [rowA_app, List.length_append, List.length_append, List.length_singleton]; exact ho7) hg7 (hf7.imp id fun e => ⟨_, e, Nat.le_refl _⟩)); clear ho7 hg7 hn7 hf7)
            refine (Image g vb _ s' i _ w7 L7.out.m.ln).mono ?_
            rintro e wz ⟨rfl, rfl⟩
            go_wp2_with fail
            try rw [wi]
            go_roundg kk
            case measure => omega
            case rel => exact ⟨i + 1, vb, _, s', i, [], _, _, rfl, ⟨by omega⟩, L7, ⟨by rw [WN.out, List.append_nil]⟩, Z', LN⟩
          · have hy0 : y % 2 = 0 := by omega
            rw [hy0] at ey
            go_wp2_with (at_builtin; refine print_append_cells (w0 := w4) 0 rfl (.tmp 53) (.tmp 60) 45 49 (.agg #[.int .i64 0, .int .i64 0, .int .i64 0, .bool false]) 4 32 rfl Try.underlying45 infoA rfl (by decide) (by decide) u7 want.length (rowA want) (encA ⟨i, a, 4, false⟩) rfl rfl rfl (by intro u hu; simp at hu; rcases hu with rfl | rfl | rfl | rfl <;> rfl) L4.out.ow (Below.refl 0 w4) (Nat.zero_le _) (by have := LW.out.2.2; omega) ?_; intro v1 w5 ho1 hb1 hg1 hf1; obtain ⟨A9, c9, rfl⟩ := own_slice ho1; have L5 := Aside0.mk (L4.out.growW (want' := want ++ [⟨i, a, 4, false⟩]) (by rw [rowA_snoc, List.length_append]; exact ho1) hg1 hf1); have hcl := CELL.out w5 L5.out.m.bel; clear ho1 hb1 hg1 hf1)
            refine (Image g vb vl' s' i _ w5 L5.out.m.ln).mono ?_
            rintro e wz ⟨rfl, rfl⟩
            go_wp2_with fail
            try rw [wi]
            go_roundg kk
            case measure => omega
            case rel => exact ⟨i + 1, vb, vl', s', i, _, _, got, rfl, ⟨by omega⟩, L5, WN, Z', LN⟩
    · have fin : ∀ (W : World), True := fun _ => trivial
      have C := Aside0.mk fun W => fixed W
      have LL := Aside0.mk lw
      have LG := Aside0.mk lg
      have cnd : (decide ((i : Int) < (ps.length : Int)) = false) ∨ (decide ((i : Int) < (ps.length : Int)) = true ∧ decide ((i : Int) < 60) = false) := by
        by_cases h : i < ps.length
        · exact .inr ⟨decide_eq_true (by omega), decide_eq_false (by omega)⟩
        · exact .inl (decide_eq_false (by omega))
      have K := Aside0.mk (Log g vb vl s who log wr (by omega) L.out.m.ln)
      clear lw lg lwant wi
      rcases cnd with d1 | ⟨d1, d2⟩
      · have d3 : ¬ i < ps.length := fun h => absurd d1 (by rw [decide_eq_true (by omega)]; decide)
        have d4 : decide (i < ps.length) = false := decide_eq_false d3
        go_wp2_with fail
        refine K.out.mono ?_
        rintro e w6 ⟨v6, rfl, ho6, m6, u6⟩
        have L6 := Aside0.mk (L.out.step m6 rfl u6 (.inr fun b hb => by simp [Value.ownBlock] at hb))
        clear m6 u6
        obtain ⟨iA, hi0, hi1, hi2, hi3⟩ := info49
        have done : ∀ (v : Value) (W : World), Lg w W g vb (.slice none 0 0) u7 v s who [] want (got ++ log) → True := fun _ _ _ => trivial
        have eW : got ++ log = want := W.out.symm
        rcases ho6.2 with ⟨rfl, hz0⟩ | ⟨b6, c6, cur6, rfl, -, -, hn6, -, -, -⟩
        · obtain rfl : log = [] := List.eq_nil_of_length_eq_zero hz0
          rw [List.append_nil] at eW
          subst eW
          go_wp2_with (at_builtin; refine wpList_append_none (w := w6) rfl (.tmp 82) (.tmp 84) 45 49 rfl Try.underlying45 (by rw [infoA]; rfl) u8 got.length 4 0 (rowA got) rfl L6.out.og rfl ?_; obtain ⟨A7, c7, rfl⟩ := own_slice L6.out.og; obtain ⟨A8, c8, rfl⟩ := own_slice L6.out.ow)
          refine (Same_ok got _ rfl A7 A8 c7 c8 _ (by have h1 := LL.out; have h2 := LG.out; first | omega | (simp only [List.length_append]; omega)) (C_of_own rfl L6.out.og) (own_le L6.out.og) (C_of_own rfl L6.out.ow) (own_le L6.out.ow)).mono ?_
          rintro e wx ⟨rfl, mx, rfl⟩
          have LX := Aside0.mk (L6.out.beside (pw_below_drewN (Below.refl _ _) mx))
          go_wp2_with fail
          refine (Log g vb _ s who [] _ (by decide) LX.out.m.ln).mono ?_
          rintro e wy ⟨vy, rfl, hoy, my, uy⟩
          obtain ⟨AY, cy, rfl⟩ := own_slice hoy
          have LY := Aside0.mk (LX.out.step my rfl uy (.inr fun b hb => by simp [Value.ownBlock] at hb))
          clear my uy hoy
          go_wp2_with fail
          refine (C.out wy).mono ?_
          rintro e wz ⟨rfl, hz⟩
          have BZ := Aside0.mk (below_step LY.out.m.bel hz)
          clear hz
          go_wp2_with fail
          go_ret
          exact ⟨rfl, BZ.out⟩
        · have hnews := World.ownsRow.cells ho6 (g := b6) rfl
          go_wp2_with (at_builtin; refine wpList_append_own_at (w := w6) rfl (.tmp 82) (.tmp 84) 45 rfl 0 49 iA (.agg #[.int .i64 0, .int .i64 0, .int .i64 0, .bool false]) 4 32 Try.underlying45 hi0 hi1 hi2 hi3 rfl (by decide) u8 got.length (rowA got) rfl L6.out.og ⟨b6, 0, none⟩ log.length c6 (rowA log) rfl (rowA_len _) hnews (rowA_one _) (by have h1 := LL.out; have h2 := LG.out; unfold maxLen; omega) (by have h1 := LL.out; have h2 := LG.out; omega) (Nat.zero_le _) ?_; intro v7 w7 ho7 hg7 hn7 hf7; obtain ⟨A7, c7, rfl⟩ := own_slice ho7; have L7 := Aside0.mk (L6.out.growG (got' := got ++ log) (by rw [rowA_app, List.length_append]; exact ho7) hg7 (hf7.imp id fun e => ⟨_, e, Nat.le_refl _⟩)); obtain ⟨A8, c8, rfl⟩ := own_slice L7.out.ow; clear ho7 hg7 hn7 hf7)
          have o7 := L7.out.og
          have o8 := L7.out.ow
          rw [← eW] at o8
          rw [List.length_append] at o7 o8
          have O7 := Aside0.mk o7
          have O8 := Aside0.mk o8
          clear o7 o8
          have lwl : want.length = got.length + log.length := by rw [← eW, List.length_append]
          rw [lwl]
          refine (Same_ok (got ++ log) _ List.length_append A7 A8 c7 c8 _ (by have h1 := LL.out; have h2 := LG.out; first | omega | (simp only [List.length_append]; omega)) (C_of_own List.length_append O7.out) (own_le O7.out) (C_of_own List.length_append O8.out) (own_le O8.out)).mono ?_
          rintro e wx ⟨rfl, mx, rfl⟩
          have LX := Aside0.mk (L7.out.beside (pw_below_drewN (Below.refl _ _) mx))
          go_wp2_with fail
          refine (Log g vb _ s who [] _ (by decide) LX.out.m.ln).mono ?_
          rintro e wy ⟨vy, rfl, hoy, my, uy⟩
          obtain ⟨AY, cy, rfl⟩ := own_slice hoy
          have LY := Aside0.mk (LX.out.step my rfl uy (.inr fun b hb => by simp [Value.ownBlock] at hb))
          clear my uy hoy
          go_wp2_with fail
          refine (C.out wy).mono ?_
          rintro e wz ⟨rfl, hz⟩
          have BZ := Aside0.mk (below_step LY.out.m.bel hz)
          clear hz
          go_wp2_with fail
          go_ret
          exact ⟨rfl, BZ.out⟩
      · have d3 : i < ps.length := by have := of_decide_eq_true d1; omega
        have d4 : decide (i < ps.length) = true := decide_eq_true d3
        go_wp2_with fail
        refine K.out.mono ?_
        rintro e w6 ⟨v6, rfl, ho6, m6, u6⟩
        have L6 := Aside0.mk (L.out.step m6 rfl u6 (.inr fun b hb => by simp [Value.ownBlock] at hb))
        clear m6 u6
        obtain ⟨iA, hi0, hi1, hi2, hi3⟩ := info49
        have done : ∀ (v : Value) (W : World), Lg w W g vb (.slice none 0 0) u7 v s who [] want (got ++ log) → True := fun _ _ _ => trivial
        have eW : got ++ log = want := W.out.symm
        rcases ho6.2 with ⟨rfl, hz0⟩ | ⟨b6, c6, cur6, rfl, -, -, hn6, -, -, -⟩
        · obtain rfl : log = [] := List.eq_nil_of_length_eq_zero hz0
          rw [List.append_nil] at eW
          subst eW
          go_wp2_with (at_builtin; refine wpList_append_none (w := w6) rfl (.tmp 82) (.tmp 84) 45 49 rfl Try.underlying45 (by rw [infoA]; rfl) u8 got.length 4 0 (rowA got) rfl L6.out.og rfl ?_; obtain ⟨A7, c7, rfl⟩ := own_slice L6.out.og; obtain ⟨A8, c8, rfl⟩ := own_slice L6.out.ow)
          refine (Same_ok got _ rfl A7 A8 c7 c8 _ (by have h1 := LL.out; have h2 := LG.out; first | omega | (simp only [List.length_append]; omega)) (C_of_own rfl L6.out.og) (own_le L6.out.og) (C_of_own rfl L6.out.ow) (own_le L6.out.ow)).mono ?_
          rintro e wx ⟨rfl, mx, rfl⟩
          have LX := Aside0.mk (L6.out.beside (pw_below_drewN (Below.refl _ _) mx))
          go_wp2_with fail
          refine (Log g vb _ s who [] _ (by decide) LX.out.m.ln).mono ?_
          rintro e wy ⟨vy, rfl, hoy, my, uy⟩
          obtain ⟨AY, cy, rfl⟩ := own_slice hoy
          have LY := Aside0.mk (LX.out.step my rfl uy (.inr fun b hb => by simp [Value.ownBlock] at hb))
          clear my uy hoy
          go_wp2_with fail
          refine (C.out wy).mono ?_
          rintro e wz ⟨rfl, hz⟩
          have BZ := Aside0.mk (below_step LY.out.m.bel hz)
          clear hz
          go_wp2_with fail
          go_ret
          exact ⟨rfl, BZ.out⟩
        · have hnews := World.ownsRow.cells ho6 (g := b6) rfl
          go_wp2_with (at_builtin; refine wpList_append_own_at (w := w6) rfl (.tmp 82) (.tmp 84) 45 rfl 0 49 iA (.agg #[.int .i64 0, .int .i64 0, .int .i64 0, .bool false]) 4 32 Try.underlying45 hi0 hi1 hi2 hi3 rfl (by decide) u8 got.length (rowA got) rfl L6.out.og ⟨b6, 0, none⟩ log.length c6 (rowA log) rfl (rowA_len _) hnews (rowA_one _) (by have h1 := LL.out; have h2 := LG.out; unfold maxLen; omega) (by have h1 := LL.out; have h2 := LG.out; omega) (Nat.zero_le _) ?_; intro v7 w7 ho7 hg7 hn7 hf7; obtain ⟨A7, c7, rfl⟩ := own_slice ho7; have L7 := Aside0.mk (L6.out.growG (got' := got ++ log) (by rw [rowA_app, List.length_append]; exact ho7) hg7 (hf7.imp id fun e => ⟨_, e, Nat.le_refl _⟩)); obtain ⟨A8, c8, rfl⟩ := own_slice L7.out.ow; clear ho7 hg7 hn7 hf7)
          have o7 := L7.out.og
          have o8 := L7.out.ow
          rw [← eW] at o8
          rw [List.length_append] at o7 o8
          have O7 := Aside0.mk o7
          have O8 := Aside0.mk o8
          clear o7 o8
          have lwl : want.length = got.length + log.length := by rw [← eW, List.length_append]
          rw [lwl]
          refine (Same_ok (got ++ log) _ List.length_append A7 A8 c7 c8 _ (by have h1 := LL.out; have h2 := LG.out; first | omega | (simp only [List.length_append]; omega)) (C_of_own List.length_append O7.out) (own_le O7.out) (C_of_own List.length_append O8.out) (own_le O8.out)).mono ?_
          rintro e wx ⟨rfl, mx, rfl⟩
          have LX := Aside0.mk (L7.out.beside (pw_below_drewN (Below.refl _ _) mx))
          go_wp2_with fail
          refine (Log g vb _ s who [] _ (by decide) LX.out.m.ln).mono ?_
          rintro e wy ⟨vy, rfl, hoy, my, uy⟩
          obtain ⟨AY, cy, rfl⟩ := own_slice hoy
          have LY := Aside0.mk (LX.out.step my rfl uy (.inr fun b hb => by simp [Value.ownBlock] at hb))
          clear my uy hoy
          go_wp2_with fail
          refine (C.out wy).mono ?_
          rintro e wz ⟨rfl, hz⟩
          have BZ := Aside0.mk (below_step LY.out.m.bel hz)
          clear hz
          go_wp2_with fail
          go_ret
          exact ⟨rfl, BZ.out⟩
end Go.Proofs.Ytllpfadjdecjiaa.Hand
