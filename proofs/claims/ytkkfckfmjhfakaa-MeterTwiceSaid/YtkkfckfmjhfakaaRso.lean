/- Floats and the meter: contracts by hand, and the laws over them. -/
import Derived.Test.YtkkfckfmjhfakaaOwn
import Derived.Test.YtkkfckfmjhfakaaRtop
namespace Go.Proofs.Ytkkfckfmjhfakaa.Mt
open Go Go.RowKit Go.Proofs.YtkkfckfmjhfakaaW.PrintWords Go.Proofs.YtkkfckfmjhfakaaW.PrintLast Go.Proofs.YtkkfckfmjhfakaaW.PrintMore Go.Proofs.Ytkkfckfmjhfakaa.Mth Go.Proofs.Ytkkfckfmjhfakaa.Own Go.Proofs
set_option linter.unusedVariables false
set_option linter.unusedSimpArgs false
/-! ### The document's Sort -/
open Go.Sort
def stp (x : F64) (s : List F64 × Bool) (y : F64) : List F64 × Bool := if !s.2 && ltF x y then (s.1 ++ [x] ++ [y], true) else (s.1 ++ [y], s.2)
def stI (x : F64) (o : List F64) : Nat → List F64 × Bool
  | 0 => ([], false)
  | k + 1 => stp x (stI x o k) (o.getD k default)
def finS (x : F64) (o : List F64) : List F64 := if (stI x o o.length).2 then (stI x o o.length).1 else (stI x o o.length).1 ++ [x]
def rsL (l : List F64) : Nat → List F64
  | 0 => []
  | i + 1 => finS (l.getD i default) (rsL l i)
def SortedL (o : List F64) : Prop := o.Pairwise (fun x y => ltF y x = false)
theorem takeF {l : List F64} {i : Nat} (h : i < l.length) : l.take (i + 1) = l.take i ++ [l.getD i default] := by
  rw [List.take_add_one, List.getD_eq_getElem?_getD, List.getElem?_eq_getElem h]; rfl
/-- What is kept while x looks for its place in o. -/
theorem stI_spec (x : F64) (o : List F64) (ho : SortedL o) : ∀ k, k ≤ o.length → ((stI x o k).2 = false ∧ (stI x o k).1 = o.take k ∧ ∀ y ∈ o.take k, ltF x y = false) ∨
    ((stI x o k).2 = true ∧ ∃ u v, o.take k = u ++ v ∧ (stI x o k).1 = u ++ x :: v ∧ (∀ y ∈ u, ltF x y = false) ∧ v ≠ [] ∧ ∀ y ∈ v, ltF x y = true)
  | 0, _ => .inl ⟨rfl, rfl, fun y hy => by simp at hy⟩
  | k + 1, h => by
    have hk : k < o.length := by omega
    have ht := takeF hk
    have e : stI x o (k + 1) = stp x (stI x o k) (o.getD k default) := rfl
    rw [e]
    unfold stp
    rcases stI_spec x o ho k (by omega) with ⟨a, b, c⟩ | ⟨a, u, v, b, c, d, v0, f⟩
    · rw [a, b]
      cases q : ltF x (o.getD k default) with
      | true =>
        right
        refine ⟨rfl, o.take k, [o.getD k default], ht, by simp, c, by simp, fun y hy => by rw [List.mem_singleton.1 hy]; exact q⟩
      | false =>
        left
        refine ⟨rfl, ht.symm, fun y hy => ?_⟩
        rw [ht] at hy
        rcases List.mem_append.1 hy with h1 | h1
        · exact c y h1
        · rw [List.mem_singleton.1 h1]; exact q
    · right
      rw [a, c]
      refine ⟨rfl, u, v ++ [o.getD k default], by rw [ht, b]; simp, by simp, d, by simp, fun y hy => ?_⟩
      rcases List.mem_append.1 hy with h1 | h1
      · exact f y h1
      · rw [List.mem_singleton.1 h1]
        obtain ⟨z, r, hv⟩ := List.exists_cons_of_ne_nil v0
        have hz : z ∈ v := by rw [hv]; exact List.mem_cons_self
        have hp : SortedL (o.take (k + 1)) := ho.sublist (List.take_sublist _ _)
        rw [ht, b] at hp
        have := (List.pairwise_append.1 hp).2.2 z (List.mem_append_right _ hz) (o.getD k default) (by simp)
        exact le_lt ltF_swo (f z hz) this
theorem fin_spec (x : F64) (o : List F64) (ho : SortedL o) : SortedL (finS x o) ∧ (finS x o).Perm (o ++ [x]) := by
  have S := stI_spec x o ho o.length (Nat.le_refl _)
  rw [List.take_length] at S
  unfold finS
  rcases S with ⟨a, b, c⟩ | ⟨a, u, v, b, c, d, v0, f⟩
  · rw [a, b]
    refine ⟨?_, List.Perm.refl _⟩
    show SortedL (o ++ [x])
    refine List.pairwise_append.2 ⟨ho, List.pairwise_singleton _ _, fun y hy z hz => ?_⟩
    rw [List.mem_singleton.1 hz]; exact c y hy
  · rw [a, if_pos rfl, c]
    refine ⟨?_, ?_⟩
    · have ho' := ho
      rw [b] at ho'
      obtain ⟨p1, p2, p3⟩ := List.pairwise_append.1 ho'
      refine List.pairwise_append.2 ⟨p1, List.pairwise_cons.2 ⟨fun y hy => ltF_swo.asymmA (f y hy), p2⟩, fun y hy z hz => ?_⟩
      rcases List.mem_cons.1 hz with rfl | hz
      · exact d y hy
      · exact p3 y hy z hz
    · rw [b, List.append_assoc]
      exact List.Perm.append_left u (List.perm_append_comm (l₁ := [x]) (l₂ := v))
theorem rs_spec (l : List F64) : ∀ i, i ≤ l.length → SortedL (rsL l i) ∧ (rsL l i).Perm (l.take i)
  | 0, _ => ⟨List.Pairwise.nil, List.Perm.refl _⟩
  | i + 1, h => by
    obtain ⟨a, b⟩ := rs_spec l i (by omega)
    obtain ⟨c, d⟩ := fin_spec (l.getD i default) (rsL l i) a
    refine ⟨c, d.trans ?_⟩
    rw [takeF (show i < l.length by omega)]
    exact b.append_right _
theorem rs_len {l : List F64} {i : Nat} (h : i ≤ l.length) : (rsL l i).length = i := by rw [(rs_spec l i h).2.length_eq, List.length_take]; omega
theorem st_len (x : F64) (o : List F64) : ∀ k, (stI x o k).1.length ≤ k + 1 ∧ ((stI x o k).2 = false → (stI x o k).1.length ≤ k)
  | 0 => ⟨by show 0 ≤ 1; decide, fun _ => Nat.le_refl _⟩
  | k + 1 => by
    obtain ⟨a, b⟩ := st_len x o k
    have e : stI x o (k + 1) = stp x (stI x o k) (o.getD k default) := rfl
    rw [e]
    unfold stp
    cases h : (stI x o k).2 with
    | true =>
      simp only [Bool.not_true, Bool.false_and, if_neg Bool.false_ne_true, List.length_append, List.length_singleton]
      exact ⟨by omega, fun h => by cases h⟩
    | false =>
      have := b h
      cases ltF x (o.getD k default)
      · simp only [Bool.not_false, Bool.true_and, if_neg Bool.false_ne_true, List.length_append, List.length_singleton]
        exact ⟨by omega, fun _ => by omega⟩
      · simp only [Bool.not_false, Bool.true_and, if_pos, List.length_append, List.length_singleton]
        exact ⟨by omega, fun h => by cases h⟩
set_option maxHeartbeats 16000000 in
set_option maxRecDepth 100000 in
theorem RSort_calls (A : Option Addr) (c : Nat) (l : List F64) (w : World) (hr : ReadsOf encF default w A l.length l) (hb : l.length ≤ 100000) :
    Calls Try.prog 19 #[.slice A l.length c] w fun e w' => ∃ A' c', e = .returned (.slice A' (rsL l l.length).length c') ∧ OwnF w.heap.size w' A' c' (rsL l l.length) ∧ Below w.heap.size w w' := by
  have HR := Aside0.mk hr
  clear hr
  go_enter Try.func19, Try.ntmps19
  go_wp2_with fail
  have O0 := Aside0.mk (own_emptyF w w.heap.size (Nat.le_refl _))
  have B0 : Aside0 (Below w.heap.size w (w.alloc (.cells #[] 22))) := ⟨below_alloc (Below.refl _ _) _⟩
  generalize w.alloc (.cells #[] 22) = w0 at O0 B0 ⊢
  go_loopg [3, 4] l.length (fun gk v3 v4 w' => ∃ (i : Nat) (A1 : Option Addr) (c1 : Nat) (o : List F64), v4 = .int .i64 (i : Int) ∧ v3 = .slice A1 o.length c1 ∧ Aside0 (i + gk = l.length ∧ o = rsL l i ∧ o.length = i) ∧ Aside0 (OwnF w.heap.size w' A1 c1 o) ∧ Aside0 (Below w.heap.size w w'))
  case atStart => exact ⟨0, _, _, [], rfl, rfl, ⟨by omega, rfl, rfl⟩, O0, B0⟩
  case round =>
    clear O0 B0
    obtain ⟨i, A1, c1, o, rfl, rfl, hk, HO, HB⟩ := hrel
    have hkk := hk.out
    have wi : IntKind.i64.wrap ((i : Int) + 1) = ((i + 1 : Nat) : Int) := by rw [IntKind.wrap_i64]; omega
    have NX : Aside0 (∀ X, l.getD i default = X → rsL l (i + 1) = finS X o) := ⟨fun X hX => by rw [← hX, hkk.2.1]; rfl⟩
    have OL : Aside0 (o.length = i) := ⟨hkk.2.2⟩
    by_cases hi : i < l.length
    · have d1 : decide ((i : Int) < (l.length : Int)) = true := decide_eq_true (by omega)
      have d1' : decide (i < l.length) = true := decide_eq_true hi
      have i0 : (0 : Int) ≤ (i : Int) := by omega
      have i9 : (i : Int) < (l.length : Int) := by omega
      have LN : Aside0 ((rsL l (i + 1)).length = i + 1) := ⟨rs_len (by omega)⟩
      obtain ⟨ad, hA, g1⟩ := HR.out.2.2 (by omega)
      have KX := Aside0.mk (pw_cell_below HB.out (show w.cell? (ad.add i) = some (.float .f64 (l.getD i default).1) from g1 i hi))
      clear g1
      subst hA
      obtain ⟨X, hX⟩ : ∃ X, l.getD i default = X := ⟨_, rfl⟩
      rw [hX] at KX
      have RS := Aside0.mk (NX.out X hX)
      obtain ⟨G, rfl⟩ : ∃ G, G = gk := ⟨gk, rfl⟩
      have HG : Aside0 (i + 1 + (G - 1) = l.length ∧ G - 1 < G) := ⟨by omega⟩
      have IL : Aside0 (i ≤ 100000) := ⟨by omega⟩
      clear hX NX hkk hk hi
      obtain ⟨wR, rfl⟩ : ∃ wR, wR = wr := ⟨wr, rfl⟩
      go_wp2_with fail
      have O0 := Aside0.mk (own_emptyF wR wR.heap.size (Nat.le_refl _))
      have B0 : Aside0 (Below wR.heap.size wR (wR.alloc (.cells #[] 22))) := ⟨below_alloc (Below.refl _ _) _⟩
      generalize wR.alloc (.cells #[] 22) = w0 at O0 B0 ⊢
      go_loopg [5, 6, 7] o.length (fun gk v5 v6 v7 w' => ∃ (k : Nat) (A2 : Option Addr) (c2 : Nat) (n : List F64) (p : Bool), v7 = .int .i64 (k : Int) ∧ v5 = .slice A2 n.length c2 ∧ v6 = .bool p ∧ Aside0 (k + gk = o.length ∧ stI X o k = (n, p) ∧ n.length ≤ k + 1) ∧ Aside0 (OwnF wR.heap.size w' A2 c2 n) ∧ Aside0 (Below wR.heap.size wR w'))
      case atStart => exact ⟨0, _, _, [], false, rfl, rfl, rfl, ⟨by omega, rfl, by decide⟩, O0, B0⟩
      case round =>
        clear O0 B0
        obtain ⟨k, A2, c2, n, p, rfl, rfl, rfl, hk2, HN, HBN⟩ := hrel
        have hkk := hk2.out
        have oi := OL.out
        have il := IL.out
        have wk : IntKind.i64.wrap ((k : Int) + 1) = ((k + 1 : Nat) : Int) := by rw [IntKind.wrap_i64]; omega
        by_cases hlt : k < o.length
        · have d2 : decide ((k : Int) < (o.length : Int)) = true := decide_eq_true (by omega)
          have d2' : decide (k < o.length) = true := decide_eq_true hlt
          have k0 : (0 : Int) ≤ (k : Int) := by omega
          have k9 : (k : Int) < (o.length : Int) := by omega
          have hS : stI X o (k + 1) = stp X (stI X o k) (o.getD k default) := rfl
          rw [hkk.2.1] at hS
          have LE := Aside0.mk (st_len X o (k + 1)).1
          obtain ⟨ad2, hA2, g2⟩ := (own_reads_of' (d := default) HO.out).2.2 (by omega)
          have KY : Aside0 (wR.cell? (ad2.add k) = some (.float .f64 (o.getD k default).1)) := ⟨g2 k hlt⟩
          clear g2
          subst hA2
          obtain ⟨Y, hY⟩ : ∃ Y, o.getD k default = Y := ⟨_, rfl⟩
          rw [hY] at KY hS
          have HK : Aside0 (k + 1 + (gk - 1) = o.length ∧ gk - 1 < gk) := ⟨by omega⟩
          have HL : Aside0 (n.length ≤ 100001) := ⟨by omega⟩
          have CS := Aside0.mk (fun W => less_q X Y rfl rfl W)
          have HS := Aside0.mk hS
          have cx := pw_cell_below HBN.out KX.out
          have cy := pw_cell_below HBN.out KY.out
          clear hS hY hkk hk2 hlt oi il
          cases p with
          | true =>
            go_wp2_with fail
            go_quiet (fail)
            have HN1 : Aside0 (OwnF wR.heap.size (wr.drewN nq) A2 c2 n) := ⟨pw_own_drewN HN.out nq⟩
            have HB1 : Aside0 (Below wR.heap.size wR (wr.drewN nq)) := ⟨pw_below_drewN HBN.out nq⟩
            clear cx cy HN HBN
            generalize wr.drewN nq = w1 at HN1 HB1 ⊢
            have ey := pw_cell_below HB1.out KY.out
            go_wp2_with (at_builtin; (refine print_append_of (w0 := wR) encF wR.heap.size rfl (.tmp 42) (.tmp 47) 28 22 (.float .f64 0) 8 rfl Try.underlying28 infoF rfl (by decide) (.slice A2 n.length c2) n Y rfl rfl rfl ?c1 ?c2 ?c3 ?c4 ?_; (case c1 => exact HN1.out); (case c2 => exact HB1.out); (case c3 => exact HB1.out.size); (case c4 => have := HL.out; omega); intro v3 wn3 ho1 hb1 hg1 hf1; obtain ⟨n3, hn⟩ : ∃ u, n ++ [Y] = u := ⟨_, rfl⟩; rw [hn] at ho1; have HN3 := Aside0.mk ho1; have HB3 := Aside0.mk hb1; have HQ3 := Aside0.mk hn; obtain ⟨A3, c3, rfl⟩ := own_slice ho1; clear ho1 hb1 hg1 hf1 hn))
            have ST : Aside0 (stI X o (k + 1) = (n3, true)) := ⟨by rw [HS.out, ← HQ3.out]; rfl⟩
            clear ey
            go_wp2_with fail
            try rw [wk]
            go_roundg (gk - 1)
            case measure => have := HK.out; omega
            case rel => exact ⟨k + 1, A3, c3, n3, true, rfl, rfl, rfl, ⟨HK.out.1, ST.out, by have := LE.out; rw [ST.out] at this; exact this⟩, HN3, HB3⟩
          | false =>
            cases hq : ltF X Y with
            | true =>
              rw [hq] at CS
              have HQ := Aside0.mk hq
              clear hq
              go_wp2_with fail
              go_quiet (first | (go_at_call 17; exact Calls.quiet_of (CS.out _)))
              have HN1 : Aside0 (OwnF wR.heap.size (wr.drewN nq) A2 c2 n) := ⟨pw_own_drewN HN.out nq⟩
              have HB1 : Aside0 (Below wR.heap.size wR (wr.drewN nq)) := ⟨pw_below_drewN HBN.out nq⟩
              clear cx cy HN HBN
              generalize wr.drewN nq = w1 at HN1 HB1 ⊢
              have ex := pw_cell_below HB1.out KX.out
              go_wp2_with (first | (at_builtin; (refine print_append_of (w0 := wR) encF wR.heap.size rfl (.tmp 35) (.tmp 40) 28 22 (.float .f64 0) 8 rfl Try.underlying28 infoF rfl (by decide) (.slice A2 n.length c2) n X rfl rfl rfl ?c1 ?c2 ?c3 ?c4 ?_; (case c1 => exact HN1.out); (case c2 => exact HB1.out); (case c3 => exact HB1.out.size); (case c4 => have := HL.out; omega); intro v3 wn3 ho1 hb1 hg1 hf1; obtain ⟨n3, hn⟩ : ∃ u, n ++ [X] = u := ⟨_, rfl⟩; rw [hn] at ho1; have HN3 := Aside0.mk ho1; have HB3 := Aside0.mk hb1; have HQ3 := Aside0.mk hn; obtain ⟨A3, c3, rfl⟩ := own_slice ho1; clear ho1 hb1 hg1 hf1 hn; have ey := pw_cell_below HB3.out KY.out; have HL3 : Aside0 (n3.length ≤ 100002) := ⟨by rw [← HQ3.out]; have := HL.out; simp; omega⟩; clear ex)) | (at_builtin; (refine print_append_of (w0 := wR) encF wR.heap.size rfl (.tmp 42) (.tmp 47) 28 22 (.float .f64 0) 8 rfl Try.underlying28 infoF rfl (by decide) (.slice A3 n3.length c3) n3 Y rfl rfl rfl ?c1 ?c2 ?c3 ?c4 ?_; (case c1 => exact HN3.out); (case c2 => exact HB3.out); (case c3 => exact HB3.out.size); (case c4 => have := HL3.out; omega); intro v4 wn4 ho1 hb1 hg1 hf1; obtain ⟨n4, hn⟩ : ∃ u, n3 ++ [Y] = u := ⟨_, rfl⟩; rw [hn] at ho1; have HN4 := Aside0.mk ho1; have HB4 := Aside0.mk hb1; have HQ4 := Aside0.mk hn; obtain ⟨A4, c4, rfl⟩ := own_slice ho1; clear ho1 hb1 hg1 hf1 hn)))
              have ST : Aside0 (stI X o (k + 1) = (n4, true)) := ⟨by rw [HS.out, ← HQ4.out, ← HQ3.out]; unfold stp; rw [HQ.out]; rfl⟩
              clear ey
              go_wp2_with fail
              try rw [wk]
              go_roundg (gk - 1)
              case measure => have := HK.out; omega
              case rel => exact ⟨k + 1, A4, c4, n4, true, rfl, rfl, rfl, ⟨HK.out.1, ST.out, by have := LE.out; rw [ST.out] at this; exact this⟩, HN4, HB4⟩
            | false =>
              rw [hq] at CS
              have HQ := Aside0.mk hq
              clear hq
              go_wp2_with fail
              go_quiet (first | (go_at_call 17; exact Calls.quiet_of (CS.out _)))
              have HN1 : Aside0 (OwnF wR.heap.size (wr.drewN nq) A2 c2 n) := ⟨pw_own_drewN HN.out nq⟩
              have HB1 : Aside0 (Below wR.heap.size wR (wr.drewN nq)) := ⟨pw_below_drewN HBN.out nq⟩
              clear cx cy HN HBN
              generalize wr.drewN nq = w1 at HN1 HB1 ⊢
              have ey := pw_cell_below HB1.out KY.out
              go_wp2_with (at_builtin; (refine print_append_of (w0 := wR) encF wR.heap.size rfl (.tmp 42) (.tmp 47) 28 22 (.float .f64 0) 8 rfl Try.underlying28 infoF rfl (by decide) (.slice A2 n.length c2) n Y rfl rfl rfl ?c1 ?c2 ?c3 ?c4 ?_; (case c1 => exact HN1.out); (case c2 => exact HB1.out); (case c3 => exact HB1.out.size); (case c4 => have := HL.out; omega); intro v3 wn3 ho1 hb1 hg1 hf1; obtain ⟨n3, hn⟩ : ∃ u, n ++ [Y] = u := ⟨_, rfl⟩; rw [hn] at ho1; have HN3 := Aside0.mk ho1; have HB3 := Aside0.mk hb1; have HQ3 := Aside0.mk hn; obtain ⟨A3, c3, rfl⟩ := own_slice ho1; clear ho1 hb1 hg1 hf1 hn))
              have ST : Aside0 (stI X o (k + 1) = (n3, false)) := ⟨by rw [HS.out, ← HQ3.out]; unfold stp; rw [HQ.out]; rfl⟩
              clear ey
              go_wp2_with fail
              try rw [wk]
              go_roundg (gk - 1)
              case measure => have := HK.out; omega
              case rel => exact ⟨k + 1, A3, c3, n3, false, rfl, rfl, rfl, ⟨HK.out.1, ST.out, by have := LE.out; rw [ST.out] at this; exact this⟩, HN3, HB3⟩
        · have d2 : decide ((k : Int) < (o.length : Int)) = false := decide_eq_false (by omega)
          have d2' : decide (k < o.length) = false := decide_eq_false hlt
          have ke : k = o.length := by omega
          have FS : Aside0 (stI X o o.length = (n, p)) := ⟨by rw [← ke]; exact hkk.2.1⟩
          have HL : Aside0 (n.length ≤ 100001) := ⟨by omega⟩
          have cx := pw_cell_below HBN.out KX.out
          have WS : Aside0 (w.heap.size ≤ wR.heap.size) := ⟨HB.out.size⟩
          clear hkk hk2 hlt oi il ke
          cases p with
          | true =>
            have EN : n = rsL l (i + 1) := by rw [RS.out]; unfold finS; rw [FS.out]; rfl
            have FN : Aside0 (n = rsL l (i + 1) ∧ n.length = i + 1) := ⟨EN, by rw [EN]; exact LN.out⟩
            clear cx EN
            go_wp2_with fail
            try rw [wi]
            go_roundg (G - 1)
            case measure => have := HG.out; omega
            case rel => exact ⟨i + 1, A2, c2, n, rfl, rfl, ⟨HG.out.1, FN.out⟩, ⟨own_weaken HN.out WS.out⟩, ⟨below_step HB.out HBN.out⟩⟩
          | false =>
            go_wp2_with (at_builtin; (refine print_append_of (w0 := wR) encF wR.heap.size rfl (.tmp 51) (.tmp 56) 28 22 (.float .f64 0) 8 rfl Try.underlying28 infoF rfl (by decide) (.slice A2 n.length c2) n X rfl rfl rfl ?c1 ?c2 ?c3 ?c4 ?_; (case c1 => exact HN.out); (case c2 => exact HBN.out); (case c3 => exact HBN.out.size); (case c4 => have := HL.out; omega); intro v3 wn3 ho1 hb1 hg1 hf1; obtain ⟨n3, hn⟩ : ∃ u, n ++ [X] = u := ⟨_, rfl⟩; rw [hn] at ho1; have HN3 := Aside0.mk ho1; have HB3 := Aside0.mk hb1; have HQ3 := Aside0.mk hn; obtain ⟨A3, c3, rfl⟩ := own_slice ho1; clear ho1 hb1 hg1 hf1 hn))
            have EN : n3 = rsL l (i + 1) := by rw [RS.out, ← HQ3.out]; unfold finS; rw [FS.out]; rfl
            have FN : Aside0 (n3 = rsL l (i + 1) ∧ n3.length = i + 1) := ⟨EN, by rw [EN]; exact LN.out⟩
            clear cx EN
            go_wp2_with fail
            try rw [wi]
            go_roundg (G - 1)
            case measure => have := HG.out; omega
            case rel => exact ⟨i + 1, A3, c3, n3, rfl, rfl, ⟨HG.out.1, FN.out⟩, ⟨own_weaken HN3.out WS.out⟩, ⟨below_step HB.out HB3.out⟩⟩
    · have d1 : decide ((i : Int) < (l.length : Int)) = false := decide_eq_false (by omega)
      have d1' : decide (i < l.length) = false := decide_eq_false hi
      have FN : Aside0 (o = rsL l l.length) := ⟨by rw [hkk.2.1, show i = l.length by omega]⟩
      clear hkk hk hi NX OL
      go_wp2
      go_ret
      exact ⟨A1, c1, by rw [← FN.out]; rfl, by rw [← FN.out]; exact HO.out, HB.out⟩
end Go.Proofs.Ytkkfckfmjhfakaa.Mt
