/- Floats and the meter: contracts by hand, and the laws over them. -/
import Derived.Test.YtkkfckfmjhfakaaOwn
import Derived.Test.YtkkfckfmjhfakaaRall
namespace Go.Proofs.Ytkkfckfmjhfakaa.Mt
open Go Go.RowKit Go.Proofs.YtkkfckfmjhfakaaW.PrintWords Go.Proofs.YtkkfckfmjhfakaaW.PrintLast Go.Proofs.YtkkfckfmjhfakaaW.PrintMore Go.Proofs.Ytkkfckfmjhfakaa.Mth Go.Proofs.Ytkkfckfmjhfakaa.Own Go.Proofs
set_option linter.unusedVariables false
set_option linter.unusedSimpArgs false
/-! the place of the greatest -/
theorem top_spec (l : List F64) : ∀ n, n ≤ l.length → (n = 0 ∧ topN l n = -1) ∨ ∃ t : Nat, topN l n = (t : Int) ∧ t < n ∧ (∀ k, k < n → ltF (l.getD t default) (l.getD k default) = false) ∧ ∀ k, k < t → ltF (l.getD k default) (l.getD t default) = true
  | 0, _ => .inl ⟨rfl, rfl⟩
  | n + 1, h => by
    right
    rcases top_spec l n (by omega) with ⟨h0, e⟩ | ⟨t, e, ht, h1, h2⟩
    · subst h0
      refine ⟨0, ?_, by omega, fun k hk => ?_, fun k hk => by omega⟩
      · unfold topN; rw [e, if_pos (.inl (by decide))]
      · obtain rfl : k = 0 := by omega
        exact ltF_irr _
    · by_cases q : ltF (l.getD t default) (l.getD n default) = true
      · refine ⟨n, ?_, by omega, fun k hk => ?_, fun k hk => ?_⟩
        · unfold topN; rw [e, if_pos (.inr (by rw [Int.toNat_natCast]; exact q))]
        · by_cases hk' : k = n
          · subst hk'; exact ltF_irr _
          · cases r : ltF (l.getD n default) (l.getD k default) with
            | false => rfl
            | true => have := ltF_swo.trans _ _ _ q r; rw [h1 k (by omega)] at this; cases this
        · exact lt_le ltF_swo (h1 k (by omega)) q
      · refine ⟨t, ?_, by omega, fun k hk => ?_, h2⟩
        · unfold topN; rw [e, if_neg (by rintro (h | h); omega; rw [Int.toNat_natCast] at h; exact q h)]
        · by_cases hk' : k = n
          · subst hk'; simpa using q
          · exact h1 k (by omega)
def tpB (l : List F64) (i : Nat) : Nat → Bool
  | 0 => true
  | k + 1 => tpB l i k && !ltF (l.getD i default) (l.getD k default)
theorem tpB_all {l : List F64} {i : Nat} : ∀ {n}, (∀ k, k < n → ltF (l.getD i default) (l.getD k default) = false) → tpB l i n = true
  | 0, _ => rfl
  | n + 1, h => by
    show (tpB l i n && !_) = true
    rw [tpB_all (fun k hk => h k (by omega)), h n (by omega)]; rfl
theorem tpB_no {l : List F64} {i t : Nat} (h : ltF (l.getD i default) (l.getD t default) = true) : ∀ {n}, t < n → tpB l i n = false
  | 0, h0 => by omega
  | n + 1, h0 => by
    show (tpB l i n && !_) = false
    by_cases q : t = n
    · subst q; rw [h]; simp
    · rw [tpB_no h (show t < n by omega)]; rfl
set_option maxHeartbeats 8000000 in
theorem RTop_calls (A : Option Addr) (c : Nat) (l : List F64) (w : World) (hr : ReadsOf encF default w A l.length l) (hb : l.length ≤ 100000) :
    Calls Try.prog 21 #[.slice A l.length c] w fun e w' => e = .returned (.int .i64 (topN l l.length)) ∧ Dr w w' := by
  have HR := Aside0.mk hr
  have TS := Aside0.mk (top_spec l l.length (Nat.le_refl _))
  clear hr
  obtain ⟨T, hT⟩ : ∃ T, topN l l.length = T := ⟨_, rfl⟩
  rw [hT] at TS
  rw [hT]
  clear hT
  go_enter Try.func21, Try.ntmps21
  go_wp2_with fail
  go_loopg [3] l.length (fun gk v3 w' => ∃ i : Nat, v3 = .int .i64 (i : Int) ∧ Aside0 (i + gk = l.length) ∧ Aside0 (l.length ≠ 0 → (i : Int) ≤ T) ∧ Aside0 (Dr w w'))
  case atStart => exact ⟨0, rfl, ⟨by omega⟩, ⟨fun h => by rcases TS.out with ⟨h0, _⟩ | ⟨t, e, _⟩ <;> omega⟩, ⟨Dr.refl _⟩⟩
  case round =>
    obtain ⟨i, rfl, hk, hle, hw⟩ := hrel
    have hkk := hk.out
    have wi : IntKind.i64.wrap ((i : Int) + 1) = ((i + 1 : Nat) : Int) := by rw [IntKind.wrap_i64]; omega
    by_cases hi : i < l.length
    · have c1 : decide ((i : Int) < (l.length : Int)) = true := decide_eq_true (by omega)
      have i0 : (0 : Int) ≤ (i : Int) := by omega
      have i9 : (i : Int) < (l.length : Int) := by omega
      have HI := Aside0.mk hi
      obtain ⟨G, rfl⟩ : ∃ G, G = gk := ⟨gk, rfl⟩
      clear hkk hi
      go_wp2_with fail
      go_loopg [4, 5] l.length (fun gk v4 v5 w' => ∃ k : Nat, v5 = .int .i64 (k : Int) ∧ v4 = .bool (tpB l i k) ∧ Aside0 (k + gk = l.length) ∧ Aside0 (Dr w w'))
      case atStart => exact ⟨0, rfl, rfl, ⟨by omega⟩, hw⟩
      case round =>
        clear hw
        obtain ⟨k, rfl, rfl, hk2, hw⟩ := hrel
        have hkk := hk2.out
        have wk : IntKind.i64.wrap ((k : Int) + 1) = ((k + 1 : Nat) : Int) := by rw [IntKind.wrap_i64]; omega
        by_cases hlt : k < l.length
        · have d1 : decide ((k : Int) < (l.length : Int)) = true := decide_eq_true (by omega)
          have k0 : (0 : Int) ≤ (k : Int) := by omega
          have k9 : (k : Int) < (l.length : Int) := by omega
          have hT1 : tpB l i (k + 1) = (tpB l i k && !ltF (l.getD i default) (l.getD k default)) := rfl
          have DC : ∀ a, wr.cell? a = w.cell? a := fun a => by obtain ⟨m, hm⟩ := hw.out; rw [hm]; rfl
          obtain ⟨ad, hA, g1⟩ := HR.out.2.2 (by omega)
          have k1 : w.cell? (ad.add i) = some (encF (l.getD i default)) := g1 i HI.out
          have k2 : w.cell? (ad.add k) = some (encF (l.getD k default)) := g1 k hlt
          clear g1
          subst hA
          obtain ⟨X, hX⟩ : ∃ X, l.getD i default = X := ⟨_, rfl⟩
          obtain ⟨Y, hY⟩ : ∃ Y, l.getD k default = Y := ⟨_, rfl⟩
          rw [hX] at k1 hT1
          rw [hY] at k2 hT1
          obtain ⟨x, hx⟩ : ∃ x, X.1 = x := ⟨_, rfl⟩
          obtain ⟨y, hy⟩ : ∃ y, Y.1 = y := ⟨_, rfl⟩
          have c3 : wr.cell? (ad.add i) = some (.float .f64 x) := by rw [DC, ← hx]; exact k1
          have c4 : wr.cell? (ad.add k) = some (.float .f64 y) := by rw [DC, ← hy]; exact k2
          have CS := Aside0.mk (fun W => less_q X Y hx hy W)
          obtain ⟨ki, rfl⟩ : ∃ m, gk = m + 1 := ⟨gk - 1, by omega⟩
          have HK : Aside0 (k + 1 + ki = l.length) := ⟨by omega⟩
          clear k1 k2 hX hY hx hy hk2 hkk hlt DC
          cases ht : tpB l i k with
          | false =>
            have HT : Aside0 (tpB l i (k + 1) = false) := ⟨by rw [hT1, ht]; rfl⟩
            clear hT1
            go_wp2_with fail
            go_quiet (fail)
            go_wp2_with fail
            try rw [wk]
            go_roundg ki
            case measure => omega
            case rel => exact ⟨k + 1, rfl, by rw [HT.out], HK, ⟨Dr.trans hw.out ⟨_, rfl⟩⟩⟩
          | true =>
            cases hq : ltF X Y with
            | true =>
              have HT : Aside0 (tpB l i (k + 1) = false) := ⟨by rw [hT1, ht, hq]; rfl⟩
              rw [hq] at CS
              clear hT1 hq
              go_wp2_with fail
              go_quiet (first | (go_at_call 17; exact Calls.quiet_of (CS.out _)))
              go_wp2_with fail
              try rw [wk]
              go_roundg ki
              case measure => omega
              case rel => exact ⟨k + 1, rfl, by rw [HT.out], HK, ⟨Dr.trans hw.out ⟨_, rfl⟩⟩⟩
            | false =>
              have HT : Aside0 (tpB l i (k + 1) = true) := ⟨by rw [hT1, ht, hq]; rfl⟩
              rw [hq] at CS
              clear hT1 hq
              go_wp2_with fail
              go_quiet (first | (go_at_call 17; exact Calls.quiet_of (CS.out _)))
              go_wp2_with fail
              try rw [wk]
              go_roundg ki
              case measure => omega
              case rel => exact ⟨k + 1, rfl, by rw [HT.out], HK, ⟨Dr.trans hw.out ⟨_, rfl⟩⟩⟩
        · have d1 : decide ((k : Int) < (l.length : Int)) = false := decide_eq_false (by omega)
          obtain rfl : k = l.length := by omega
          clear hkk hlt
          rcases TS.out with ⟨h0, _⟩ | ⟨t, eT, ht, h1, h2⟩
          · have := HI.out; omega
          · have hit : i ≤ t := by have := hle.out (by omega); omega
            by_cases q : i = t
            · have HT := Aside0.mk (tpB_all (l := l) (i := i) (n := l.length) (by rw [q]; exact h1))
              have ET : Aside0 (T = (i : Int)) := ⟨by rw [eT, q]⟩
              clear h1 h2 ht hit q eT
              rw [HT.out]
              go_wp2
              go_ret
              exact ⟨by rw [ET.out]; rfl, hw.out⟩
            · have HT := Aside0.mk (tpB_no (l := l) (i := i) (n := l.length) (h2 i (by omega)) ht)
              have LE : Aside0 (l.length ≠ 0 → ((i + 1 : Nat) : Int) ≤ T) := ⟨fun _ => by omega⟩
              have HK : Aside0 (i + 1 + (G - 1) = l.length) := ⟨by have := hk.out; have := HI.out; omega⟩
              have HG : Aside0 (G - 1 < G) := ⟨by have := hk.out; have := HI.out; omega⟩
              clear h1 h2 ht hit q eT
              rw [HT.out]
              go_wp2_with fail
              try rw [wi]
              go_roundg (G - 1)
              case measure => have := HG.out; omega
              case rel => exact ⟨i + 1, rfl, HK, LE, hw⟩
    · have c1 : decide ((i : Int) < (l.length : Int)) = false := decide_eq_false (by omega)
      have ET : Aside0 (T = -1) := ⟨by rcases TS.out with ⟨_, e⟩ | ⟨t, e, ht, _⟩; exact e; have := hle.out (by omega); omega⟩
      clear hkk hi
      have c2 : decide (i < l.length) = false := decide_eq_false (by intro h; rw [decide_eq_false_iff_not] at c1; omega)
      go_wp2
      go_ret
      exact ⟨by rw [ET.out]; rfl, hw.out⟩
end Go.Proofs.Ytkkfckfmjhfakaa.Mt
