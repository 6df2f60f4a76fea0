/- Floats and the meter: contracts by hand, and the laws over them. -/
import Derived.Test.YtkkfckfmjhfakaaOwn
import Derived.Test.YtkkfckfmjhfakaaQui
import Derived.Test.YtkkfckfmjhfakaaSta2
namespace Go.Proofs.Ytkkfckfmjhfakaa.Mt
open Go Go.RowKit Go.Proofs.YtkkfckfmjhfakaaW.PrintWords Go.Proofs.YtkkfckfmjhfakaaW.PrintLast Go.Proofs.YtkkfckfmjhfakaaW.PrintMore Go.Proofs.Ytkkfckfmjhfakaa.Mth Go.Proofs.Ytkkfckfmjhfakaa.Own Go.Proofs
set_option linter.unusedVariables false
set_option linter.unusedSimpArgs false
/-! ### The document's All and Top -/
open Go.Sort
theorem less_q (X Y : F64) {x y : Nat} (hx : X.1 = x) (hy : Y.1 = y) (w : World) : Calls Try.prog 17 #[.float .f64 x, .float .f64 y] w fun e w' => e = .returned (.bool (ltF X Y)) ∧ ∃ n, w' = w.drewN n := by
  subst hx hy
  exact (RLess_calls_q X.1 Y.1 w X.2 Y.2).mono fun e w' h => ⟨h.1, h.2⟩
theorem same_q (X Y : F64) {x y : Nat} (hx : X.1 = x) (hy : Y.1 = y) (w : World) : Calls Try.prog 11 #[.float .f64 x, .float .f64 y] w fun e w' => e = .returned (.bool (sameB X.1 Y.1)) ∧ ∃ n, w' = w.drewN n := by
  subst hx hy
  exact (Same_calls_q X.1 Y.1 w X.2 Y.2).mono fun e w' h => ⟨h.1, h.2⟩
set_option maxHeartbeats 8000000 in
theorem All_true (A1 : Option Addr) (c1 : Nat) (l1 : List F64) (A2 : Option Addr) (c2 : Nat) (l2 : List F64) (w : World) (h1 : ReadsOf encF default w A1 l1.length l1) (h2 : ReadsOf encF default w A2 l2.length l2) (hl : l2.length = l1.length) (hb : l1.length ≤ 100000)
    (hs : ∀ i, i < l1.length → sameB (l1.getD i default).1 (l2.getD i default).1 = true) :
    Calls Try.prog 18 #[.slice A1 l1.length c1, .slice A2 l2.length c2] w fun e w' => e = .returned (.bool true) ∧ Dr w w' := by
  rw [hl] at h2
  rw [hl]
  have H1 := Aside0.mk h1
  have H2 := Aside0.mk h2
  have HS := Aside0.mk hs
  clear h1 h2 hs hl
  have e0 : ((l1.length : Int) != (l1.length : Int)) = false := by simp
  go_enter Try.func18, Try.ntmps18
  go_wp2_with fail
  clear e0
  go_loopg [5] l1.length (fun gk v5 w' => ∃ i : Nat, v5 = .int .i64 (i : Int) ∧ Aside0 (i + gk = l1.length) ∧ Aside0 (Dr w w'))
  case atStart => exact ⟨0, rfl, ⟨by omega⟩, ⟨Dr.refl _⟩⟩
  case round =>
    obtain ⟨i, rfl, hk, hw⟩ := hrel
    have DC : ∀ a, wr.cell? a = w.cell? a := fun a => by obtain ⟨m, hm⟩ := hw.out; rw [hm]; rfl
    have hkk := hk.out
    have wi : IntKind.i64.wrap ((i : Int) + 1) = ((i + 1 : Nat) : Int) := by rw [IntKind.wrap_i64]; omega
    by_cases hi : i < l1.length
    · have c1 : decide ((i : Int) < (l1.length : Int)) = true := decide_eq_true (by omega)
      have i0 : (0 : Int) ≤ (i : Int) := by omega
      have i9 : (i : Int) < (l1.length : Int) := by omega
      obtain ⟨a1, hA1, g1⟩ := H1.out.2.2 (by omega)
      obtain ⟨a2, hA2, g2⟩ := H2.out.2.2 (by omega)
      have k1 : w.cell? (a1.add i) = some (encF (l1.getD i default)) := g1 i hi
      have k2 : w.cell? (a2.add i) = some (encF (l2.getD i default)) := g2 i hi
      have hs := HS.out i hi
      clear g1 g2
      subst hA1 hA2
      obtain ⟨X, hX⟩ : ∃ X, l1.getD i default = X := ⟨_, rfl⟩
      obtain ⟨Y, hY⟩ : ∃ Y, l2.getD i default = Y := ⟨_, rfl⟩
      rw [hX] at k1 hs
      rw [hY] at k2 hs
      obtain ⟨x, hx⟩ : ∃ x, X.1 = x := ⟨_, rfl⟩
      obtain ⟨y, hy⟩ : ∃ y, Y.1 = y := ⟨_, rfl⟩
      have c3 : wr.cell? (a1.add i) = some (.float .f64 x) := by rw [DC, ← hx]; exact k1
      have c4 : wr.cell? (a2.add i) = some (.float .f64 y) := by rw [DC, ← hy]; exact k2
      have CS := Aside0.mk (fun W => same_q X Y hx hy W)
      rw [hs] at CS
      obtain ⟨ki, rfl⟩ : ∃ m, gk = m + 1 := ⟨gk - 1, by omega⟩
      have HK : Aside0 (i + 1 + ki = l1.length) := ⟨by omega⟩
      clear k1 k2 hX hY hx hy hs hk hkk hi DC
      go_wp2_with fail
      go_quiet (first | (go_at_call 11; exact Calls.quiet_of (CS.out _)))
      go_wp2_with fail
      try rw [wi]
      go_roundg ki
      case measure => omega
      case rel => exact ⟨i + 1, rfl, HK, ⟨Dr.trans hw.out ⟨_, rfl⟩⟩⟩
    · have c1 : decide ((i : Int) < (l1.length : Int)) = false := decide_eq_false (by omega)
      clear DC
      go_wp2
      go_ret
      exact ⟨rfl, hw.out⟩
end Go.Proofs.Ytkkfckfmjhfakaa.Mt
