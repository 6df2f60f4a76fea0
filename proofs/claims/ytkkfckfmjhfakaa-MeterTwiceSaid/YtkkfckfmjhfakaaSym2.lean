/- Floats and the meter: contracts by hand, and the laws over them. -/
import Derived.Test.YtkkfckfmjhfakaaOwn
import Derived.Test.YtkkfckfmjhfakaaSym
namespace Go.Proofs.Ytkkfckfmjhfakaa.Mt
open Go Go.RowKit Go.Proofs.YtkkfckfmjhfakaaW.PrintWords Go.Proofs.YtkkfckfmjhfakaaW.PrintLast Go.Proofs.YtkkfckfmjhfakaaW.PrintMore Go.Proofs.Ytkkfckfmjhfakaa.Mth Go.Proofs.Ytkkfckfmjhfakaa.Own Go.Proofs
set_option linter.unusedVariables false
set_option linter.unusedSimpArgs false
/-! ### Merging in place: one number on the left -/
open Go.Sort
theorem lt_le (hS : SWO ltF) {x y z : F64} (h1 : ltF y x = false) (h2 : ltF y z = true) : ltF x z = true := by
  cases h : ltF x z with
  | true => rfl
  | false => have := hS.ntrans y x z h1 h; rw [h2] at this; cases this
theorem le_lt (hS : SWO ltF) {x y z : F64} (h1 : ltF x y = true) (h2 : ltF z y = false) : ltF x z = true := by
  cases h : ltF x z with
  | true => rfl
  | false => have := hS.ntrans x z y h h2; rw [h1] at this; cases this
/-- What the comparison of two numbers hands back. -/
theorem cmp_at {x y : Nat} {X Y : F64} (hx : X.1 = x) (hy : Y.1 = y) : ∃ v : Int, decide (v < 0) = ltF X Y ∧ ∀ w : World, Calls Try.prog 30 #[.float .f64 x, .float .f64 y] w fun e w' => e = .returned (.int .i64 v) ∧ w' = w := by
  subst hx hy
  exact ⟨cf X Y, congrFun (congrFun lt_cf X) Y, fun w => cmp_calls X Y w⟩
theorem half_bd {i j : Nat} (h : i < j) : i ≤ (i + j) / 2 ∧ (i + j) / 2 < j := by omega
set_option maxHeartbeats 8000000 in
set_option maxRecDepth 1000000 in
theorem sym_left (blk off cap a m b : Nat) (d : Array F64) (w0 w : World) (hR : RW w0 blk off d w) (ham : m = a + 1) (h2 : m < b) (hb : b ≤ d.size) (hsz : d.size ≤ 1000000) (hs2 : SortedIn ltF m b d) :
    Calls Try.prog 38 #[.slice (some ⟨blk, off, none⟩) d.size cap, .int .i64 a, .int .i64 m, .int .i64 b, .func (.func 30) #[] #[]] w fun e w' => e = .returned (.tuple #[]) ∧ ∃ d' : Array F64, PermIn a b d d' ∧ SortedIn ltF a b d' ∧ RW w0 blk off d' w' := by
  have HR := Aside0.mk hR
  have HS2 := Aside0.mk hs2
  have HAM := Aside0.mk ham
  have e1 : (m : Int) - (a : Int) = 1 := by omega
  have e1' : IntKind.i64.wrap ((m : Int) - (a : Int)) = 1 := by rw [IntKind.wrap_i64]; omega
  clear hR hs2 ham
  go_enter Try.func38, Try.ntmps38
  go_wp2_with fail
  clear e1 e1'
  go_loopg [10, 11] (b - m) (fun gk v10 v11 w' => ∃ i j : Nat, v10 = .int .i64 (i : Int) ∧ v11 = .int .i64 (j : Int) ∧ Aside0 (m ≤ i ∧ i ≤ j ∧ j ≤ b ∧ j - i ≤ gk) ∧ Aside0 (∀ k, m ≤ k → k < i → ltF d[k]! d[a]! = true) ∧ Aside0 (j < b → ltF d[j]! d[a]! = false) ∧ Aside0 (RW w0 blk off d w'))
  case atStart => exact ⟨m, b, rfl, rfl, ⟨by omega⟩, ⟨fun k h1 h2 => by omega⟩, ⟨fun h => by omega⟩, HR⟩
  case round =>
    clear HR
    obtain ⟨i, j, rfl, rfl, hb_, hlo, hhi, HR⟩ := hrel
    have hbb := hb_.out
    have ham := HAM.out
    by_cases hij : i < j
    · have t1 : decide ((i : Int) < (j : Int)) = true := decide_eq_true (by omega)
      have t2 : decide (i < j) = true := decide_eq_true hij
      obtain ⟨s, hs⟩ : ∃ s, i + j = s := ⟨_, rfl⟩
      have es : (i : Int) + (j : Int) = (s : Int) := by omega
      obtain ⟨h, hh⟩ : ∃ h, s / 2 = h := ⟨_, rfl⟩
      have eh : (s : Int) / 2 = (h : Int) := by omega
      have h1 : i ≤ h ∧ h < j := by omega
      have h0 : (0 : Int) ≤ (h : Int) := by omega
      have h9 : (h : Int) < (d.size : Int) := by omega
      have a0 : (0 : Int) ≤ (a : Int) := by omega
      have a9 : (a : Int) < (d.size : Int) := by omega
      have eh1 : IntKind.i64.wrap ((h : Int) + 1) = ((h + 1 : Nat) : Int) := by rw [IntKind.wrap_i64]; omega
      have ch := rw_cell HR.out (j := h) (by omega)
      have ca := rw_cell HR.out (j := a) (by omega)
      obtain ⟨x, hx⟩ : ∃ x, d[h]!.1 = x := ⟨_, rfl⟩
      obtain ⟨y, hy⟩ : ∃ y, d[a]!.1 = y := ⟨_, rfl⟩
      obtain ⟨v, hv, hcmp⟩ := cmp_at hx hy
      rw [hx] at ch
      rw [hy] at ca
      have YES : Aside0 (ltF d[h]! d[a]! = true → ∀ k, m ≤ k → k < h + 1 → ltF d[k]! d[a]! = true) := ⟨fun q k k1 k2 => lt_le ltF_swo (sorted_le ltF_swo HS2.out k1 (show k ≤ h by omega) (by omega)) q⟩
      have NO := Aside0.mk (show ltF d[h]! d[a]! = false → h < b → ltF d[h]! d[a]! = false from fun q _ => q)
      have HB1 : Aside0 (m ≤ h + 1 ∧ h + 1 ≤ j ∧ j ≤ b ∧ j - (h + 1) ≤ gk - 1) := ⟨by omega⟩
      have HB2 : Aside0 (m ≤ i ∧ i ≤ h ∧ h ≤ b ∧ h - i ≤ gk - 1) := ⟨by omega⟩
      have HG : Aside0 (gk - 1 < gk) := ⟨by omega⟩
      have HC := Aside0.mk hcmp
      have HV := Aside0.mk hv
      clear hbb hb_ hs hh h1 hx hy hv hcmp ham hij
      cases q : decide (v < 0) with
      | true =>
        have YS := Aside0.mk (YES.out (HV.out ▸ q))
        clear YES NO HV
        go_wp2_with fail
        go_quiet (first | (go_at_call 30; exact Calls.quiet_of_same (HC.out _)))
        go_wp2_with fail
        try rw [eh1]
        go_roundg (gk - 1)
        case measure => have := HG.out; omega
        case rel => exact ⟨h + 1, j, rfl, rfl, HB1, YS, hhi, ⟨rw_drew HR.out _⟩⟩
      | false =>
        have NS := Aside0.mk (NO.out (HV.out ▸ q))
        clear YES NO HV
        go_wp2_with fail
        go_quiet (first | (go_at_call 30; exact Calls.quiet_of_same (HC.out _)))
        go_wp2_with fail
        go_roundg (gk - 1)
        case measure => have := HG.out; omega
        case rel => exact ⟨i, h, rfl, rfl, HB2, hlo, NS, ⟨rw_drew HR.out _⟩⟩
    · obtain rfl : i = j := by omega
      have t1 : decide ((i : Int) < (i : Int)) = false := decide_eq_false (by omega)
      have HI : Aside0 (m ≤ i ∧ i ≤ b) := ⟨by omega⟩
      have HX : Aside0 (a + 1 ≤ i ∧ i ≤ b) := ⟨by omega⟩
      obtain ⟨z, hz⟩ : ∃ z, i - 1 = z := ⟨_, rfl⟩
      have ez : (i : Int) - 1 = (z : Int) := by omega
      have rz : IntKind.i64.wrap (z : Int) = (z : Int) := by rw [IntKind.wrap_i64]; omega
      have az : a ≤ z := by omega
      have zi : z + 1 = i := by omega
      have ZI := Aside0.mk zi
      have EZ := Aside0.mk (And.intro ez rz)
      clear zi hz ez rz hbb hb_ ham hij
      have ez := EZ.out.1
      have rz := EZ.out.2
      go_wp2_with fail
      go_loopg [13] (z - a) (fun gk v13 w' => ∃ (k : Nat) (c : Array F64), v13 = .int .i64 (k : Int) ∧ Aside0 (a ≤ k ∧ k ≤ z ∧ k + gk = z) ∧ Aside0 (Rot a (a + 1) (k + 1) d c) ∧ Aside0 (RW w0 blk off c w'))
      case atStart => exact ⟨a, d, rfl, ⟨by omega⟩, ⟨rot_up_nil a d⟩, HR⟩
      case round =>
        clear HR
        obtain ⟨k, c, rfl, hb_, HT, HR⟩ := hrel
        have hbb := hb_.out
        have hcs := HT.out.1
        have zi := ZI.out
        have hib := HI.out
        by_cases hk : k < z
        · have t2 : decide ((k : Int) < (z : Int)) = true := decide_eq_true (by omega)
          have t3 : decide (k < z) = true := decide_eq_true hk
          obtain ⟨k1, hk1⟩ : ∃ k1, k + 1 = k1 := ⟨_, rfl⟩
          have ek : (k : Int) + 1 = (k1 : Int) := by omega
          have rk : IntKind.i64.wrap (k1 : Int) = (k1 : Int) := by rw [IntKind.wrap_i64]; omega
          have p0 : (0 : Int) ≤ (k : Int) := by omega
          have q0 : (0 : Int) ≤ (k1 : Int) := by omega
          have p1 : (k : Int) < (d.size : Int) := by omega
          have q1 : (k1 : Int) < (d.size : Int) := by omega
          have npq : k1 ≠ k := by omega
          have HT2 := Aside0.mk (rot_up HT.out hbb.1 (by omega))
          have HR2 := Aside0.mk (rw_swp HR.out (i := k) (j := k + 1) (by omega) (by omega))
          have ca := rw_cell HR.out (j := k) (by omega)
          have cb := rw_cell HR.out (j := k + 1) (by omega)
          have fa := rw_frozen HR.out (j := k) (by omega)
          have fb := rw_frozen HR.out (j := k + 1) (by omega)
          rw [hk1] at HT2 HR2 cb fb
          have HT3 : Aside0 (Rot a (a + 1) (k1 + 1) d (swp c k k1)) := ⟨by rw [← hk1]; rw [← hk1] at HT2; exact HT2.out⟩
          obtain ⟨x, hx⟩ : ∃ x, c[k]!.1 = x := ⟨_, rfl⟩
          obtain ⟨y, hy⟩ : ∃ y, c[k1]!.1 = y := ⟨_, rfl⟩
          rw [hx, hy] at HR2
          rw [hx] at ca
          rw [hy] at cb
          have HB1 : Aside0 (a ≤ k1 ∧ k1 ≤ z ∧ k1 + (gk - 1) = z) := ⟨by omega⟩
          have HG : Aside0 (gk - 1 < gk) := ⟨by omega⟩
          have hst := fun (a : Addr) (v : Nat) (m : Mode) (w : World) => run_store Try.prog w a (.float .f64 v) m rfl
          clear HT2 HR HT hx hy hcs hbb hb_ zi hib hk hk1
          go_wp2_with fail
          go_region
          all_goals go_wp2
          go_roundg (gk - 1)
          case measure => have := HG.out; omega
          case rel => exact ⟨k1, _, rfl, HB1, HT3, HR2⟩
        · have t2 : decide ((k : Int) < (z : Int)) = false := decide_eq_false (by omega)
          have t3 : decide (k < z) = false := decide_eq_false hk
          obtain rfl : k = z := by omega
          have FIN := Aside0.mk (show PermIn a b d c ∧ SortedIn ltF a b c from by
            have hr := HT.out
            rw [zi] at hr
            refine ⟨permIn_mono _ _ _ _ a b (Nat.le_refl _) (by omega) (by omega) hr.2.1, ?_⟩
            have am := HAM.out
            exact sym_one_left ltF_swo hr HX.out.1 HX.out.2 (by rw [← am]; exact HS2.out) (fun k k1 k2 => hlo.out k (by omega) k2) hhi.out)
          clear hbb hb_ zi hib hk hcs HT
          go_wp2
          (try simp only [Exit.inBlock, Exit.then])
          refine bodyPost_ret (results_none rfl _ _ _) rfl ?_
          exact ⟨rfl, c, FIN.out.1, FIN.out.2, HR.out⟩
end Go.Proofs.Ytkkfckfmjhfakaa.Mt
