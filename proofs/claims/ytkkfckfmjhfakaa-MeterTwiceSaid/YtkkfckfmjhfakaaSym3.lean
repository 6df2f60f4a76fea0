/- Floats and the meter: contracts by hand, and the laws over them. -/
import Derived.Test.YtkkfckfmjhfakaaOwn
import Derived.Test.YtkkfckfmjhfakaaSym2
namespace Go.Proofs.Ytkkfckfmjhfakaa.Mt
open Go Go.RowKit Go.Proofs.YtkkfckfmjhfakaaW.PrintWords Go.Proofs.YtkkfckfmjhfakaaW.PrintLast Go.Proofs.YtkkfckfmjhfakaaW.PrintMore Go.Proofs.Ytkkfckfmjhfakaa.Mth Go.Proofs.Ytkkfckfmjhfakaa.Own Go.Proofs
set_option linter.unusedVariables false
set_option linter.unusedSimpArgs false
/-! ### Merging in place: one number on the right -/
open Go.Sort
set_option maxHeartbeats 8000000 in
set_option maxRecDepth 1000000 in
theorem sym_right (blk off cap a m b : Nat) (d : Array F64) (w0 w : World) (hR : RW w0 blk off d w) (ham : a + 1 < m) (hmb : b = m + 1) (hb : b ≤ d.size) (hsz : d.size ≤ 1000000) (hs1 : SortedIn ltF a m d) :
    Calls Try.prog 38 #[.slice (some ⟨blk, off, none⟩) d.size cap, .int .i64 a, .int .i64 m, .int .i64 b, .func (.func 30) #[] #[]] w fun e w' => e = .returned (.tuple #[]) ∧ ∃ d' : Array F64, PermIn a b d d' ∧ SortedIn ltF a b d' ∧ RW w0 blk off d' w' := by
  have HR := Aside0.mk hR
  have HS1 := Aside0.mk hs1
  have HMB := Aside0.mk hmb
  have HAM := Aside0.mk ham
  obtain ⟨u, hu⟩ : ∃ u, m - a = u := ⟨_, rfl⟩
  have e1 : (m : Int) - (a : Int) = (u : Int) := by omega
  have r1 : IntKind.i64.wrap (u : Int) = (u : Int) := by rw [IntKind.wrap_i64]; omega
  have n1 : ((u : Int) == 1) = false := beq_eq_false_iff_ne.2 (by omega)
  have e2 : (b : Int) - (m : Int) = 1 := by omega
  have e2' : IntKind.i64.wrap ((b : Int) - (m : Int)) = 1 := by rw [IntKind.wrap_i64]; omega
  clear hR hs1 hmb hu ham
  go_enter Try.func38, Try.ntmps38
  go_wp2_with fail
  clear e1 r1 n1 e2 e2'
  go_loopg [14, 15] (m - a) (fun gk v14 v15 w' => ∃ i j : Nat, v14 = .int .i64 (i : Int) ∧ v15 = .int .i64 (j : Int) ∧ Aside0 (a ≤ i ∧ i ≤ j ∧ j ≤ m ∧ j - i ≤ gk) ∧ Aside0 (∀ k, a ≤ k → k < i → ltF d[m]! d[k]! = false) ∧ Aside0 (j < m → ltF d[m]! d[j]! = true) ∧ Aside0 (RW w0 blk off d w'))
  case atStart => exact ⟨a, m, rfl, rfl, ⟨by have := HAM.out; omega⟩, ⟨fun k h1 h2 => by omega⟩, ⟨fun h => by omega⟩, HR⟩
  case round =>
    clear HR
    obtain ⟨i, j, rfl, rfl, hb_, hlo, hhi, HR⟩ := hrel
    have hbb := hb_.out
    have ham := HAM.out
    have hmb := HMB.out
    by_cases hij : i < j
    · have t1 : decide ((i : Int) < (j : Int)) = true := decide_eq_true (by omega)
      have t2 : decide (i < j) = true := decide_eq_true hij
      obtain ⟨s, hs⟩ : ∃ s, i + j = s := ⟨_, rfl⟩
      have es : (i : Int) + (j : Int) = (s : Int) := by omega
      obtain ⟨h, hh⟩ : ∃ h, s / 2 = h := ⟨_, rfl⟩
      have eh : (s : Int) / 2 = (h : Int) := by omega
      have h1 : i ≤ h ∧ h < j := by omega
      have h0 : (0 : Int) ≤ (h : Int) := by omega
      have h9 : (h : Int) < (d.size : Int) := by omega
      have a0 : (0 : Int) ≤ (m : Int) := by omega
      have a9 : (m : Int) < (d.size : Int) := by omega
      have eh1 : IntKind.i64.wrap ((h : Int) + 1) = ((h + 1 : Nat) : Int) := by rw [IntKind.wrap_i64]; omega
      have ch := rw_cell HR.out (j := h) (by omega)
      have ca := rw_cell HR.out (j := m) (by omega)
      obtain ⟨x, hx⟩ : ∃ x, d[h]!.1 = x := ⟨_, rfl⟩
      obtain ⟨y, hy⟩ : ∃ y, d[m]!.1 = y := ⟨_, rfl⟩
      obtain ⟨v, hv, hcmp⟩ := cmp_at hy hx
      rw [hx] at ch
      rw [hy] at ca
      have YES : Aside0 (ltF d[m]! d[h]! = false → ∀ k, a ≤ k → k < h + 1 → ltF d[m]! d[k]! = false) := ⟨fun q k k1 k2 => le_trans' ltF_swo (sorted_le ltF_swo HS1.out k1 (show k ≤ h by omega) (by omega)) q⟩
      have NO := Aside0.mk (show ltF d[m]! d[h]! = true → h < m → ltF d[m]! d[h]! = true from fun q _ => q)
      have HB1 : Aside0 (a ≤ h + 1 ∧ h + 1 ≤ j ∧ j ≤ m ∧ j - (h + 1) ≤ gk - 1) := ⟨by omega⟩
      have HB2 : Aside0 (a ≤ i ∧ i ≤ h ∧ h ≤ m ∧ h - i ≤ gk - 1) := ⟨by omega⟩
      have HG : Aside0 (gk - 1 < gk) := ⟨by omega⟩
      have HC := Aside0.mk hcmp
      have HV := Aside0.mk hv
      clear hbb hb_ hs hh h1 hx hy hv hcmp ham hmb hij
      cases q : decide (v < 0) with
      | false =>
        have YS := Aside0.mk (YES.out (HV.out ▸ q))
        clear YES NO HV
        go_wp2_with fail
        go_quiet (first | (go_at_call 30; exact Calls.quiet_of_same (HC.out _)))
        go_wp2_with fail
        try rw [eh1]
        go_roundg (gk - 1)
        case measure => have := HG.out; omega
        case rel => exact ⟨h + 1, j, rfl, rfl, HB1, YS, hhi, ⟨rw_drew HR.out _⟩⟩
      | true =>
        have NS := Aside0.mk (NO.out (HV.out ▸ q))
        clear YES NO HV
        go_wp2_with fail
        go_quiet (first | (go_at_call 30; exact Calls.quiet_of_same (HC.out _)))
        go_wp2_with fail
        go_roundg (gk - 1)
        case measure => have := HG.out; omega
        case rel => exact ⟨i, h, rfl, rfl, HB2, hlo, NS, ⟨rw_drew HR.out _⟩⟩
    · obtain rfl : i = j := by omega
      have t1 : decide ((i : Int) < (i : Int)) = false := decide_eq_false (by omega)
      have HI : Aside0 (a ≤ i ∧ i ≤ m) := ⟨by omega⟩
      clear hbb hb_ ham hmb hij
      go_wp2_with fail
      go_loopg [17] (m - i) (fun gk v17 w' => ∃ (k : Nat) (c : Array F64), v17 = .int .i64 (k : Int) ∧ Aside0 (i ≤ k ∧ k ≤ m ∧ k = i + gk) ∧ Aside0 (Rot k m (m + 1) d c) ∧ Aside0 (RW w0 blk off c w'))
      case atStart => exact ⟨m, d, rfl, ⟨by have := HI.out; omega⟩, ⟨rot_down_nil m d⟩, HR⟩
      case round =>
        clear HR
        obtain ⟨k, c, rfl, hb_, HT, HR⟩ := hrel
        have hbb := hb_.out
        have hcs := HT.out.1
        have hmb := HMB.out
        by_cases hk : i < k
        · obtain ⟨k1, rfl⟩ : ∃ k1, k = k1 + 1 := ⟨k - 1, by omega⟩
          have t2 : decide ((i : Int) < ((k1 + 1 : Nat) : Int)) = true := decide_eq_true (by omega)
          have t3 : decide (i < k1 + 1) = true := decide_eq_true hk
          have HT2 := Aside0.mk (rot_down HT.out (by omega) (by omega))
          have HR2 := Aside0.mk (rw_swp HR.out (i := k1 + 1) (j := k1) (by omega) (by omega))
          have ca := rw_cell HR.out (j := k1 + 1) (by omega)
          have cb := rw_cell HR.out (j := k1) (by omega)
          have fa := rw_frozen HR.out (j := k1 + 1) (by omega)
          have fb := rw_frozen HR.out (j := k1) (by omega)
          obtain ⟨k, hk2⟩ : ∃ k, k1 + 1 = k := ⟨_, rfl⟩
          rw [hk2] at HT2 HR2 ca fa t2 t3
          rw [hk2]
          have ek : (k : Int) - 1 = (k1 : Int) := by omega
          have rk : IntKind.i64.wrap (k1 : Int) = (k1 : Int) := by rw [IntKind.wrap_i64]; omega
          have p0 : (0 : Int) ≤ (k : Int) := by omega
          have q0 : (0 : Int) ≤ (k1 : Int) := by omega
          have p1 : (k : Int) < (d.size : Int) := by omega
          have q1 : (k1 : Int) < (d.size : Int) := by omega
          have npq : k1 ≠ k := by omega
          obtain ⟨x, hx⟩ : ∃ x, c[k]!.1 = x := ⟨_, rfl⟩
          obtain ⟨y, hy⟩ : ∃ y, c[k1]!.1 = y := ⟨_, rfl⟩
          rw [hx, hy] at HR2
          rw [hx] at ca
          rw [hy] at cb
          have HB1 : Aside0 (i ≤ k1 ∧ k1 ≤ m ∧ k1 = i + (gk - 1)) := ⟨by omega⟩
          have HG : Aside0 (gk - 1 < gk) := ⟨by omega⟩
          have hst := fun (a : Addr) (v : Nat) (m : Mode) (w : World) => run_store Try.prog w a (.float .f64 v) m rfl
          clear HR HT hx hy hcs hbb hb_ hmb hk hk2
          go_wp2_with fail
          go_region
          all_goals go_wp2
          go_roundg (gk - 1)
          case measure => have := HG.out; omega
          case rel => exact ⟨k1, _, rfl, HB1, HT2, HR2⟩
        · obtain rfl : k = i := by omega
          have t2 : decide ((k : Int) < (k : Int)) = false := decide_eq_false (by omega)
          have FIN := Aside0.mk (show PermIn a b d c ∧ SortedIn ltF a b c from by
            have hr := HT.out
            have hi := HI.out
            refine ⟨permIn_mono _ _ _ _ a b hi.1 (by omega) (by omega) hr.2.1, ?_⟩
            rw [hmb]
            exact sym_one_right ltF_swo hr hi.1 hi.2 HS1.out hlo.out hhi.out)
          clear hbb hb_ hmb hk hcs HT
          go_wp2
          (try simp only [Exit.inBlock, Exit.then])
          refine bodyPost_ret (results_none rfl _ _ _) rfl ?_
          exact ⟨rfl, c, FIN.out.1, FIN.out.2, HR.out⟩
end Go.Proofs.Ytkkfckfmjhfakaa.Mt
