/- Floats and the meter: contracts by hand, and the laws over them. -/
import Derived.Test.YtkkfckfmjhfakaaOwn
import Derived.Test.YtkkfckfmjhfakaaSym3
namespace Go.Proofs.Ytkkfckfmjhfakaa.Mt
open Go Go.RowKit Go.Proofs.YtkkfckfmjhfakaaW.PrintWords Go.Proofs.YtkkfckfmjhfakaaW.PrintLast Go.Proofs.YtkkfckfmjhfakaaW.PrintMore Go.Proofs.Ytkkfckfmjhfakaa.Mth Go.Proofs.Ytkkfckfmjhfakaa.Own Go.Proofs
set_option linter.unusedVariables false
set_option linter.unusedSimpArgs false
/-! ### Merging in place: both sides of two numbers or more -/
open Go.Sort
/-- What a merge of [a, m) and [m, b) does, from any world whose row holds d. -/
def SymC (blk off cap : Nat) (w0 : World) (N a m b : Nat) : Prop := ∀ (d : Array F64) (w : World), d.size = N → RW w0 blk off d w → SortedIn ltF a m d → SortedIn ltF m b d →
    Calls Try.prog 38 #[.slice (some ⟨blk, off, none⟩) N cap, .int .i64 a, .int .i64 m, .int .i64 b, .func (.func 30) #[] #[]] w fun e w' => e = .returned (.tuple #[]) ∧ ∃ d' : Array F64, PermIn a b d d' ∧ SortedIn ltF a b d' ∧ RW w0 blk off d' w'
theorem sym_join {a mid b : Nat} {d c cl cz : Array F64} (h1 : a < mid) (h2 : mid < b) (hb : b ≤ d.size) (hs : c.size = d.size) (pd : PermIn a b d c) (pl : PermIn a mid c cl) (pr : PermIn mid b cl cz) (sl : SortedIn ltF a mid cl) (sr : SortedIn ltF mid b cz)
    (cr : ∀ i j, a ≤ i → i < mid → mid ≤ j → j < b → ltF c[j]! c[i]! = false) : PermIn a b d cz ∧ SortedIn ltF a b cz := by
  have q1 : ∀ i, a ≤ i → i < mid → ∀ j, mid ≤ j → j < b → ltF c[j]! cl[i]! = false := permIn_all c cl a mid (fun x => ∀ j, mid ≤ j → j < b → ltF c[j]! x = false) (by omega) pl (fun i hi him j hj hjb => cr i j hi him hj hjb)
  have q2 : ∀ i, a ≤ i → i < mid → ∀ j, mid ≤ j → j < b → ltF cz[j]! cl[i]! = false := fun i hi him => permIn_all cl cz mid b (fun y => ltF y cl[i]! = false) (by rw [pl.1]; omega) pr (fun j hj hjb => by rw [pl.2.1 j (.inr hj)]; exact q1 i hi him j hj hjb)
  refine ⟨permIn_trans _ _ _ _ _ (permIn_trans _ _ _ _ _ pd (permIn_mono _ _ _ _ a b (Nat.le_refl _) (by omega) (by omega) pl)) (permIn_mono _ _ _ _ a b (by omega) (Nat.le_refl _) (by rw [pl.1]; omega) pr), ?_⟩
  refine sorted_join (sorted_perm_out pr (.inl (Nat.le_refl _)) sl) sr fun i j hi him hj hjb => ?_
  rw [pr.2.1 i (.inl him)]
  exact q2 i hi him j hj hjb
set_option maxHeartbeats 32000000 in
set_option maxRecDepth 1000000 in
theorem sym_mid (blk off cap a m b : Nat) (d : Array F64) (w0 w : World) (hR : RW w0 blk off d w) (ham : a + 1 < m) (hmb : m + 1 < b) (hb : b ≤ d.size) (hsz : d.size ≤ 1000000) (hs1 : SortedIn ltF a m d) (hs2 : SortedIn ltF m b d)
    (IH : ∀ a' m' b', a ≤ a' → a' < m' → m' < b' → b' ≤ b → b' - a' < b - a → SymC blk off cap w0 d.size a' m' b') :
    Calls Try.prog 38 #[.slice (some ⟨blk, off, none⟩) d.size cap, .int .i64 a, .int .i64 m, .int .i64 b, .func (.func 30) #[] #[]] w fun e w' => e = .returned (.tuple #[]) ∧ ∃ d' : Array F64, PermIn a b d d' ∧ SortedIn ltF a b d' ∧ RW w0 blk off d' w' := by
  have HR := Aside0.mk hR
  have HS1 := Aside0.mk hs1
  have HS2 := Aside0.mk hs2
  have HAM := Aside0.mk (And.intro ham (And.intro hmb hb))
  have HIH := Aside0.mk IH
  obtain ⟨u, hu⟩ : ∃ u, m - a = u := ⟨_, rfl⟩
  have e1 : (m : Int) - (a : Int) = (u : Int) := by omega
  have r1 : IntKind.i64.wrap (u : Int) = (u : Int) := by rw [IntKind.wrap_i64]; omega
  have n1 : ((u : Int) == 1) = false := beq_eq_false_iff_ne.2 (by omega)
  obtain ⟨v, hv⟩ : ∃ v, b - m = v := ⟨_, rfl⟩
  have e2 : (b : Int) - (m : Int) = (v : Int) := by omega
  have r2 : IntKind.i64.wrap (v : Int) = (v : Int) := by rw [IntKind.wrap_i64]; omega
  have n2 : ((v : Int) == 1) = false := beq_eq_false_iff_ne.2 (by omega)
  obtain ⟨s0, hs0⟩ : ∃ s0, a + b = s0 := ⟨_, rfl⟩
  have e3 : (a : Int) + (b : Int) = (s0 : Int) := by omega
  obtain ⟨mid, hmid⟩ : ∃ mid, s0 / 2 = mid := ⟨_, rfl⟩
  have e4 : (s0 : Int) / 2 = (mid : Int) := by omega
  obtain ⟨n, hn⟩ : ∃ n, mid + m = n := ⟨_, rfl⟩
  have e5 : (mid : Int) + (m : Int) = (n : Int) := by omega
  have r5 : IntKind.i64.wrap (n : Int) = (n : Int) := by rw [IntKind.wrap_i64]; omega
  obtain ⟨q, hq⟩ : ∃ q, n - 1 = q := ⟨_, rfl⟩
  have e6 : (n : Int) - 1 = (q : Int) := by omega
  have r6 : IntKind.i64.wrap (q : Int) = (q : Int) := by rw [IntKind.wrap_i64]; omega
  have HM : Aside0 (mid = (a + b) / 2 ∧ mid + m = n ∧ n = q + 1) := ⟨by omega⟩
  clear hR hs1 hs2 IH hu hv
  obtain ⟨lo, hlo⟩ : ∃ lo, (if mid < m then mid + m - b else a) = lo := ⟨_, rfl⟩
  obtain ⟨hi, hhi⟩ : ∃ hi, (if mid < m then mid else m) = hi := ⟨_, rfl⟩
  have HLO := Aside0.mk hlo
  have HHI := Aside0.mk hhi
  by_cases hmm : mid < m
  · have t0 : decide ((mid : Int) < (m : Int)) = true := decide_eq_true (by omega)
    have t0' : decide (mid < m) = true := decide_eq_true hmm
    rw [if_pos hmm] at hlo hhi
    subst hhi
    have e7 : (n : Int) - (b : Int) = (lo : Int) := by omega
    have r7 : IntKind.i64.wrap (lo : Int) = (lo : Int) := by rw [IntKind.wrap_i64]; omega
    have HLH : Aside0 (lo ≤ mid ∧ mid < m ∧ lo + b = n) := ⟨by omega⟩
    clear hs0 hmid hn hq hlo ham hmb
    go_enter Try.func38, Try.ntmps38
    go_wp2_with fail
    clear t0 t0' e7 r7
    clear e1 r1 n1 e2 r2 n2 e3 e4 e5 r5 e6 r6
    go_loopg [20, 21] (mid - lo) (fun gk v20 v21 w' => ∃ s r : Nat, v20 = .int .i64 (s : Int) ∧ v21 = .int .i64 (r : Int) ∧ Aside0 (lo ≤ s ∧ s ≤ r ∧ r ≤ mid ∧ r - s ≤ gk) ∧ Aside0 (lo < s → ltF d[q - (s - 1)]! d[s - 1]! = false) ∧ Aside0 (r < mid → ltF d[q - r]! d[r]! = true) ∧ Aside0 (RW w0 blk off d w'))
    case atStart => exact ⟨lo, mid, rfl, rfl, ⟨by have := HLH.out; omega⟩, ⟨fun h => by omega⟩, ⟨fun h => by omega⟩, HR⟩
    case round =>
      clear HR
      obtain ⟨s, r, rfl, rfl, hb_, hbelow, habove, HR⟩ := hrel
      have hbb := hb_.out
      have hlh := HLH.out
      have ham := HAM.out
      have hm_ := HM.out
      by_cases hsr : s < r
      · have t1 : decide ((s : Int) < (r : Int)) = true := decide_eq_true (by omega)
        have t2 : decide (s < r) = true := decide_eq_true hsr
        obtain ⟨z, hz⟩ : ∃ z, s + r = z := ⟨_, rfl⟩
        have ez : (s : Int) + (r : Int) = (z : Int) := by omega
        obtain ⟨h, hh⟩ : ∃ h, z / 2 = h := ⟨_, rfl⟩
        have eh : (z : Int) / 2 = (h : Int) := by omega
        have h1 : s ≤ h ∧ h < r := by omega
        obtain ⟨g, hg⟩ : ∃ g, q - h = g := ⟨_, rfl⟩
        have eg : (q : Int) - (h : Int) = (g : Int) := by omega
        have rg : IntKind.i64.wrap (g : Int) = (g : Int) := by rw [IntKind.wrap_i64]; omega
        have h0 : (0 : Int) ≤ (h : Int) := by omega
        have h9 : (h : Int) < (d.size : Int) := by omega
        have a0 : (0 : Int) ≤ (g : Int) := by omega
        have a9 : (g : Int) < (d.size : Int) := by omega
        have eh1 : IntKind.i64.wrap ((h : Int) + 1) = ((h + 1 : Nat) : Int) := by rw [IntKind.wrap_i64]; omega
        have ch := rw_cell HR.out (j := h) (by omega)
        have cg := rw_cell HR.out (j := g) (by omega)
        obtain ⟨x, hx⟩ : ∃ x, d[h]!.1 = x := ⟨_, rfl⟩
        obtain ⟨y, hy⟩ : ∃ y, d[g]!.1 = y := ⟨_, rfl⟩
        obtain ⟨k, hk, hcmp⟩ := cmp_at hy hx
        rw [hx] at ch
        rw [hy] at cg
        have YES : Aside0 (ltF d[g]! d[h]! = false → lo < h + 1 → ltF d[q - (h + 1 - 1)]! d[h + 1 - 1]! = false) := ⟨fun e _ => by rw [Nat.add_sub_cancel, hg]; exact e⟩
        have NO : Aside0 (ltF d[g]! d[h]! = true → h < mid → ltF d[q - h]! d[h]! = true) := ⟨fun e _ => by rw [hg]; exact e⟩
        have HB1 : Aside0 (lo ≤ h + 1 ∧ h + 1 ≤ r ∧ r ≤ mid ∧ r - (h + 1) ≤ gk - 1) := ⟨by omega⟩
        have HB2 : Aside0 (lo ≤ s ∧ s ≤ h ∧ h ≤ mid ∧ h - s ≤ gk - 1) := ⟨by omega⟩
        have HG : Aside0 (gk - 1 < gk) := ⟨by omega⟩
        have HC := Aside0.mk hcmp
        have HV := Aside0.mk hk
        clear hbb hb_ hz hh h1 hg hx hy hk hcmp hlh ham hm_ hsr
        cases t : decide (k < 0) with
        | false =>
          have YS := Aside0.mk (YES.out (HV.out ▸ t))
          clear YES NO HV
          go_wp2_with fail
          go_quiet (first | (go_at_call 30; exact Calls.quiet_of_same (HC.out _)))
          go_wp2_with fail
          try rw [eh1]
          go_roundg (gk - 1)
          case measure => have := HG.out; omega
          case rel => exact ⟨h + 1, r, rfl, rfl, HB1, YS, habove, ⟨rw_drew HR.out _⟩⟩
        | true =>
          have NS := Aside0.mk (NO.out (HV.out ▸ t))
          clear YES NO HV
          go_wp2_with fail
          go_quiet (first | (go_at_call 30; exact Calls.quiet_of_same (HC.out _)))
          go_wp2_with fail
          go_roundg (gk - 1)
          case measure => have := HG.out; omega
          case rel => exact ⟨s, h, rfl, rfl, HB2, hbelow, NS, ⟨rw_drew HR.out _⟩⟩
      · obtain rfl : s = r := by omega
        have t1 : decide ((s : Int) < (s : Int)) = false := decide_eq_false (by omega)
        obtain ⟨f, hf⟩ : ∃ f, n - s = f := ⟨_, rfl⟩
        have ef : (n : Int) - (s : Int) = (f : Int) := by omega
        have rf : IntKind.i64.wrap (f : Int) = (f : Int) := by rw [IntKind.wrap_i64]; omega
        have hf2 : mid + m - s = f := by omega
        have BD : Aside0 (a ≤ s ∧ s ≤ m ∧ s ≤ mid ∧ mid ≤ f ∧ m ≤ f ∧ f ≤ b ∧ a < mid ∧ mid < b ∧ (s < m → m < f → True)) := ⟨by refine ⟨?_, ?_, ?_, ?_, ?_, ?_, ?_, ?_, fun _ _ => trivial⟩ <;> omega⟩
        have SP : Aside0 (∀ c : Array F64, Rot s m f d c → SortedIn ltF a s c ∧ SortedIn ltF s mid c ∧ SortedIn ltF mid f c ∧ SortedIn ltF f b c ∧ ∀ i j, a ≤ i → i < mid → mid ≤ j → j < b → ltF c[j]! c[i]! = false) := ⟨fun c hr => by
          have e := sym_split (mid := mid) (s := s) (lo := lo) (hi := mid) (d := d) (d' := c) ltF_swo (show a < m by omega) (show m < b by omega) hm_.1 HLO.out.symm HHI.out.symm (by omega) (by omega)
            (fun h => by rw [show mid + m - 1 - (s - 1) = q - (s - 1) by omega]; exact hbelow.out h) (fun h => by rw [show mid + m - 1 - s = q - s by omega]; exact habove.out h) HS1.out HS2.out (by rw [hf2]; exact hr)
          rw [hf2] at e
          exact e⟩
        have hns : ¬ (s < m ∧ m < f) → s = m ∨ f = m := by omega
        have HNS := Aside0.mk hns
        clear hbb hb_ hlh ham hm_ hsr hf hf2 hns
        by_cases c1 : s < m ∧ m < f
        · have u1 : decide ((s : Int) < (m : Int)) = true := decide_eq_true (by omega)
          have u1' : decide (s < m) = true := decide_eq_true (by omega)
          have u2 : decide ((m : Int) < (f : Int)) = true := decide_eq_true (by omega)
          have u2' : decide (m < f) = true := decide_eq_true (by omega)
          have CR := Aside0.mk (fun W (h : RW w0 blk off d W) => rotate_calls blk off cap s m f d w0 W h c1.1 c1.2 (by have := BD.out; have := HAM.out; omega) hsz)
          clear c1
          go_wp2_with fail
          refine (CR.out _ HR.out).mono ?_
          rintro e w2 ⟨rfl, c, hr, hw⟩
          have RT := Aside0.mk hr
          have HW := Aside0.mk hw
          clear hr hw CR u1 u1' u2 u2'
          have CS : Aside0 (c.size = d.size) := ⟨RT.out.1⟩
          have SS := Aside0.mk (SP.out c RT.out)
          have PD : Aside0 (PermIn a b d c) := ⟨permIn_mono _ _ _ _ a b BD.out.1 BD.out.2.2.2.2.2.1 HAM.out.2.2 RT.out.2.1⟩
          clear SP
          by_cases v1 : a < s
          · have g1 : decide ((a : Int) < (s : Int)) = true := decide_eq_true (by omega)
            have g1' : decide (a < s) = true := decide_eq_true v1
            by_cases v2 : s < mid
            · have g2 : decide ((s : Int) < (mid : Int)) = true := decide_eq_true (by omega)
              have g2' : decide (s < mid) = true := decide_eq_true v2
              have CL := Aside0.mk (HIH.out a s mid (Nat.le_refl _) v1 v2 (by have := BD.out; omega) (by have := BD.out; omega) c w2 CS.out HW.out SS.out.1 SS.out.2.1)
              clear v1 v2
              go_wp2_with fail
              refine CL.out.mono ?_
              rintro e wl ⟨rfl, cl, hp, hs, hw⟩
              have PL := Aside0.mk hp
              have SL := Aside0.mk hs
              have HWL := Aside0.mk hw
              clear hp hs hw CL g1 g1' g2 g2'
              have SR : Aside0 (SortedIn ltF mid f cl ∧ SortedIn ltF f b cl) := ⟨sorted_perm_out PL.out (.inr (Nat.le_refl _)) SS.out.2.2.1, sorted_perm_out PL.out (.inr BD.out.2.2.2.1) SS.out.2.2.2.1⟩
              have C2 : Aside0 (cl.size = d.size) := ⟨PL.out.1.trans CS.out⟩
              by_cases v1 : mid < f
              · have g1 : decide ((mid : Int) < (f : Int)) = true := decide_eq_true (by omega)
                have g1' : decide (mid < f) = true := decide_eq_true v1
                by_cases v2 : f < b
                · have g2 : decide ((f : Int) < (b : Int)) = true := decide_eq_true (by omega)
                  have g2' : decide (f < b) = true := decide_eq_true v2
                  have CR2 := Aside0.mk (HIH.out mid f b (by have := BD.out; omega) v1 v2 (Nat.le_refl _) (by have := BD.out; omega) cl wl C2.out HWL.out SR.out.1 SR.out.2)
                  clear v1 v2
                  go_wp2_with fail
                  refine CR2.out.mono ?_
                  rintro e wz ⟨rfl, cz, hp, hs, hw⟩
                  have PR := Aside0.mk hp
                  have SR2 := Aside0.mk hs
                  have HWR := Aside0.mk hw
                  clear hp hs hw CR2
                  have J := sym_join BD.out.2.2.2.2.2.2.1 BD.out.2.2.2.2.2.2.2.1 HAM.out.2.2 CS.out PD.out PL.out PR.out SL.out SR2.out SS.out.2.2.2.2
                  have JJ := Aside0.mk J
                  clear J
                  go_wp2
                  go_end0
                  exact ⟨rfl, cz, JJ.out.1, JJ.out.2, HWR.out⟩
                · have g2 : decide ((f : Int) < (b : Int)) = false := decide_eq_false (by omega)
                  have g2' : decide (f < b) = false := decide_eq_false v2
                  have SR2 : Aside0 (SortedIn ltF mid b cl) := ⟨by have h := SR.out; have hb := BD.out; first | (rw [show f = mid by omega] at h; exact h.2) | (rw [show f = b by omega] at h; exact h.1)⟩
                  have PR : Aside0 (PermIn mid b cl cl) := ⟨permIn_refl _ _ _⟩
                  try clear v2
                  clear v1
                  go_wp2_with fail
                  have J := sym_join BD.out.2.2.2.2.2.2.1 BD.out.2.2.2.2.2.2.2.1 HAM.out.2.2 CS.out PD.out PL.out PR.out SL.out SR2.out SS.out.2.2.2.2
                  have JJ := Aside0.mk J
                  clear J
                  go_wp2
                  go_end0
                  exact ⟨rfl, cl, JJ.out.1, JJ.out.2, HWL.out⟩
              · have g1 : decide ((mid : Int) < (f : Int)) = false := decide_eq_false (by omega)
                have g1' : decide (mid < f) = false := decide_eq_false v1
                have SR2 : Aside0 (SortedIn ltF mid b cl) := ⟨by have h := SR.out; have hb := BD.out; first | (rw [show f = mid by omega] at h; exact h.2) | (rw [show f = b by omega] at h; exact h.1)⟩
                have PR : Aside0 (PermIn mid b cl cl) := ⟨permIn_refl _ _ _⟩
                try clear v2
                clear v1
                go_wp2_with fail
                have J := sym_join BD.out.2.2.2.2.2.2.1 BD.out.2.2.2.2.2.2.2.1 HAM.out.2.2 CS.out PD.out PL.out PR.out SL.out SR2.out SS.out.2.2.2.2
                have JJ := Aside0.mk J
                clear J
                go_wp2
                go_end0
                exact ⟨rfl, cl, JJ.out.1, JJ.out.2, HWL.out⟩
            · have g2 : decide ((s : Int) < (mid : Int)) = false := decide_eq_false (by omega)
              have g2' : decide (s < mid) = false := decide_eq_false v2
              have SL : Aside0 (SortedIn ltF a mid c) := ⟨by have h := SS.out; have hb := BD.out; first | (rw [show s = mid by omega] at h; exact h.1) | (rw [show s = a by omega] at h; exact h.2.1)⟩
              have PL : Aside0 (PermIn a mid c c) := ⟨permIn_refl _ _ _⟩
              have SR : Aside0 (SortedIn ltF mid f c ∧ SortedIn ltF f b c) := ⟨sorted_perm_out PL.out (.inr (Nat.le_refl _)) SS.out.2.2.1, sorted_perm_out PL.out (.inr BD.out.2.2.2.1) SS.out.2.2.2.1⟩
              have C2 : Aside0 (c.size = d.size) := ⟨PL.out.1.trans CS.out⟩
              have k1 := g1
              have k1' := g1'
              clear g1 g1'
              try have k2 := g2
              try have k2' := g2'
              try clear g2 g2'
              try clear v2
              try clear v1
              by_cases v1 : mid < f
              · have g1 : decide ((mid : Int) < (f : Int)) = true := decide_eq_true (by omega)
                have g1' : decide (mid < f) = true := decide_eq_true v1
                by_cases v2 : f < b
                · have g2 : decide ((f : Int) < (b : Int)) = true := decide_eq_true (by omega)
                  have g2' : decide (f < b) = true := decide_eq_true v2
                  have CR2 := Aside0.mk (HIH.out mid f b (by have := BD.out; omega) v1 v2 (Nat.le_refl _) (by have := BD.out; omega) c w2 C2.out HW.out SR.out.1 SR.out.2)
                  clear v1 v2
                  go_wp2_with fail
                  refine CR2.out.mono ?_
                  rintro e wz ⟨rfl, cz, hp, hs, hw⟩
                  have PR := Aside0.mk hp
                  have SR2 := Aside0.mk hs
                  have HWR := Aside0.mk hw
                  clear hp hs hw CR2
                  have J := sym_join BD.out.2.2.2.2.2.2.1 BD.out.2.2.2.2.2.2.2.1 HAM.out.2.2 CS.out PD.out PL.out PR.out SL.out SR2.out SS.out.2.2.2.2
                  have JJ := Aside0.mk J
                  clear J
                  go_wp2
                  go_end0
                  exact ⟨rfl, cz, JJ.out.1, JJ.out.2, HWR.out⟩
                · have g2 : decide ((f : Int) < (b : Int)) = false := decide_eq_false (by omega)
                  have g2' : decide (f < b) = false := decide_eq_false v2
                  have SR2 : Aside0 (SortedIn ltF mid b c) := ⟨by have h := SR.out; have hb := BD.out; first | (rw [show f = mid by omega] at h; exact h.2) | (rw [show f = b by omega] at h; exact h.1)⟩
                  have PR : Aside0 (PermIn mid b c c) := ⟨permIn_refl _ _ _⟩
                  try clear v2
                  clear v1
                  go_wp2_with fail
                  have J := sym_join BD.out.2.2.2.2.2.2.1 BD.out.2.2.2.2.2.2.2.1 HAM.out.2.2 CS.out PD.out PL.out PR.out SL.out SR2.out SS.out.2.2.2.2
                  have JJ := Aside0.mk J
                  clear J
                  go_wp2
                  go_end0
                  exact ⟨rfl, c, JJ.out.1, JJ.out.2, HW.out⟩
              · have g1 : decide ((mid : Int) < (f : Int)) = false := decide_eq_false (by omega)
                have g1' : decide (mid < f) = false := decide_eq_false v1
                have SR2 : Aside0 (SortedIn ltF mid b c) := ⟨by have h := SR.out; have hb := BD.out; first | (rw [show f = mid by omega] at h; exact h.2) | (rw [show f = b by omega] at h; exact h.1)⟩
                have PR : Aside0 (PermIn mid b c c) := ⟨permIn_refl _ _ _⟩
                try clear v2
                clear v1
                go_wp2_with fail
                have J := sym_join BD.out.2.2.2.2.2.2.1 BD.out.2.2.2.2.2.2.2.1 HAM.out.2.2 CS.out PD.out PL.out PR.out SL.out SR2.out SS.out.2.2.2.2
                have JJ := Aside0.mk J
                clear J
                go_wp2
                go_end0
                exact ⟨rfl, c, JJ.out.1, JJ.out.2, HW.out⟩
          · have g1 : decide ((a : Int) < (s : Int)) = false := decide_eq_false (by omega)
            have g1' : decide (a < s) = false := decide_eq_false v1
            have SL : Aside0 (SortedIn ltF a mid c) := ⟨by have h := SS.out; have hb := BD.out; first | (rw [show s = mid by omega] at h; exact h.1) | (rw [show s = a by omega] at h; exact h.2.1)⟩
            have PL : Aside0 (PermIn a mid c c) := ⟨permIn_refl _ _ _⟩
            have SR : Aside0 (SortedIn ltF mid f c ∧ SortedIn ltF f b c) := ⟨sorted_perm_out PL.out (.inr (Nat.le_refl _)) SS.out.2.2.1, sorted_perm_out PL.out (.inr BD.out.2.2.2.1) SS.out.2.2.2.1⟩
            have C2 : Aside0 (c.size = d.size) := ⟨PL.out.1.trans CS.out⟩
            have k1 := g1
            have k1' := g1'
            clear g1 g1'
            try have k2 := g2
            try have k2' := g2'
            try clear g2 g2'
            try clear v2
            try clear v1
            by_cases v1 : mid < f
            · have g1 : decide ((mid : Int) < (f : Int)) = true := decide_eq_true (by omega)
              have g1' : decide (mid < f) = true := decide_eq_true v1
              by_cases v2 : f < b
              · have g2 : decide ((f : Int) < (b : Int)) = true := decide_eq_true (by omega)
                have g2' : decide (f < b) = true := decide_eq_true v2
                have CR2 := Aside0.mk (HIH.out mid f b (by have := BD.out; omega) v1 v2 (Nat.le_refl _) (by have := BD.out; omega) c w2 C2.out HW.out SR.out.1 SR.out.2)
                clear v1 v2
                go_wp2_with fail
                refine CR2.out.mono ?_
                rintro e wz ⟨rfl, cz, hp, hs, hw⟩
                have PR := Aside0.mk hp
                have SR2 := Aside0.mk hs
                have HWR := Aside0.mk hw
                clear hp hs hw CR2
                have J := sym_join BD.out.2.2.2.2.2.2.1 BD.out.2.2.2.2.2.2.2.1 HAM.out.2.2 CS.out PD.out PL.out PR.out SL.out SR2.out SS.out.2.2.2.2
                have JJ := Aside0.mk J
                clear J
                go_wp2
                go_end0
                exact ⟨rfl, cz, JJ.out.1, JJ.out.2, HWR.out⟩
              · have g2 : decide ((f : Int) < (b : Int)) = false := decide_eq_false (by omega)
                have g2' : decide (f < b) = false := decide_eq_false v2
                have SR2 : Aside0 (SortedIn ltF mid b c) := ⟨by have h := SR.out; have hb := BD.out; first | (rw [show f = mid by omega] at h; exact h.2) | (rw [show f = b by omega] at h; exact h.1)⟩
                have PR : Aside0 (PermIn mid b c c) := ⟨permIn_refl _ _ _⟩
                try clear v2
                clear v1
                go_wp2_with fail
                have J := sym_join BD.out.2.2.2.2.2.2.1 BD.out.2.2.2.2.2.2.2.1 HAM.out.2.2 CS.out PD.out PL.out PR.out SL.out SR2.out SS.out.2.2.2.2
                have JJ := Aside0.mk J
                clear J
                go_wp2
                go_end0
                exact ⟨rfl, c, JJ.out.1, JJ.out.2, HW.out⟩
            · have g1 : decide ((mid : Int) < (f : Int)) = false := decide_eq_false (by omega)
              have g1' : decide (mid < f) = false := decide_eq_false v1
              have SR2 : Aside0 (SortedIn ltF mid b c) := ⟨by have h := SR.out; have hb := BD.out; first | (rw [show f = mid by omega] at h; exact h.2) | (rw [show f = b by omega] at h; exact h.1)⟩
              have PR : Aside0 (PermIn mid b c c) := ⟨permIn_refl _ _ _⟩
              try clear v2
              clear v1
              go_wp2_with fail
              have J := sym_join BD.out.2.2.2.2.2.2.1 BD.out.2.2.2.2.2.2.2.1 HAM.out.2.2 CS.out PD.out PL.out PR.out SL.out SR2.out SS.out.2.2.2.2
              have JJ := Aside0.mk J
              clear J
              go_wp2
              go_end0
              exact ⟨rfl, c, JJ.out.1, JJ.out.2, HW.out⟩
        · have RT : Aside0 (Rot s m f d d) := ⟨by rcases HNS.out c1 with h | h; (rw [h]; exact rot_none_left d); (rw [h]; exact rot_none_right d)⟩
          by_cases u0 : s < m
          · have u1 : decide ((s : Int) < (m : Int)) = true := decide_eq_true (by omega)
            have u1' : decide (s < m) = true := decide_eq_true (by omega)
            have u2 : decide ((m : Int) < (f : Int)) = false := decide_eq_false (by omega)
            have u2' : decide (m < f) = false := decide_eq_false (by omega)
            clear c1 u0
            have SS := Aside0.mk (SP.out d RT.out)
            have PD : Aside0 (PermIn a b d d) := ⟨permIn_mono _ _ _ _ a b BD.out.1 BD.out.2.2.2.2.2.1 HAM.out.2.2 RT.out.2.1⟩
            clear SP
            by_cases v1 : a < s
            · have g1 : decide ((a : Int) < (s : Int)) = true := decide_eq_true (by omega)
              have g1' : decide (a < s) = true := decide_eq_true v1
              by_cases v2 : s < mid
              · have g2 : decide ((s : Int) < (mid : Int)) = true := decide_eq_true (by omega)
                have g2' : decide (s < mid) = true := decide_eq_true v2
                have CL := Aside0.mk (HIH.out a s mid (Nat.le_refl _) v1 v2 (by have := BD.out; omega) (by have := BD.out; omega) d wr rfl HR.out SS.out.1 SS.out.2.1)
                clear v1 v2
                go_wp2_with fail
                refine CL.out.mono ?_
                rintro e wl ⟨rfl, cl, hp, hs, hw⟩
                have PL := Aside0.mk hp
                have SL := Aside0.mk hs
                have HWL := Aside0.mk hw
                clear hp hs hw CL g1 g1' g2 g2'
                have SR : Aside0 (SortedIn ltF mid f cl ∧ SortedIn ltF f b cl) := ⟨sorted_perm_out PL.out (.inr (Nat.le_refl _)) SS.out.2.2.1, sorted_perm_out PL.out (.inr BD.out.2.2.2.1) SS.out.2.2.2.1⟩
                have C2 : Aside0 (cl.size = d.size) := ⟨PL.out.1.trans rfl⟩
                by_cases v1 : mid < f
                · have g1 : decide ((mid : Int) < (f : Int)) = true := decide_eq_true (by omega)
                  have g1' : decide (mid < f) = true := decide_eq_true v1
                  by_cases v2 : f < b
                  · have g2 : decide ((f : Int) < (b : Int)) = true := decide_eq_true (by omega)
                    have g2' : decide (f < b) = true := decide_eq_true v2
                    have CR2 := Aside0.mk (HIH.out mid f b (by have := BD.out; omega) v1 v2 (Nat.le_refl _) (by have := BD.out; omega) cl wl C2.out HWL.out SR.out.1 SR.out.2)
                    clear v1 v2
                    go_wp2_with fail
                    refine CR2.out.mono ?_
                    rintro e wz ⟨rfl, cz, hp, hs, hw⟩
                    have PR := Aside0.mk hp
                    have SR2 := Aside0.mk hs
                    have HWR := Aside0.mk hw
                    clear hp hs hw CR2
                    have J := sym_join BD.out.2.2.2.2.2.2.1 BD.out.2.2.2.2.2.2.2.1 HAM.out.2.2 rfl PD.out PL.out PR.out SL.out SR2.out SS.out.2.2.2.2
                    have JJ := Aside0.mk J
                    clear J
                    go_wp2
                    go_end0
                    exact ⟨rfl, cz, JJ.out.1, JJ.out.2, HWR.out⟩
                  · have g2 : decide ((f : Int) < (b : Int)) = false := decide_eq_false (by omega)
                    have g2' : decide (f < b) = false := decide_eq_false v2
                    have SR2 : Aside0 (SortedIn ltF mid b cl) := ⟨by have h := SR.out; have hb := BD.out; first | (rw [show f = mid by omega] at h; exact h.2) | (rw [show f = b by omega] at h; exact h.1)⟩
                    have PR : Aside0 (PermIn mid b cl cl) := ⟨permIn_refl _ _ _⟩
                    try clear v2
                    clear v1
                    go_wp2_with fail
                    have J := sym_join BD.out.2.2.2.2.2.2.1 BD.out.2.2.2.2.2.2.2.1 HAM.out.2.2 rfl PD.out PL.out PR.out SL.out SR2.out SS.out.2.2.2.2
                    have JJ := Aside0.mk J
                    clear J
                    go_wp2
                    go_end0
                    exact ⟨rfl, cl, JJ.out.1, JJ.out.2, HWL.out⟩
                · have g1 : decide ((mid : Int) < (f : Int)) = false := decide_eq_false (by omega)
                  have g1' : decide (mid < f) = false := decide_eq_false v1
                  have SR2 : Aside0 (SortedIn ltF mid b cl) := ⟨by have h := SR.out; have hb := BD.out; first | (rw [show f = mid by omega] at h; exact h.2) | (rw [show f = b by omega] at h; exact h.1)⟩
                  have PR : Aside0 (PermIn mid b cl cl) := ⟨permIn_refl _ _ _⟩
                  try clear v2
                  clear v1
                  go_wp2_with fail
                  have J := sym_join BD.out.2.2.2.2.2.2.1 BD.out.2.2.2.2.2.2.2.1 HAM.out.2.2 rfl PD.out PL.out PR.out SL.out SR2.out SS.out.2.2.2.2
                  have JJ := Aside0.mk J
                  clear J
                  go_wp2
                  go_end0
                  exact ⟨rfl, cl, JJ.out.1, JJ.out.2, HWL.out⟩
              · have g2 : decide ((s : Int) < (mid : Int)) = false := decide_eq_false (by omega)
                have g2' : decide (s < mid) = false := decide_eq_false v2
                have SL : Aside0 (SortedIn ltF a mid d) := ⟨by have h := SS.out; have hb := BD.out; first | (rw [show s = mid by omega] at h; exact h.1) | (rw [show s = a by omega] at h; exact h.2.1)⟩
                have PL : Aside0 (PermIn a mid d d) := ⟨permIn_refl _ _ _⟩
                have SR : Aside0 (SortedIn ltF mid f d ∧ SortedIn ltF f b d) := ⟨sorted_perm_out PL.out (.inr (Nat.le_refl _)) SS.out.2.2.1, sorted_perm_out PL.out (.inr BD.out.2.2.2.1) SS.out.2.2.2.1⟩
                have k1 := g1
                have k1' := g1'
                clear g1 g1'
                try have k2 := g2
                try have k2' := g2'
                try clear g2 g2'
                try clear v2
                try clear v1
                by_cases v1 : mid < f
                · have g1 : decide ((mid : Int) < (f : Int)) = true := decide_eq_true (by omega)
                  have g1' : decide (mid < f) = true := decide_eq_true v1
                  by_cases v2 : f < b
                  · have g2 : decide ((f : Int) < (b : Int)) = true := decide_eq_true (by omega)
                    have g2' : decide (f < b) = true := decide_eq_true v2
                    have CR2 := Aside0.mk (HIH.out mid f b (by have := BD.out; omega) v1 v2 (Nat.le_refl _) (by have := BD.out; omega) d wr rfl HR.out SR.out.1 SR.out.2)
                    clear v1 v2
                    go_wp2_with fail
                    refine CR2.out.mono ?_
                    rintro e wz ⟨rfl, cz, hp, hs, hw⟩
                    have PR := Aside0.mk hp
                    have SR2 := Aside0.mk hs
                    have HWR := Aside0.mk hw
                    clear hp hs hw CR2
                    have J := sym_join BD.out.2.2.2.2.2.2.1 BD.out.2.2.2.2.2.2.2.1 HAM.out.2.2 rfl PD.out PL.out PR.out SL.out SR2.out SS.out.2.2.2.2
                    have JJ := Aside0.mk J
                    clear J
                    go_wp2
                    go_end0
                    exact ⟨rfl, cz, JJ.out.1, JJ.out.2, HWR.out⟩
                  · have g2 : decide ((f : Int) < (b : Int)) = false := decide_eq_false (by omega)
                    have g2' : decide (f < b) = false := decide_eq_false v2
                    have SR2 : Aside0 (SortedIn ltF mid b d) := ⟨by have h := SR.out; have hb := BD.out; first | (rw [show f = mid by omega] at h; exact h.2) | (rw [show f = b by omega] at h; exact h.1)⟩
                    have PR : Aside0 (PermIn mid b d d) := ⟨permIn_refl _ _ _⟩
                    try clear v2
                    clear v1
                    go_wp2_with fail
                    have J := sym_join BD.out.2.2.2.2.2.2.1 BD.out.2.2.2.2.2.2.2.1 HAM.out.2.2 rfl PD.out PL.out PR.out SL.out SR2.out SS.out.2.2.2.2
                    have JJ := Aside0.mk J
                    clear J
                    go_wp2
                    go_end0
                    exact ⟨rfl, d, JJ.out.1, JJ.out.2, HR.out⟩
                · have g1 : decide ((mid : Int) < (f : Int)) = false := decide_eq_false (by omega)
                  have g1' : decide (mid < f) = false := decide_eq_false v1
                  have SR2 : Aside0 (SortedIn ltF mid b d) := ⟨by have h := SR.out; have hb := BD.out; first | (rw [show f = mid by omega] at h; exact h.2) | (rw [show f = b by omega] at h; exact h.1)⟩
                  have PR : Aside0 (PermIn mid b d d) := ⟨permIn_refl _ _ _⟩
                  try clear v2
                  clear v1
                  go_wp2_with fail
                  have J := sym_join BD.out.2.2.2.2.2.2.1 BD.out.2.2.2.2.2.2.2.1 HAM.out.2.2 rfl PD.out PL.out PR.out SL.out SR2.out SS.out.2.2.2.2
                  have JJ := Aside0.mk J
                  clear J
                  go_wp2
                  go_end0
                  exact ⟨rfl, d, JJ.out.1, JJ.out.2, HR.out⟩
            · have g1 : decide ((a : Int) < (s : Int)) = false := decide_eq_false (by omega)
              have g1' : decide (a < s) = false := decide_eq_false v1
              have SL : Aside0 (SortedIn ltF a mid d) := ⟨by have h := SS.out; have hb := BD.out; first | (rw [show s = mid by omega] at h; exact h.1) | (rw [show s = a by omega] at h; exact h.2.1)⟩
              have PL : Aside0 (PermIn a mid d d) := ⟨permIn_refl _ _ _⟩
              have SR : Aside0 (SortedIn ltF mid f d ∧ SortedIn ltF f b d) := ⟨sorted_perm_out PL.out (.inr (Nat.le_refl _)) SS.out.2.2.1, sorted_perm_out PL.out (.inr BD.out.2.2.2.1) SS.out.2.2.2.1⟩
              have k1 := g1
              have k1' := g1'
              clear g1 g1'
              try have k2 := g2
              try have k2' := g2'
              try clear g2 g2'
              try clear v2
              try clear v1
              by_cases v1 : mid < f
              · have g1 : decide ((mid : Int) < (f : Int)) = true := decide_eq_true (by omega)
                have g1' : decide (mid < f) = true := decide_eq_true v1
                by_cases v2 : f < b
                · have g2 : decide ((f : Int) < (b : Int)) = true := decide_eq_true (by omega)
                  have g2' : decide (f < b) = true := decide_eq_true v2
                  have CR2 := Aside0.mk (HIH.out mid f b (by have := BD.out; omega) v1 v2 (Nat.le_refl _) (by have := BD.out; omega) d wr rfl HR.out SR.out.1 SR.out.2)
                  clear v1 v2
                  go_wp2_with fail
                  refine CR2.out.mono ?_
                  rintro e wz ⟨rfl, cz, hp, hs, hw⟩
                  have PR := Aside0.mk hp
                  have SR2 := Aside0.mk hs
                  have HWR := Aside0.mk hw
                  clear hp hs hw CR2
                  have J := sym_join BD.out.2.2.2.2.2.2.1 BD.out.2.2.2.2.2.2.2.1 HAM.out.2.2 rfl PD.out PL.out PR.out SL.out SR2.out SS.out.2.2.2.2
                  have JJ := Aside0.mk J
                  clear J
                  go_wp2
                  go_end0
                  exact ⟨rfl, cz, JJ.out.1, JJ.out.2, HWR.out⟩
                · have g2 : decide ((f : Int) < (b : Int)) = false := decide_eq_false (by omega)
                  have g2' : decide (f < b) = false := decide_eq_false v2
                  have SR2 : Aside0 (SortedIn ltF mid b d) := ⟨by have h := SR.out; have hb := BD.out; first | (rw [show f = mid by omega] at h; exact h.2) | (rw [show f = b by omega] at h; exact h.1)⟩
                  have PR : Aside0 (PermIn mid b d d) := ⟨permIn_refl _ _ _⟩
                  try clear v2
                  clear v1
                  go_wp2_with fail
                  have J := sym_join BD.out.2.2.2.2.2.2.1 BD.out.2.2.2.2.2.2.2.1 HAM.out.2.2 rfl PD.out PL.out PR.out SL.out SR2.out SS.out.2.2.2.2
                  have JJ := Aside0.mk J
                  clear J
                  go_wp2
                  go_end0
                  exact ⟨rfl, d, JJ.out.1, JJ.out.2, HR.out⟩
              · have g1 : decide ((mid : Int) < (f : Int)) = false := decide_eq_false (by omega)
                have g1' : decide (mid < f) = false := decide_eq_false v1
                have SR2 : Aside0 (SortedIn ltF mid b d) := ⟨by have h := SR.out; have hb := BD.out; first | (rw [show f = mid by omega] at h; exact h.2) | (rw [show f = b by omega] at h; exact h.1)⟩
                have PR : Aside0 (PermIn mid b d d) := ⟨permIn_refl _ _ _⟩
                try clear v2
                clear v1
                go_wp2_with fail
                have J := sym_join BD.out.2.2.2.2.2.2.1 BD.out.2.2.2.2.2.2.2.1 HAM.out.2.2 rfl PD.out PL.out PR.out SL.out SR2.out SS.out.2.2.2.2
                have JJ := Aside0.mk J
                clear J
                go_wp2
                go_end0
                exact ⟨rfl, d, JJ.out.1, JJ.out.2, HR.out⟩
          · have u1 : decide ((s : Int) < (m : Int)) = false := decide_eq_false (by omega)
            have u1' : decide (s < m) = false := decide_eq_false (by omega)
            clear c1 u0
            have SS := Aside0.mk (SP.out d RT.out)
            have PD : Aside0 (PermIn a b d d) := ⟨permIn_mono _ _ _ _ a b BD.out.1 BD.out.2.2.2.2.2.1 HAM.out.2.2 RT.out.2.1⟩
            clear SP
            by_cases v1 : a < s
            · have g1 : decide ((a : Int) < (s : Int)) = true := decide_eq_true (by omega)
              have g1' : decide (a < s) = true := decide_eq_true v1
              by_cases v2 : s < mid
              · have g2 : decide ((s : Int) < (mid : Int)) = true := decide_eq_true (by omega)
                have g2' : decide (s < mid) = true := decide_eq_true v2
                have CL := Aside0.mk (HIH.out a s mid (Nat.le_refl _) v1 v2 (by have := BD.out; omega) (by have := BD.out; omega) d wr rfl HR.out SS.out.1 SS.out.2.1)
                clear v1 v2
                go_wp2_with fail
                refine CL.out.mono ?_
                rintro e wl ⟨rfl, cl, hp, hs, hw⟩
                have PL := Aside0.mk hp
                have SL := Aside0.mk hs
                have HWL := Aside0.mk hw
                clear hp hs hw CL g1 g1' g2 g2'
                have SR : Aside0 (SortedIn ltF mid f cl ∧ SortedIn ltF f b cl) := ⟨sorted_perm_out PL.out (.inr (Nat.le_refl _)) SS.out.2.2.1, sorted_perm_out PL.out (.inr BD.out.2.2.2.1) SS.out.2.2.2.1⟩
                have C2 : Aside0 (cl.size = d.size) := ⟨PL.out.1.trans rfl⟩
                by_cases v1 : mid < f
                · have g1 : decide ((mid : Int) < (f : Int)) = true := decide_eq_true (by omega)
                  have g1' : decide (mid < f) = true := decide_eq_true v1
                  by_cases v2 : f < b
                  · have g2 : decide ((f : Int) < (b : Int)) = true := decide_eq_true (by omega)
                    have g2' : decide (f < b) = true := decide_eq_true v2
                    have CR2 := Aside0.mk (HIH.out mid f b (by have := BD.out; omega) v1 v2 (Nat.le_refl _) (by have := BD.out; omega) cl wl C2.out HWL.out SR.out.1 SR.out.2)
                    clear v1 v2
                    go_wp2_with fail
                    refine CR2.out.mono ?_
                    rintro e wz ⟨rfl, cz, hp, hs, hw⟩
                    have PR := Aside0.mk hp
                    have SR2 := Aside0.mk hs
                    have HWR := Aside0.mk hw
                    clear hp hs hw CR2
                    have J := sym_join BD.out.2.2.2.2.2.2.1 BD.out.2.2.2.2.2.2.2.1 HAM.out.2.2 rfl PD.out PL.out PR.out SL.out SR2.out SS.out.2.2.2.2
                    have JJ := Aside0.mk J
                    clear J
                    go_wp2
                    go_end0
                    exact ⟨rfl, cz, JJ.out.1, JJ.out.2, HWR.out⟩
                  · have g2 : decide ((f : Int) < (b : Int)) = false := decide_eq_false (by omega)
                    have g2' : decide (f < b) = false := decide_eq_false v2
                    have SR2 : Aside0 (SortedIn ltF mid b cl) := ⟨by have h := SR.out; have hb := BD.out; first | (rw [show f = mid by omega] at h; exact h.2) | (rw [show f = b by omega] at h; exact h.1)⟩
                    have PR : Aside0 (PermIn mid b cl cl) := ⟨permIn_refl _ _ _⟩
                    try clear v2
                    clear v1
                    go_wp2_with fail
                    have J := sym_join BD.out.2.2.2.2.2.2.1 BD.out.2.2.2.2.2.2.2.1 HAM.out.2.2 rfl PD.out PL.out PR.out SL.out SR2.out SS.out.2.2.2.2
                    have JJ := Aside0.mk J
                    clear J
                    go_wp2
                    go_end0
                    exact ⟨rfl, cl, JJ.out.1, JJ.out.2, HWL.out⟩
                · have g1 : decide ((mid : Int) < (f : Int)) = false := decide_eq_false (by omega)
                  have g1' : decide (mid < f) = false := decide_eq_false v1
                  have SR2 : Aside0 (SortedIn ltF mid b cl) := ⟨by have h := SR.out; have hb := BD.out; first | (rw [show f = mid by omega] at h; exact h.2) | (rw [show f = b by omega] at h; exact h.1)⟩
                  have PR : Aside0 (PermIn mid b cl cl) := ⟨permIn_refl _ _ _⟩
                  try clear v2
                  clear v1
                  go_wp2_with fail
                  have J := sym_join BD.out.2.2.2.2.2.2.1 BD.out.2.2.2.2.2.2.2.1 HAM.out.2.2 rfl PD.out PL.out PR.out SL.out SR2.out SS.out.2.2.2.2
                  have JJ := Aside0.mk J
                  clear J
                  go_wp2
                  go_end0
                  exact ⟨rfl, cl, JJ.out.1, JJ.out.2, HWL.out⟩
              · have g2 : decide ((s : Int) < (mid : Int)) = false := decide_eq_false (by omega)
                have g2' : decide (s < mid) = false := decide_eq_false v2
                have SL : Aside0 (SortedIn ltF a mid d) := ⟨by have h := SS.out; have hb := BD.out; first | (rw [show s = mid by omega] at h; exact h.1) | (rw [show s = a by omega] at h; exact h.2.1)⟩
                have PL : Aside0 (PermIn a mid d d) := ⟨permIn_refl _ _ _⟩
                have SR : Aside0 (SortedIn ltF mid f d ∧ SortedIn ltF f b d) := ⟨sorted_perm_out PL.out (.inr (Nat.le_refl _)) SS.out.2.2.1, sorted_perm_out PL.out (.inr BD.out.2.2.2.1) SS.out.2.2.2.1⟩
                have k1 := g1
                have k1' := g1'
                clear g1 g1'
                try have k2 := g2
                try have k2' := g2'
                try clear g2 g2'
                try clear v2
                try clear v1
                by_cases v1 : mid < f
                · have g1 : decide ((mid : Int) < (f : Int)) = true := decide_eq_true (by omega)
                  have g1' : decide (mid < f) = true := decide_eq_true v1
                  by_cases v2 : f < b
                  · have g2 : decide ((f : Int) < (b : Int)) = true := decide_eq_true (by omega)
                    have g2' : decide (f < b) = true := decide_eq_true v2
                    have CR2 := Aside0.mk (HIH.out mid f b (by have := BD.out; omega) v1 v2 (Nat.le_refl _) (by have := BD.out; omega) d wr rfl HR.out SR.out.1 SR.out.2)
                    clear v1 v2
                    go_wp2_with fail
                    refine CR2.out.mono ?_
                    rintro e wz ⟨rfl, cz, hp, hs, hw⟩
                    have PR := Aside0.mk hp
                    have SR2 := Aside0.mk hs
                    have HWR := Aside0.mk hw
                    clear hp hs hw CR2
                    have J := sym_join BD.out.2.2.2.2.2.2.1 BD.out.2.2.2.2.2.2.2.1 HAM.out.2.2 rfl PD.out PL.out PR.out SL.out SR2.out SS.out.2.2.2.2
                    have JJ := Aside0.mk J
                    clear J
                    go_wp2
                    go_end0
                    exact ⟨rfl, cz, JJ.out.1, JJ.out.2, HWR.out⟩
                  · have g2 : decide ((f : Int) < (b : Int)) = false := decide_eq_false (by omega)
                    have g2' : decide (f < b) = false := decide_eq_false v2
                    have SR2 : Aside0 (SortedIn ltF mid b d) := ⟨by have h := SR.out; have hb := BD.out; first | (rw [show f = mid by omega] at h; exact h.2) | (rw [show f = b by omega] at h; exact h.1)⟩
                    have PR : Aside0 (PermIn mid b d d) := ⟨permIn_refl _ _ _⟩
                    try clear v2
                    clear v1
                    go_wp2_with fail
                    have J := sym_join BD.out.2.2.2.2.2.2.1 BD.out.2.2.2.2.2.2.2.1 HAM.out.2.2 rfl PD.out PL.out PR.out SL.out SR2.out SS.out.2.2.2.2
                    have JJ := Aside0.mk J
                    clear J
                    go_wp2
                    go_end0
                    exact ⟨rfl, d, JJ.out.1, JJ.out.2, HR.out⟩
                · have g1 : decide ((mid : Int) < (f : Int)) = false := decide_eq_false (by omega)
                  have g1' : decide (mid < f) = false := decide_eq_false v1
                  have SR2 : Aside0 (SortedIn ltF mid b d) := ⟨by have h := SR.out; have hb := BD.out; first | (rw [show f = mid by omega] at h; exact h.2) | (rw [show f = b by omega] at h; exact h.1)⟩
                  have PR : Aside0 (PermIn mid b d d) := ⟨permIn_refl _ _ _⟩
                  try clear v2
                  clear v1
                  go_wp2_with fail
                  have J := sym_join BD.out.2.2.2.2.2.2.1 BD.out.2.2.2.2.2.2.2.1 HAM.out.2.2 rfl PD.out PL.out PR.out SL.out SR2.out SS.out.2.2.2.2
                  have JJ := Aside0.mk J
                  clear J
                  go_wp2
                  go_end0
                  exact ⟨rfl, d, JJ.out.1, JJ.out.2, HR.out⟩
            · have g1 : decide ((a : Int) < (s : Int)) = false := decide_eq_false (by omega)
              have g1' : decide (a < s) = false := decide_eq_false v1
              have SL : Aside0 (SortedIn ltF a mid d) := ⟨by have h := SS.out; have hb := BD.out; first | (rw [show s = mid by omega] at h; exact h.1) | (rw [show s = a by omega] at h; exact h.2.1)⟩
              have PL : Aside0 (PermIn a mid d d) := ⟨permIn_refl _ _ _⟩
              have SR : Aside0 (SortedIn ltF mid f d ∧ SortedIn ltF f b d) := ⟨sorted_perm_out PL.out (.inr (Nat.le_refl _)) SS.out.2.2.1, sorted_perm_out PL.out (.inr BD.out.2.2.2.1) SS.out.2.2.2.1⟩
              have k1 := g1
              have k1' := g1'
              clear g1 g1'
              try have k2 := g2
              try have k2' := g2'
              try clear g2 g2'
              try clear v2
              try clear v1
              by_cases v1 : mid < f
              · have g1 : decide ((mid : Int) < (f : Int)) = true := decide_eq_true (by omega)
                have g1' : decide (mid < f) = true := decide_eq_true v1
                by_cases v2 : f < b
                · have g2 : decide ((f : Int) < (b : Int)) = true := decide_eq_true (by omega)
                  have g2' : decide (f < b) = true := decide_eq_true v2
                  have CR2 := Aside0.mk (HIH.out mid f b (by have := BD.out; omega) v1 v2 (Nat.le_refl _) (by have := BD.out; omega) d wr rfl HR.out SR.out.1 SR.out.2)
                  clear v1 v2
                  go_wp2_with fail
                  refine CR2.out.mono ?_
                  rintro e wz ⟨rfl, cz, hp, hs, hw⟩
                  have PR := Aside0.mk hp
                  have SR2 := Aside0.mk hs
                  have HWR := Aside0.mk hw
                  clear hp hs hw CR2
                  have J := sym_join BD.out.2.2.2.2.2.2.1 BD.out.2.2.2.2.2.2.2.1 HAM.out.2.2 rfl PD.out PL.out PR.out SL.out SR2.out SS.out.2.2.2.2
                  have JJ := Aside0.mk J
                  clear J
                  go_wp2
                  go_end0
                  exact ⟨rfl, cz, JJ.out.1, JJ.out.2, HWR.out⟩
                · have g2 : decide ((f : Int) < (b : Int)) = false := decide_eq_false (by omega)
                  have g2' : decide (f < b) = false := decide_eq_false v2
                  have SR2 : Aside0 (SortedIn ltF mid b d) := ⟨by have h := SR.out; have hb := BD.out; first | (rw [show f = mid by omega] at h; exact h.2) | (rw [show f = b by omega] at h; exact h.1)⟩
                  have PR : Aside0 (PermIn mid b d d) := ⟨permIn_refl _ _ _⟩
                  try clear v2
                  clear v1
                  go_wp2_with fail
                  have J := sym_join BD.out.2.2.2.2.2.2.1 BD.out.2.2.2.2.2.2.2.1 HAM.out.2.2 rfl PD.out PL.out PR.out SL.out SR2.out SS.out.2.2.2.2
                  have JJ := Aside0.mk J
                  clear J
                  go_wp2
                  go_end0
                  exact ⟨rfl, d, JJ.out.1, JJ.out.2, HR.out⟩
              · have g1 : decide ((mid : Int) < (f : Int)) = false := decide_eq_false (by omega)
                have g1' : decide (mid < f) = false := decide_eq_false v1
                have SR2 : Aside0 (SortedIn ltF mid b d) := ⟨by have h := SR.out; have hb := BD.out; first | (rw [show f = mid by omega] at h; exact h.2) | (rw [show f = b by omega] at h; exact h.1)⟩
                have PR : Aside0 (PermIn mid b d d) := ⟨permIn_refl _ _ _⟩
                try clear v2
                clear v1
                go_wp2_with fail
                have J := sym_join BD.out.2.2.2.2.2.2.1 BD.out.2.2.2.2.2.2.2.1 HAM.out.2.2 rfl PD.out PL.out PR.out SL.out SR2.out SS.out.2.2.2.2
                have JJ := Aside0.mk J
                clear J
                go_wp2
                go_end0
                exact ⟨rfl, d, JJ.out.1, JJ.out.2, HR.out⟩
  · have t0 : decide ((mid : Int) < (m : Int)) = false := decide_eq_false (by omega)
    have t0' : decide (mid < m) = false := decide_eq_false hmm
    rw [if_neg hmm] at hlo hhi
    subst hlo hhi
    have HLH : Aside0 (a ≤ m ∧ m ≤ mid) := ⟨by omega⟩
    clear hs0 hmid hn hq ham hmb
    go_enter Try.func38, Try.ntmps38
    go_wp2_with fail
    clear t0 t0'
    clear e1 r1 n1 e2 r2 n2 e3 e4 e5 r5 e6 r6
    go_loopg [20, 21] (m - a) (fun gk v20 v21 w' => ∃ s r : Nat, v20 = .int .i64 (s : Int) ∧ v21 = .int .i64 (r : Int) ∧ Aside0 (a ≤ s ∧ s ≤ r ∧ r ≤ m ∧ r - s ≤ gk) ∧ Aside0 (a < s → ltF d[q - (s - 1)]! d[s - 1]! = false) ∧ Aside0 (r < m → ltF d[q - r]! d[r]! = true) ∧ Aside0 (RW w0 blk off d w'))
    case atStart => exact ⟨a, m, rfl, rfl, ⟨by have := HLH.out; omega⟩, ⟨fun h => by omega⟩, ⟨fun h => by omega⟩, HR⟩
    case round =>
      clear HR
      obtain ⟨s, r, rfl, rfl, hb_, hbelow, habove, HR⟩ := hrel
      have hbb := hb_.out
      have hlh := HLH.out
      have ham := HAM.out
      have hm_ := HM.out
      by_cases hsr : s < r
      · have t1 : decide ((s : Int) < (r : Int)) = true := decide_eq_true (by omega)
        have t2 : decide (s < r) = true := decide_eq_true hsr
        obtain ⟨z, hz⟩ : ∃ z, s + r = z := ⟨_, rfl⟩
        have ez : (s : Int) + (r : Int) = (z : Int) := by omega
        obtain ⟨h, hh⟩ : ∃ h, z / 2 = h := ⟨_, rfl⟩
        have eh : (z : Int) / 2 = (h : Int) := by omega
        have h1 : s ≤ h ∧ h < r := by omega
        obtain ⟨g, hg⟩ : ∃ g, q - h = g := ⟨_, rfl⟩
        have eg : (q : Int) - (h : Int) = (g : Int) := by omega
        have rg : IntKind.i64.wrap (g : Int) = (g : Int) := by rw [IntKind.wrap_i64]; omega
        have h0 : (0 : Int) ≤ (h : Int) := by omega
        have h9 : (h : Int) < (d.size : Int) := by omega
        have a0 : (0 : Int) ≤ (g : Int) := by omega
        have a9 : (g : Int) < (d.size : Int) := by omega
        have eh1 : IntKind.i64.wrap ((h : Int) + 1) = ((h + 1 : Nat) : Int) := by rw [IntKind.wrap_i64]; omega
        have ch := rw_cell HR.out (j := h) (by omega)
        have cg := rw_cell HR.out (j := g) (by omega)
        obtain ⟨x, hx⟩ : ∃ x, d[h]!.1 = x := ⟨_, rfl⟩
        obtain ⟨y, hy⟩ : ∃ y, d[g]!.1 = y := ⟨_, rfl⟩
        obtain ⟨k, hk, hcmp⟩ := cmp_at hy hx
        rw [hx] at ch
        rw [hy] at cg
        have YES : Aside0 (ltF d[g]! d[h]! = false → a < h + 1 → ltF d[q - (h + 1 - 1)]! d[h + 1 - 1]! = false) := ⟨fun e _ => by rw [Nat.add_sub_cancel, hg]; exact e⟩
        have NO : Aside0 (ltF d[g]! d[h]! = true → h < m → ltF d[q - h]! d[h]! = true) := ⟨fun e _ => by rw [hg]; exact e⟩
        have HB1 : Aside0 (a ≤ h + 1 ∧ h + 1 ≤ r ∧ r ≤ m ∧ r - (h + 1) ≤ gk - 1) := ⟨by omega⟩
        have HB2 : Aside0 (a ≤ s ∧ s ≤ h ∧ h ≤ m ∧ h - s ≤ gk - 1) := ⟨by omega⟩
        have HG : Aside0 (gk - 1 < gk) := ⟨by omega⟩
        have HC := Aside0.mk hcmp
        have HV := Aside0.mk hk
        clear hbb hb_ hz hh h1 hg hx hy hk hcmp hlh ham hm_ hsr
        cases t : decide (k < 0) with
        | false =>
          have YS := Aside0.mk (YES.out (HV.out ▸ t))
          clear YES NO HV
          go_wp2_with fail
          go_quiet (first | (go_at_call 30; exact Calls.quiet_of_same (HC.out _)))
          go_wp2_with fail
          try rw [eh1]
          go_roundg (gk - 1)
          case measure => have := HG.out; omega
          case rel => exact ⟨h + 1, r, rfl, rfl, HB1, YS, habove, ⟨rw_drew HR.out _⟩⟩
        | true =>
          have NS := Aside0.mk (NO.out (HV.out ▸ t))
          clear YES NO HV
          go_wp2_with fail
          go_quiet (first | (go_at_call 30; exact Calls.quiet_of_same (HC.out _)))
          go_wp2_with fail
          go_roundg (gk - 1)
          case measure => have := HG.out; omega
          case rel => exact ⟨s, h, rfl, rfl, HB2, hbelow, NS, ⟨rw_drew HR.out _⟩⟩
      · obtain rfl : s = r := by omega
        have t1 : decide ((s : Int) < (s : Int)) = false := decide_eq_false (by omega)
        obtain ⟨f, hf⟩ : ∃ f, n - s = f := ⟨_, rfl⟩
        have ef : (n : Int) - (s : Int) = (f : Int) := by omega
        have rf : IntKind.i64.wrap (f : Int) = (f : Int) := by rw [IntKind.wrap_i64]; omega
        have hf2 : mid + m - s = f := by omega
        have BD : Aside0 (a ≤ s ∧ s ≤ m ∧ s ≤ mid ∧ mid ≤ f ∧ m ≤ f ∧ f ≤ b ∧ a < mid ∧ mid < b ∧ (s < m → m < f → True)) := ⟨by refine ⟨?_, ?_, ?_, ?_, ?_, ?_, ?_, ?_, fun _ _ => trivial⟩ <;> omega⟩
        have SP : Aside0 (∀ c : Array F64, Rot s m f d c → SortedIn ltF a s c ∧ SortedIn ltF s mid c ∧ SortedIn ltF mid f c ∧ SortedIn ltF f b c ∧ ∀ i j, a ≤ i → i < mid → mid ≤ j → j < b → ltF c[j]! c[i]! = false) := ⟨fun c hr => by
          have e := sym_split (mid := mid) (s := s) (lo := a) (hi := m) (d := d) (d' := c) ltF_swo (show a < m by omega) (show m < b by omega) hm_.1 HLO.out.symm HHI.out.symm (by omega) (by omega)
            (fun h => by rw [show mid + m - 1 - (s - 1) = q - (s - 1) by omega]; exact hbelow.out h) (fun h => by rw [show mid + m - 1 - s = q - s by omega]; exact habove.out h) HS1.out HS2.out (by rw [hf2]; exact hr)
          rw [hf2] at e
          exact e⟩
        have hns : ¬ (s < m ∧ m < f) → s = m ∨ f = m := by omega
        have HNS := Aside0.mk hns
        clear hbb hb_ hlh ham hm_ hsr hf hf2 hns
        by_cases c1 : s < m ∧ m < f
        · have u1 : decide ((s : Int) < (m : Int)) = true := decide_eq_true (by omega)
          have u1' : decide (s < m) = true := decide_eq_true (by omega)
          have u2 : decide ((m : Int) < (f : Int)) = true := decide_eq_true (by omega)
          have u2' : decide (m < f) = true := decide_eq_true (by omega)
          have CR := Aside0.mk (fun W (h : RW w0 blk off d W) => rotate_calls blk off cap s m f d w0 W h c1.1 c1.2 (by have := BD.out; have := HAM.out; omega) hsz)
          clear c1
          go_wp2_with fail
          refine (CR.out _ HR.out).mono ?_
          rintro e w2 ⟨rfl, c, hr, hw⟩
          have RT := Aside0.mk hr
          have HW := Aside0.mk hw
          clear hr hw CR u1 u1' u2 u2'
          have CS : Aside0 (c.size = d.size) := ⟨RT.out.1⟩
          have SS := Aside0.mk (SP.out c RT.out)
          have PD : Aside0 (PermIn a b d c) := ⟨permIn_mono _ _ _ _ a b BD.out.1 BD.out.2.2.2.2.2.1 HAM.out.2.2 RT.out.2.1⟩
          clear SP
          by_cases v1 : a < s
          · have g1 : decide ((a : Int) < (s : Int)) = true := decide_eq_true (by omega)
            have g1' : decide (a < s) = true := decide_eq_true v1
            by_cases v2 : s < mid
            · have g2 : decide ((s : Int) < (mid : Int)) = true := decide_eq_true (by omega)
              have g2' : decide (s < mid) = true := decide_eq_true v2
              have CL := Aside0.mk (HIH.out a s mid (Nat.le_refl _) v1 v2 (by have := BD.out; omega) (by have := BD.out; omega) c w2 CS.out HW.out SS.out.1 SS.out.2.1)
              clear v1 v2
              go_wp2_with fail
              refine CL.out.mono ?_
              rintro e wl ⟨rfl, cl, hp, hs, hw⟩
              have PL := Aside0.mk hp
              have SL := Aside0.mk hs
              have HWL := Aside0.mk hw
              clear hp hs hw CL g1 g1' g2 g2'
              have SR : Aside0 (SortedIn ltF mid f cl ∧ SortedIn ltF f b cl) := ⟨sorted_perm_out PL.out (.inr (Nat.le_refl _)) SS.out.2.2.1, sorted_perm_out PL.out (.inr BD.out.2.2.2.1) SS.out.2.2.2.1⟩
              have C2 : Aside0 (cl.size = d.size) := ⟨PL.out.1.trans CS.out⟩
              by_cases v1 : mid < f
              · have g1 : decide ((mid : Int) < (f : Int)) = true := decide_eq_true (by omega)
                have g1' : decide (mid < f) = true := decide_eq_true v1
                by_cases v2 : f < b
                · have g2 : decide ((f : Int) < (b : Int)) = true := decide_eq_true (by omega)
                  have g2' : decide (f < b) = true := decide_eq_true v2
                  have CR2 := Aside0.mk (HIH.out mid f b (by have := BD.out; omega) v1 v2 (Nat.le_refl _) (by have := BD.out; omega) cl wl C2.out HWL.out SR.out.1 SR.out.2)
                  clear v1 v2
                  go_wp2_with fail
                  refine CR2.out.mono ?_
                  rintro e wz ⟨rfl, cz, hp, hs, hw⟩
                  have PR := Aside0.mk hp
                  have SR2 := Aside0.mk hs
                  have HWR := Aside0.mk hw
                  clear hp hs hw CR2
                  have J := sym_join BD.out.2.2.2.2.2.2.1 BD.out.2.2.2.2.2.2.2.1 HAM.out.2.2 CS.out PD.out PL.out PR.out SL.out SR2.out SS.out.2.2.2.2
                  have JJ := Aside0.mk J
                  clear J
                  go_wp2
                  go_end0
                  exact ⟨rfl, cz, JJ.out.1, JJ.out.2, HWR.out⟩
                · have g2 : decide ((f : Int) < (b : Int)) = false := decide_eq_false (by omega)
                  have g2' : decide (f < b) = false := decide_eq_false v2
                  have SR2 : Aside0 (SortedIn ltF mid b cl) := ⟨by have h := SR.out; have hb := BD.out; first | (rw [show f = mid by omega] at h; exact h.2) | (rw [show f = b by omega] at h; exact h.1)⟩
                  have PR : Aside0 (PermIn mid b cl cl) := ⟨permIn_refl _ _ _⟩
                  try clear v2
                  clear v1
                  go_wp2_with fail
                  have J := sym_join BD.out.2.2.2.2.2.2.1 BD.out.2.2.2.2.2.2.2.1 HAM.out.2.2 CS.out PD.out PL.out PR.out SL.out SR2.out SS.out.2.2.2.2
                  have JJ := Aside0.mk J
                  clear J
                  go_wp2
                  go_end0
                  exact ⟨rfl, cl, JJ.out.1, JJ.out.2, HWL.out⟩
              · have g1 : decide ((mid : Int) < (f : Int)) = false := decide_eq_false (by omega)
                have g1' : decide (mid < f) = false := decide_eq_false v1
                have SR2 : Aside0 (SortedIn ltF mid b cl) := ⟨by have h := SR.out; have hb := BD.out; first | (rw [show f = mid by omega] at h; exact h.2) | (rw [show f = b by omega] at h; exact h.1)⟩
                have PR : Aside0 (PermIn mid b cl cl) := ⟨permIn_refl _ _ _⟩
                try clear v2
                clear v1
                go_wp2_with fail
                have J := sym_join BD.out.2.2.2.2.2.2.1 BD.out.2.2.2.2.2.2.2.1 HAM.out.2.2 CS.out PD.out PL.out PR.out SL.out SR2.out SS.out.2.2.2.2
                have JJ := Aside0.mk J
                clear J
                go_wp2
                go_end0
                exact ⟨rfl, cl, JJ.out.1, JJ.out.2, HWL.out⟩
            · have g2 : decide ((s : Int) < (mid : Int)) = false := decide_eq_false (by omega)
              have g2' : decide (s < mid) = false := decide_eq_false v2
              have SL : Aside0 (SortedIn ltF a mid c) := ⟨by have h := SS.out; have hb := BD.out; first | (rw [show s = mid by omega] at h; exact h.1) | (rw [show s = a by omega] at h; exact h.2.1)⟩
              have PL : Aside0 (PermIn a mid c c) := ⟨permIn_refl _ _ _⟩
              have SR : Aside0 (SortedIn ltF mid f c ∧ SortedIn ltF f b c) := ⟨sorted_perm_out PL.out (.inr (Nat.le_refl _)) SS.out.2.2.1, sorted_perm_out PL.out (.inr BD.out.2.2.2.1) SS.out.2.2.2.1⟩
              have C2 : Aside0 (c.size = d.size) := ⟨PL.out.1.trans CS.out⟩
              have k1 := g1
              have k1' := g1'
              clear g1 g1'
              try have k2 := g2
              try have k2' := g2'
              try clear g2 g2'
              try clear v2
              try clear v1
              by_cases v1 : mid < f
              · have g1 : decide ((mid : Int) < (f : Int)) = true := decide_eq_true (by omega)
                have g1' : decide (mid < f) = true := decide_eq_true v1
                by_cases v2 : f < b
                · have g2 : decide ((f : Int) < (b : Int)) = true := decide_eq_true (by omega)
                  have g2' : decide (f < b) = true := decide_eq_true v2
                  have CR2 := Aside0.mk (HIH.out mid f b (by have := BD.out; omega) v1 v2 (Nat.le_refl _) (by have := BD.out; omega) c w2 C2.out HW.out SR.out.1 SR.out.2)
                  clear v1 v2
                  go_wp2_with fail
                  refine CR2.out.mono ?_
                  rintro e wz ⟨rfl, cz, hp, hs, hw⟩
                  have PR := Aside0.mk hp
                  have SR2 := Aside0.mk hs
                  have HWR := Aside0.mk hw
                  clear hp hs hw CR2
                  have J := sym_join BD.out.2.2.2.2.2.2.1 BD.out.2.2.2.2.2.2.2.1 HAM.out.2.2 CS.out PD.out PL.out PR.out SL.out SR2.out SS.out.2.2.2.2
                  have JJ := Aside0.mk J
                  clear J
                  go_wp2
                  go_end0
                  exact ⟨rfl, cz, JJ.out.1, JJ.out.2, HWR.out⟩
                · have g2 : decide ((f : Int) < (b : Int)) = false := decide_eq_false (by omega)
                  have g2' : decide (f < b) = false := decide_eq_false v2
                  have SR2 : Aside0 (SortedIn ltF mid b c) := ⟨by have h := SR.out; have hb := BD.out; first | (rw [show f = mid by omega] at h; exact h.2) | (rw [show f = b by omega] at h; exact h.1)⟩
                  have PR : Aside0 (PermIn mid b c c) := ⟨permIn_refl _ _ _⟩
                  try clear v2
                  clear v1
                  go_wp2_with fail
                  have J := sym_join BD.out.2.2.2.2.2.2.1 BD.out.2.2.2.2.2.2.2.1 HAM.out.2.2 CS.out PD.out PL.out PR.out SL.out SR2.out SS.out.2.2.2.2
                  have JJ := Aside0.mk J
                  clear J
                  go_wp2
                  go_end0
                  exact ⟨rfl, c, JJ.out.1, JJ.out.2, HW.out⟩
              · have g1 : decide ((mid : Int) < (f : Int)) = false := decide_eq_false (by omega)
                have g1' : decide (mid < f) = false := decide_eq_false v1
                have SR2 : Aside0 (SortedIn ltF mid b c) := ⟨by have h := SR.out; have hb := BD.out; first | (rw [show f = mid by omega] at h; exact h.2) | (rw [show f = b by omega] at h; exact h.1)⟩
                have PR : Aside0 (PermIn mid b c c) := ⟨permIn_refl _ _ _⟩
                try clear v2
                clear v1
                go_wp2_with fail
                have J := sym_join BD.out.2.2.2.2.2.2.1 BD.out.2.2.2.2.2.2.2.1 HAM.out.2.2 CS.out PD.out PL.out PR.out SL.out SR2.out SS.out.2.2.2.2
                have JJ := Aside0.mk J
                clear J
                go_wp2
                go_end0
                exact ⟨rfl, c, JJ.out.1, JJ.out.2, HW.out⟩
          · have g1 : decide ((a : Int) < (s : Int)) = false := decide_eq_false (by omega)
            have g1' : decide (a < s) = false := decide_eq_false v1
            have SL : Aside0 (SortedIn ltF a mid c) := ⟨by have h := SS.out; have hb := BD.out; first | (rw [show s = mid by omega] at h; exact h.1) | (rw [show s = a by omega] at h; exact h.2.1)⟩
            have PL : Aside0 (PermIn a mid c c) := ⟨permIn_refl _ _ _⟩
            have SR : Aside0 (SortedIn ltF mid f c ∧ SortedIn ltF f b c) := ⟨sorted_perm_out PL.out (.inr (Nat.le_refl _)) SS.out.2.2.1, sorted_perm_out PL.out (.inr BD.out.2.2.2.1) SS.out.2.2.2.1⟩
            have C2 : Aside0 (c.size = d.size) := ⟨PL.out.1.trans CS.out⟩
            have k1 := g1
            have k1' := g1'
            clear g1 g1'
            try have k2 := g2
            try have k2' := g2'
            try clear g2 g2'
            try clear v2
            try clear v1
            by_cases v1 : mid < f
            · have g1 : decide ((mid : Int) < (f : Int)) = true := decide_eq_true (by omega)
              have g1' : decide (mid < f) = true := decide_eq_true v1
              by_cases v2 : f < b
              · have g2 : decide ((f : Int) < (b : Int)) = true := decide_eq_true (by omega)
                have g2' : decide (f < b) = true := decide_eq_true v2
                have CR2 := Aside0.mk (HIH.out mid f b (by have := BD.out; omega) v1 v2 (Nat.le_refl _) (by have := BD.out; omega) c w2 C2.out HW.out SR.out.1 SR.out.2)
                clear v1 v2
                go_wp2_with fail
                refine CR2.out.mono ?_
                rintro e wz ⟨rfl, cz, hp, hs, hw⟩
                have PR := Aside0.mk hp
                have SR2 := Aside0.mk hs
                have HWR := Aside0.mk hw
                clear hp hs hw CR2
                have J := sym_join BD.out.2.2.2.2.2.2.1 BD.out.2.2.2.2.2.2.2.1 HAM.out.2.2 CS.out PD.out PL.out PR.out SL.out SR2.out SS.out.2.2.2.2
                have JJ := Aside0.mk J
                clear J
                go_wp2
                go_end0
                exact ⟨rfl, cz, JJ.out.1, JJ.out.2, HWR.out⟩
              · have g2 : decide ((f : Int) < (b : Int)) = false := decide_eq_false (by omega)
                have g2' : decide (f < b) = false := decide_eq_false v2
                have SR2 : Aside0 (SortedIn ltF mid b c) := ⟨by have h := SR.out; have hb := BD.out; first | (rw [show f = mid by omega] at h; exact h.2) | (rw [show f = b by omega] at h; exact h.1)⟩
                have PR : Aside0 (PermIn mid b c c) := ⟨permIn_refl _ _ _⟩
                try clear v2
                clear v1
                go_wp2_with fail
                have J := sym_join BD.out.2.2.2.2.2.2.1 BD.out.2.2.2.2.2.2.2.1 HAM.out.2.2 CS.out PD.out PL.out PR.out SL.out SR2.out SS.out.2.2.2.2
                have JJ := Aside0.mk J
                clear J
                go_wp2
                go_end0
                exact ⟨rfl, c, JJ.out.1, JJ.out.2, HW.out⟩
            · have g1 : decide ((mid : Int) < (f : Int)) = false := decide_eq_false (by omega)
              have g1' : decide (mid < f) = false := decide_eq_false v1
              have SR2 : Aside0 (SortedIn ltF mid b c) := ⟨by have h := SR.out; have hb := BD.out; first | (rw [show f = mid by omega] at h; exact h.2) | (rw [show f = b by omega] at h; exact h.1)⟩
              have PR : Aside0 (PermIn mid b c c) := ⟨permIn_refl _ _ _⟩
              try clear v2
              clear v1
              go_wp2_with fail
              have J := sym_join BD.out.2.2.2.2.2.2.1 BD.out.2.2.2.2.2.2.2.1 HAM.out.2.2 CS.out PD.out PL.out PR.out SL.out SR2.out SS.out.2.2.2.2
              have JJ := Aside0.mk J
              clear J
              go_wp2
              go_end0
              exact ⟨rfl, c, JJ.out.1, JJ.out.2, HW.out⟩
        · have RT : Aside0 (Rot s m f d d) := ⟨by rcases HNS.out c1 with h | h; (rw [h]; exact rot_none_left d); (rw [h]; exact rot_none_right d)⟩
          by_cases u0 : s < m
          · have u1 : decide ((s : Int) < (m : Int)) = true := decide_eq_true (by omega)
            have u1' : decide (s < m) = true := decide_eq_true (by omega)
            have u2 : decide ((m : Int) < (f : Int)) = false := decide_eq_false (by omega)
            have u2' : decide (m < f) = false := decide_eq_false (by omega)
            clear c1 u0
            have SS := Aside0.mk (SP.out d RT.out)
            have PD : Aside0 (PermIn a b d d) := ⟨permIn_mono _ _ _ _ a b BD.out.1 BD.out.2.2.2.2.2.1 HAM.out.2.2 RT.out.2.1⟩
            clear SP
            by_cases v1 : a < s
            · have g1 : decide ((a : Int) < (s : Int)) = true := decide_eq_true (by omega)
              have g1' : decide (a < s) = true := decide_eq_true v1
              by_cases v2 : s < mid
              · have g2 : decide ((s : Int) < (mid : Int)) = true := decide_eq_true (by omega)
                have g2' : decide (s < mid) = true := decide_eq_true v2
                have CL := Aside0.mk (HIH.out a s mid (Nat.le_refl _) v1 v2 (by have := BD.out; omega) (by have := BD.out; omega) d wr rfl HR.out SS.out.1 SS.out.2.1)
                clear v1 v2
                go_wp2_with fail
                refine CL.out.mono ?_
                rintro e wl ⟨rfl, cl, hp, hs, hw⟩
                have PL := Aside0.mk hp
                have SL := Aside0.mk hs
                have HWL := Aside0.mk hw
                clear hp hs hw CL g1 g1' g2 g2'
                have SR : Aside0 (SortedIn ltF mid f cl ∧ SortedIn ltF f b cl) := ⟨sorted_perm_out PL.out (.inr (Nat.le_refl _)) SS.out.2.2.1, sorted_perm_out PL.out (.inr BD.out.2.2.2.1) SS.out.2.2.2.1⟩
                have C2 : Aside0 (cl.size = d.size) := ⟨PL.out.1.trans rfl⟩
                by_cases v1 : mid < f
                · have g1 : decide ((mid : Int) < (f : Int)) = true := decide_eq_true (by omega)
                  have g1' : decide (mid < f) = true := decide_eq_true v1
                  by_cases v2 : f < b
                  · have g2 : decide ((f : Int) < (b : Int)) = true := decide_eq_true (by omega)
                    have g2' : decide (f < b) = true := decide_eq_true v2
                    have CR2 := Aside0.mk (HIH.out mid f b (by have := BD.out; omega) v1 v2 (Nat.le_refl _) (by have := BD.out; omega) cl wl C2.out HWL.out SR.out.1 SR.out.2)
                    clear v1 v2
                    go_wp2_with fail
                    refine CR2.out.mono ?_
                    rintro e wz ⟨rfl, cz, hp, hs, hw⟩
                    have PR := Aside0.mk hp
                    have SR2 := Aside0.mk hs
                    have HWR := Aside0.mk hw
                    clear hp hs hw CR2
                    have J := sym_join BD.out.2.2.2.2.2.2.1 BD.out.2.2.2.2.2.2.2.1 HAM.out.2.2 rfl PD.out PL.out PR.out SL.out SR2.out SS.out.2.2.2.2
                    have JJ := Aside0.mk J
                    clear J
                    go_wp2
                    go_end0
                    exact ⟨rfl, cz, JJ.out.1, JJ.out.2, HWR.out⟩
                  · have g2 : decide ((f : Int) < (b : Int)) = false := decide_eq_false (by omega)
                    have g2' : decide (f < b) = false := decide_eq_false v2
                    have SR2 : Aside0 (SortedIn ltF mid b cl) := ⟨by have h := SR.out; have hb := BD.out; first | (rw [show f = mid by omega] at h; exact h.2) | (rw [show f = b by omega] at h; exact h.1)⟩
                    have PR : Aside0 (PermIn mid b cl cl) := ⟨permIn_refl _ _ _⟩
                    try clear v2
                    clear v1
                    go_wp2_with fail
                    have J := sym_join BD.out.2.2.2.2.2.2.1 BD.out.2.2.2.2.2.2.2.1 HAM.out.2.2 rfl PD.out PL.out PR.out SL.out SR2.out SS.out.2.2.2.2
                    have JJ := Aside0.mk J
                    clear J
                    go_wp2
                    go_end0
                    exact ⟨rfl, cl, JJ.out.1, JJ.out.2, HWL.out⟩
                · have g1 : decide ((mid : Int) < (f : Int)) = false := decide_eq_false (by omega)
                  have g1' : decide (mid < f) = false := decide_eq_false v1
                  have SR2 : Aside0 (SortedIn ltF mid b cl) := ⟨by have h := SR.out; have hb := BD.out; first | (rw [show f = mid by omega] at h; exact h.2) | (rw [show f = b by omega] at h; exact h.1)⟩
                  have PR : Aside0 (PermIn mid b cl cl) := ⟨permIn_refl _ _ _⟩
                  try clear v2
                  clear v1
                  go_wp2_with fail
                  have J := sym_join BD.out.2.2.2.2.2.2.1 BD.out.2.2.2.2.2.2.2.1 HAM.out.2.2 rfl PD.out PL.out PR.out SL.out SR2.out SS.out.2.2.2.2
                  have JJ := Aside0.mk J
                  clear J
                  go_wp2
                  go_end0
                  exact ⟨rfl, cl, JJ.out.1, JJ.out.2, HWL.out⟩
              · have g2 : decide ((s : Int) < (mid : Int)) = false := decide_eq_false (by omega)
                have g2' : decide (s < mid) = false := decide_eq_false v2
                have SL : Aside0 (SortedIn ltF a mid d) := ⟨by have h := SS.out; have hb := BD.out; first | (rw [show s = mid by omega] at h; exact h.1) | (rw [show s = a by omega] at h; exact h.2.1)⟩
                have PL : Aside0 (PermIn a mid d d) := ⟨permIn_refl _ _ _⟩
                have SR : Aside0 (SortedIn ltF mid f d ∧ SortedIn ltF f b d) := ⟨sorted_perm_out PL.out (.inr (Nat.le_refl _)) SS.out.2.2.1, sorted_perm_out PL.out (.inr BD.out.2.2.2.1) SS.out.2.2.2.1⟩
                have k1 := g1
                have k1' := g1'
                clear g1 g1'
                try have k2 := g2
                try have k2' := g2'
                try clear g2 g2'
                try clear v2
                try clear v1
                by_cases v1 : mid < f
                · have g1 : decide ((mid : Int) < (f : Int)) = true := decide_eq_true (by omega)
                  have g1' : decide (mid < f) = true := decide_eq_true v1
                  by_cases v2 : f < b
                  · have g2 : decide ((f : Int) < (b : Int)) = true := decide_eq_true (by omega)
                    have g2' : decide (f < b) = true := decide_eq_true v2
                    have CR2 := Aside0.mk (HIH.out mid f b (by have := BD.out; omega) v1 v2 (Nat.le_refl _) (by have := BD.out; omega) d wr rfl HR.out SR.out.1 SR.out.2)
                    clear v1 v2
                    go_wp2_with fail
                    refine CR2.out.mono ?_
                    rintro e wz ⟨rfl, cz, hp, hs, hw⟩
                    have PR := Aside0.mk hp
                    have SR2 := Aside0.mk hs
                    have HWR := Aside0.mk hw
                    clear hp hs hw CR2
                    have J := sym_join BD.out.2.2.2.2.2.2.1 BD.out.2.2.2.2.2.2.2.1 HAM.out.2.2 rfl PD.out PL.out PR.out SL.out SR2.out SS.out.2.2.2.2
                    have JJ := Aside0.mk J
                    clear J
                    go_wp2
                    go_end0
                    exact ⟨rfl, cz, JJ.out.1, JJ.out.2, HWR.out⟩
                  · have g2 : decide ((f : Int) < (b : Int)) = false := decide_eq_false (by omega)
                    have g2' : decide (f < b) = false := decide_eq_false v2
                    have SR2 : Aside0 (SortedIn ltF mid b d) := ⟨by have h := SR.out; have hb := BD.out; first | (rw [show f = mid by omega] at h; exact h.2) | (rw [show f = b by omega] at h; exact h.1)⟩
                    have PR : Aside0 (PermIn mid b d d) := ⟨permIn_refl _ _ _⟩
                    try clear v2
                    clear v1
                    go_wp2_with fail
                    have J := sym_join BD.out.2.2.2.2.2.2.1 BD.out.2.2.2.2.2.2.2.1 HAM.out.2.2 rfl PD.out PL.out PR.out SL.out SR2.out SS.out.2.2.2.2
                    have JJ := Aside0.mk J
                    clear J
                    go_wp2
                    go_end0
                    exact ⟨rfl, d, JJ.out.1, JJ.out.2, HR.out⟩
                · have g1 : decide ((mid : Int) < (f : Int)) = false := decide_eq_false (by omega)
                  have g1' : decide (mid < f) = false := decide_eq_false v1
                  have SR2 : Aside0 (SortedIn ltF mid b d) := ⟨by have h := SR.out; have hb := BD.out; first | (rw [show f = mid by omega] at h; exact h.2) | (rw [show f = b by omega] at h; exact h.1)⟩
                  have PR : Aside0 (PermIn mid b d d) := ⟨permIn_refl _ _ _⟩
                  try clear v2
                  clear v1
                  go_wp2_with fail
                  have J := sym_join BD.out.2.2.2.2.2.2.1 BD.out.2.2.2.2.2.2.2.1 HAM.out.2.2 rfl PD.out PL.out PR.out SL.out SR2.out SS.out.2.2.2.2
                  have JJ := Aside0.mk J
                  clear J
                  go_wp2
                  go_end0
                  exact ⟨rfl, d, JJ.out.1, JJ.out.2, HR.out⟩
            · have g1 : decide ((a : Int) < (s : Int)) = false := decide_eq_false (by omega)
              have g1' : decide (a < s) = false := decide_eq_false v1
              have SL : Aside0 (SortedIn ltF a mid d) := ⟨by have h := SS.out; have hb := BD.out; first | (rw [show s = mid by omega] at h; exact h.1) | (rw [show s = a by omega] at h; exact h.2.1)⟩
              have PL : Aside0 (PermIn a mid d d) := ⟨permIn_refl _ _ _⟩
              have SR : Aside0 (SortedIn ltF mid f d ∧ SortedIn ltF f b d) := ⟨sorted_perm_out PL.out (.inr (Nat.le_refl _)) SS.out.2.2.1, sorted_perm_out PL.out (.inr BD.out.2.2.2.1) SS.out.2.2.2.1⟩
              have k1 := g1
              have k1' := g1'
              clear g1 g1'
              try have k2 := g2
              try have k2' := g2'
              try clear g2 g2'
              try clear v2
              try clear v1
              by_cases v1 : mid < f
              · have g1 : decide ((mid : Int) < (f : Int)) = true := decide_eq_true (by omega)
                have g1' : decide (mid < f) = true := decide_eq_true v1
                by_cases v2 : f < b
                · have g2 : decide ((f : Int) < (b : Int)) = true := decide_eq_true (by omega)
                  have g2' : decide (f < b) = true := decide_eq_true v2
                  have CR2 := Aside0.mk (HIH.out mid f b (by have := BD.out; omega) v1 v2 (Nat.le_refl _) (by have := BD.out; omega) d wr rfl HR.out SR.out.1 SR.out.2)
                  clear v1 v2
                  go_wp2_with fail
                  refine CR2.out.mono ?_
                  rintro e wz ⟨rfl, cz, hp, hs, hw⟩
                  have PR := Aside0.mk hp
                  have SR2 := Aside0.mk hs
                  have HWR := Aside0.mk hw
                  clear hp hs hw CR2
                  have J := sym_join BD.out.2.2.2.2.2.2.1 BD.out.2.2.2.2.2.2.2.1 HAM.out.2.2 rfl PD.out PL.out PR.out SL.out SR2.out SS.out.2.2.2.2
                  have JJ := Aside0.mk J
                  clear J
                  go_wp2
                  go_end0
                  exact ⟨rfl, cz, JJ.out.1, JJ.out.2, HWR.out⟩
                · have g2 : decide ((f : Int) < (b : Int)) = false := decide_eq_false (by omega)
                  have g2' : decide (f < b) = false := decide_eq_false v2
                  have SR2 : Aside0 (SortedIn ltF mid b d) := ⟨by have h := SR.out; have hb := BD.out; first | (rw [show f = mid by omega] at h; exact h.2) | (rw [show f = b by omega] at h; exact h.1)⟩
                  have PR : Aside0 (PermIn mid b d d) := ⟨permIn_refl _ _ _⟩
                  try clear v2
                  clear v1
                  go_wp2_with fail
                  have J := sym_join BD.out.2.2.2.2.2.2.1 BD.out.2.2.2.2.2.2.2.1 HAM.out.2.2 rfl PD.out PL.out PR.out SL.out SR2.out SS.out.2.2.2.2
                  have JJ := Aside0.mk J
                  clear J
                  go_wp2
                  go_end0
                  exact ⟨rfl, d, JJ.out.1, JJ.out.2, HR.out⟩
              · have g1 : decide ((mid : Int) < (f : Int)) = false := decide_eq_false (by omega)
                have g1' : decide (mid < f) = false := decide_eq_false v1
                have SR2 : Aside0 (SortedIn ltF mid b d) := ⟨by have h := SR.out; have hb := BD.out; first | (rw [show f = mid by omega] at h; exact h.2) | (rw [show f = b by omega] at h; exact h.1)⟩
                have PR : Aside0 (PermIn mid b d d) := ⟨permIn_refl _ _ _⟩
                try clear v2
                clear v1
                go_wp2_with fail
                have J := sym_join BD.out.2.2.2.2.2.2.1 BD.out.2.2.2.2.2.2.2.1 HAM.out.2.2 rfl PD.out PL.out PR.out SL.out SR2.out SS.out.2.2.2.2
                have JJ := Aside0.mk J
                clear J
                go_wp2
                go_end0
                exact ⟨rfl, d, JJ.out.1, JJ.out.2, HR.out⟩
          · have u1 : decide ((s : Int) < (m : Int)) = false := decide_eq_false (by omega)
            have u1' : decide (s < m) = false := decide_eq_false (by omega)
            clear c1 u0
            have SS := Aside0.mk (SP.out d RT.out)
            have PD : Aside0 (PermIn a b d d) := ⟨permIn_mono _ _ _ _ a b BD.out.1 BD.out.2.2.2.2.2.1 HAM.out.2.2 RT.out.2.1⟩
            clear SP
            by_cases v1 : a < s
            · have g1 : decide ((a : Int) < (s : Int)) = true := decide_eq_true (by omega)
              have g1' : decide (a < s) = true := decide_eq_true v1
              by_cases v2 : s < mid
              · have g2 : decide ((s : Int) < (mid : Int)) = true := decide_eq_true (by omega)
                have g2' : decide (s < mid) = true := decide_eq_true v2
                have CL := Aside0.mk (HIH.out a s mid (Nat.le_refl _) v1 v2 (by have := BD.out; omega) (by have := BD.out; omega) d wr rfl HR.out SS.out.1 SS.out.2.1)
                clear v1 v2
                go_wp2_with fail
                refine CL.out.mono ?_
                rintro e wl ⟨rfl, cl, hp, hs, hw⟩
                have PL := Aside0.mk hp
                have SL := Aside0.mk hs
                have HWL := Aside0.mk hw
                clear hp hs hw CL g1 g1' g2 g2'
                have SR : Aside0 (SortedIn ltF mid f cl ∧ SortedIn ltF f b cl) := ⟨sorted_perm_out PL.out (.inr (Nat.le_refl _)) SS.out.2.2.1, sorted_perm_out PL.out (.inr BD.out.2.2.2.1) SS.out.2.2.2.1⟩
                have C2 : Aside0 (cl.size = d.size) := ⟨PL.out.1.trans rfl⟩
                by_cases v1 : mid < f
                · have g1 : decide ((mid : Int) < (f : Int)) = true := decide_eq_true (by omega)
                  have g1' : decide (mid < f) = true := decide_eq_true v1
                  by_cases v2 : f < b
                  · have g2 : decide ((f : Int) < (b : Int)) = true := decide_eq_true (by omega)
                    have g2' : decide (f < b) = true := decide_eq_true v2
                    have CR2 := Aside0.mk (HIH.out mid f b (by have := BD.out; omega) v1 v2 (Nat.le_refl _) (by have := BD.out; omega) cl wl C2.out HWL.out SR.out.1 SR.out.2)
                    clear v1 v2
                    go_wp2_with fail
                    refine CR2.out.mono ?_
                    rintro e wz ⟨rfl, cz, hp, hs, hw⟩
                    have PR := Aside0.mk hp
                    have SR2 := Aside0.mk hs
                    have HWR := Aside0.mk hw
                    clear hp hs hw CR2
                    have J := sym_join BD.out.2.2.2.2.2.2.1 BD.out.2.2.2.2.2.2.2.1 HAM.out.2.2 rfl PD.out PL.out PR.out SL.out SR2.out SS.out.2.2.2.2
                    have JJ := Aside0.mk J
                    clear J
                    go_wp2
                    go_end0
                    exact ⟨rfl, cz, JJ.out.1, JJ.out.2, HWR.out⟩
                  · have g2 : decide ((f : Int) < (b : Int)) = false := decide_eq_false (by omega)
                    have g2' : decide (f < b) = false := decide_eq_false v2
                    have SR2 : Aside0 (SortedIn ltF mid b cl) := ⟨by have h := SR.out; have hb := BD.out; first | (rw [show f = mid by omega] at h; exact h.2) | (rw [show f = b by omega] at h; exact h.1)⟩
                    have PR : Aside0 (PermIn mid b cl cl) := ⟨permIn_refl _ _ _⟩
                    try clear v2
                    clear v1
                    go_wp2_with fail
                    have J := sym_join BD.out.2.2.2.2.2.2.1 BD.out.2.2.2.2.2.2.2.1 HAM.out.2.2 rfl PD.out PL.out PR.out SL.out SR2.out SS.out.2.2.2.2
                    have JJ := Aside0.mk J
                    clear J
                    go_wp2
                    go_end0
                    exact ⟨rfl, cl, JJ.out.1, JJ.out.2, HWL.out⟩
                · have g1 : decide ((mid : Int) < (f : Int)) = false := decide_eq_false (by omega)
                  have g1' : decide (mid < f) = false := decide_eq_false v1
                  have SR2 : Aside0 (SortedIn ltF mid b cl) := ⟨by have h := SR.out; have hb := BD.out; first | (rw [show f = mid by omega] at h; exact h.2) | (rw [show f = b by omega] at h; exact h.1)⟩
                  have PR : Aside0 (PermIn mid b cl cl) := ⟨permIn_refl _ _ _⟩
                  try clear v2
                  clear v1
                  go_wp2_with fail
                  have J := sym_join BD.out.2.2.2.2.2.2.1 BD.out.2.2.2.2.2.2.2.1 HAM.out.2.2 rfl PD.out PL.out PR.out SL.out SR2.out SS.out.2.2.2.2
                  have JJ := Aside0.mk J
                  clear J
                  go_wp2
                  go_end0
                  exact ⟨rfl, cl, JJ.out.1, JJ.out.2, HWL.out⟩
              · have g2 : decide ((s : Int) < (mid : Int)) = false := decide_eq_false (by omega)
                have g2' : decide (s < mid) = false := decide_eq_false v2
                have SL : Aside0 (SortedIn ltF a mid d) := ⟨by have h := SS.out; have hb := BD.out; first | (rw [show s = mid by omega] at h; exact h.1) | (rw [show s = a by omega] at h; exact h.2.1)⟩
                have PL : Aside0 (PermIn a mid d d) := ⟨permIn_refl _ _ _⟩
                have SR : Aside0 (SortedIn ltF mid f d ∧ SortedIn ltF f b d) := ⟨sorted_perm_out PL.out (.inr (Nat.le_refl _)) SS.out.2.2.1, sorted_perm_out PL.out (.inr BD.out.2.2.2.1) SS.out.2.2.2.1⟩
                have k1 := g1
                have k1' := g1'
                clear g1 g1'
                try have k2 := g2
                try have k2' := g2'
                try clear g2 g2'
                try clear v2
                try clear v1
                by_cases v1 : mid < f
                · have g1 : decide ((mid : Int) < (f : Int)) = true := decide_eq_true (by omega)
                  have g1' : decide (mid < f) = true := decide_eq_true v1
                  by_cases v2 : f < b
                  · have g2 : decide ((f : Int) < (b : Int)) = true := decide_eq_true (by omega)
                    have g2' : decide (f < b) = true := decide_eq_true v2
                    have CR2 := Aside0.mk (HIH.out mid f b (by have := BD.out; omega) v1 v2 (Nat.le_refl _) (by have := BD.out; omega) d wr rfl HR.out SR.out.1 SR.out.2)
                    clear v1 v2
                    go_wp2_with fail
                    refine CR2.out.mono ?_
                    rintro e wz ⟨rfl, cz, hp, hs, hw⟩
                    have PR := Aside0.mk hp
                    have SR2 := Aside0.mk hs
                    have HWR := Aside0.mk hw
                    clear hp hs hw CR2
                    have J := sym_join BD.out.2.2.2.2.2.2.1 BD.out.2.2.2.2.2.2.2.1 HAM.out.2.2 rfl PD.out PL.out PR.out SL.out SR2.out SS.out.2.2.2.2
                    have JJ := Aside0.mk J
                    clear J
                    go_wp2
                    go_end0
                    exact ⟨rfl, cz, JJ.out.1, JJ.out.2, HWR.out⟩
                  · have g2 : decide ((f : Int) < (b : Int)) = false := decide_eq_false (by omega)
                    have g2' : decide (f < b) = false := decide_eq_false v2
                    have SR2 : Aside0 (SortedIn ltF mid b d) := ⟨by have h := SR.out; have hb := BD.out; first | (rw [show f = mid by omega] at h; exact h.2) | (rw [show f = b by omega] at h; exact h.1)⟩
                    have PR : Aside0 (PermIn mid b d d) := ⟨permIn_refl _ _ _⟩
                    try clear v2
                    clear v1
                    go_wp2_with fail
                    have J := sym_join BD.out.2.2.2.2.2.2.1 BD.out.2.2.2.2.2.2.2.1 HAM.out.2.2 rfl PD.out PL.out PR.out SL.out SR2.out SS.out.2.2.2.2
                    have JJ := Aside0.mk J
                    clear J
                    go_wp2
                    go_end0
                    exact ⟨rfl, d, JJ.out.1, JJ.out.2, HR.out⟩
                · have g1 : decide ((mid : Int) < (f : Int)) = false := decide_eq_false (by omega)
                  have g1' : decide (mid < f) = false := decide_eq_false v1
                  have SR2 : Aside0 (SortedIn ltF mid b d) := ⟨by have h := SR.out; have hb := BD.out; first | (rw [show f = mid by omega] at h; exact h.2) | (rw [show f = b by omega] at h; exact h.1)⟩
                  have PR : Aside0 (PermIn mid b d d) := ⟨permIn_refl _ _ _⟩
                  try clear v2
                  clear v1
                  go_wp2_with fail
                  have J := sym_join BD.out.2.2.2.2.2.2.1 BD.out.2.2.2.2.2.2.2.1 HAM.out.2.2 rfl PD.out PL.out PR.out SL.out SR2.out SS.out.2.2.2.2
                  have JJ := Aside0.mk J
                  clear J
                  go_wp2
                  go_end0
                  exact ⟨rfl, d, JJ.out.1, JJ.out.2, HR.out⟩
            · have g1 : decide ((a : Int) < (s : Int)) = false := decide_eq_false (by omega)
              have g1' : decide (a < s) = false := decide_eq_false v1
              have SL : Aside0 (SortedIn ltF a mid d) := ⟨by have h := SS.out; have hb := BD.out; first | (rw [show s = mid by omega] at h; exact h.1) | (rw [show s = a by omega] at h; exact h.2.1)⟩
              have PL : Aside0 (PermIn a mid d d) := ⟨permIn_refl _ _ _⟩
              have SR : Aside0 (SortedIn ltF mid f d ∧ SortedIn ltF f b d) := ⟨sorted_perm_out PL.out (.inr (Nat.le_refl _)) SS.out.2.2.1, sorted_perm_out PL.out (.inr BD.out.2.2.2.1) SS.out.2.2.2.1⟩
              have k1 := g1
              have k1' := g1'
              clear g1 g1'
              try have k2 := g2
              try have k2' := g2'
              try clear g2 g2'
              try clear v2
              try clear v1
              by_cases v1 : mid < f
              · have g1 : decide ((mid : Int) < (f : Int)) = true := decide_eq_true (by omega)
                have g1' : decide (mid < f) = true := decide_eq_true v1
                by_cases v2 : f < b
                · have g2 : decide ((f : Int) < (b : Int)) = true := decide_eq_true (by omega)
                  have g2' : decide (f < b) = true := decide_eq_true v2
                  have CR2 := Aside0.mk (HIH.out mid f b (by have := BD.out; omega) v1 v2 (Nat.le_refl _) (by have := BD.out; omega) d wr rfl HR.out SR.out.1 SR.out.2)
                  clear v1 v2
                  go_wp2_with fail
                  refine CR2.out.mono ?_
                  rintro e wz ⟨rfl, cz, hp, hs, hw⟩
                  have PR := Aside0.mk hp
                  have SR2 := Aside0.mk hs
                  have HWR := Aside0.mk hw
                  clear hp hs hw CR2
                  have J := sym_join BD.out.2.2.2.2.2.2.1 BD.out.2.2.2.2.2.2.2.1 HAM.out.2.2 rfl PD.out PL.out PR.out SL.out SR2.out SS.out.2.2.2.2
                  have JJ := Aside0.mk J
                  clear J
                  go_wp2
                  go_end0
                  exact ⟨rfl, cz, JJ.out.1, JJ.out.2, HWR.out⟩
                · have g2 : decide ((f : Int) < (b : Int)) = false := decide_eq_false (by omega)
                  have g2' : decide (f < b) = false := decide_eq_false v2
                  have SR2 : Aside0 (SortedIn ltF mid b d) := ⟨by have h := SR.out; have hb := BD.out; first | (rw [show f = mid by omega] at h; exact h.2) | (rw [show f = b by omega] at h; exact h.1)⟩
                  have PR : Aside0 (PermIn mid b d d) := ⟨permIn_refl _ _ _⟩
                  try clear v2
                  clear v1
                  go_wp2_with fail
                  have J := sym_join BD.out.2.2.2.2.2.2.1 BD.out.2.2.2.2.2.2.2.1 HAM.out.2.2 rfl PD.out PL.out PR.out SL.out SR2.out SS.out.2.2.2.2
                  have JJ := Aside0.mk J
                  clear J
                  go_wp2
                  go_end0
                  exact ⟨rfl, d, JJ.out.1, JJ.out.2, HR.out⟩
              · have g1 : decide ((mid : Int) < (f : Int)) = false := decide_eq_false (by omega)
                have g1' : decide (mid < f) = false := decide_eq_false v1
                have SR2 : Aside0 (SortedIn ltF mid b d) := ⟨by have h := SR.out; have hb := BD.out; first | (rw [show f = mid by omega] at h; exact h.2) | (rw [show f = b by omega] at h; exact h.1)⟩
                have PR : Aside0 (PermIn mid b d d) := ⟨permIn_refl _ _ _⟩
                try clear v2
                clear v1
                go_wp2_with fail
                have J := sym_join BD.out.2.2.2.2.2.2.1 BD.out.2.2.2.2.2.2.2.1 HAM.out.2.2 rfl PD.out PL.out PR.out SL.out SR2.out SS.out.2.2.2.2
                have JJ := Aside0.mk J
                clear J
                go_wp2
                go_end0
                exact ⟨rfl, d, JJ.out.1, JJ.out.2, HR.out⟩
end Go.Proofs.Ytkkfckfmjhfakaa.Mt
