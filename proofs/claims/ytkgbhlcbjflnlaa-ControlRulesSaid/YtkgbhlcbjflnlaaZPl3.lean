/- Commands and settings: contracts by hand, and the laws over them. -/
import Derived.Test.YtkgbhlcbjflnlaaZOwn
import Derived.Test.YtkgbhlcbjflnlaaZPl2
import Derived.Test.YtkgbhlcbjflnlaaZOwc
namespace Go.Proofs.Ytkgbhlcbjflnlaa.Fl
open Go Go.RowKit Go.Proofs.YtkgbhlcbjflnlaaW.PrintWords Go.Proofs.YtkgbhlcbjflnlaaW.PrintLast Go.Proofs.YtkgbhlcbjflnlaaW.PrintMore Go.Proofs.Ytkgbhlcbjflnlaa.Mth Go.Proofs.Ytkgbhlcbjflnlaa.P Go.Proofs.Ytkgbhlcbjflnlaa.Own Go.Proofs
set_option linter.unusedVariables false
set_option linter.unusedSimpArgs false
/-! ### ControlRules, plainly -/
theorem below_alt (df mx : Int) (tab : List Int) : belowS df mx tab = (decide (df < mx) && tab.all fun q => decide (q < mx)) := by
  unfold belowS
  congr 1
  induction tab with
  | nil => rfl
  | cons a r ih =>
    rw [List.any_cons, List.all_cons, Bool.not_or, ih]
    congr 1
    by_cases h : a < mx
    · rw [decide_eq_true h, decide_eq_false (by omega)]; rfl
    · rw [decide_eq_false h, decide_eq_true (by omega)]; rfl
theorem rss_len {kn : Int} {tab : List Int} {key : ByteArray} {df : Int} (h : rssS kn tab key df = 0) : 1 ≤ tab.length ∧ tab.length ≤ 128 := by
  unfold rssS at h
  split at h
  · rename_i q
    unfold headS at q
    simp only [Bool.and_eq_true, Bool.or_eq_true, beq_iff_eq] at q
    omega
  · cases h
/-- Do the numbers fit? -/
def fitS (C : Cfg) (tab : List Int) (df p : Int) : Bool := decide (p ≥ 1) && decide (p ≤ C.mx) && decide (df < C.mx) && tab.all fun q => decide (q < C.mx)
theorem rules_yes (C : Cfg) (kn : Nat) (tab : List Nat) (key : ByteArray) (df p : Nat) (hkn : kn < 4294967296) (hdf : df < 65536) (hp : p < 65536) (htb : ∀ q ∈ tab, q < 65536) (hk : key.size < 256)
    (hf : fitS C (intsOf tab) df p = true) (hr : rssS kn (intsOf tab) key df = 0) (hc : chkF C.F = 0) : appS C (ruleB kn tab key df p) = (setR C kn tab key df p, 0) := by
  obtain ⟨h1, h2⟩ := rss_len hr
  rw [intsOf_len] at h1 h2
  refine appS_ok _ _ _ ?_ hc
  rw [does_rules C kn tab key df p hkn hdf hp htb hk h1 h2, hr, below_alt]
  unfold fitS at hf
  simp only [Bool.and_eq_true] at hf
  rw [hf.1.1.1, hf.1.1.2, hf.1.2, hf.2]
  rfl
theorem rules_not (C : Cfg) (kn : Nat) (tab : List Nat) (key : ByteArray) (df p : Nat) (hkn : kn < 4294967296) (hdf : df < 65536) (hp : p < 65536) (htb : ∀ q ∈ tab, q < 65536) (hk : key.size < 256) (hl : tab.length ≤ 1000)
    (h : fitS C (intsOf tab) df p = false ∨ rssS kn (intsOf tab) key df ≠ 0 ∨ chkF C.F ≠ 0) : appS C (ruleB kn tab key df p) = (C, 1) := by
  by_cases hh : 1 ≤ tab.length ∧ tab.length ≤ 128
  · unfold appS
    rw [does_rules C kn tab key df p hkn hdf hp htb hk hh.1 hh.2, below_alt]
    dsimp only
    rw [if_neg]
    rintro ⟨q1, q2⟩
    simp only [Bool.and_eq_true, beq_iff_eq] at q1
    obtain ⟨⟨⟨e1, e2, e3⟩, e4⟩, e5⟩ := q1
    rcases h with h | h | h
    · unfold fitS at h
      rw [e2, e3, e4, e5] at h
      cases h
    · exact h e1
    · exact h q2
  · exact appS_no _ _ (does_rules_no C kn tab key df p (by omega))
end Go.Proofs.Ytkgbhlcbjflnlaa.Fl
