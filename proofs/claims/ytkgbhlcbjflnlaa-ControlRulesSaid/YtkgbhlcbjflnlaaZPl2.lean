/- Commands and settings: contracts by hand, and the laws over them. -/
import Derived.Test.YtkgbhlcbjflnlaaZOwn
import Derived.Test.YtkgbhlcbjflnlaaZPl
import Derived.Test.YtkgbhlcbjflnlaaZLow2
import Derived.Test.YtkgbhlcbjflnlaaZFSl
namespace Go.Proofs.Ytkgbhlcbjflnlaa.Fl
open Go Go.RowKit Go.Proofs.YtkgbhlcbjflnlaaW.PrintWords Go.Proofs.YtkgbhlcbjflnlaaW.PrintLast Go.Proofs.YtkgbhlcbjflnlaaW.PrintMore Go.Proofs.Ytkgbhlcbjflnlaa.Mth Go.Proofs.Ytkgbhlcbjflnlaa.P Go.Proofs.Ytkgbhlcbjflnlaa.Own Go.Proofs
set_option linter.unusedVariables false
set_option linter.unusedSimpArgs false
/-! ### What the greater commands make of settings -/
theorem takeS_exact (m : List Nat) (hm : Bt m) (b : Bool) (n : Nat) (hn : n = m.length) : takeS (mk m, b) n = (mk m, (mk [], b)) := by
  have q := takeS_app m [] hm Bt.nil b n hn
  rwa [List.append_nil] at q
/-! ### Rules -/
theorem tabL_app : ∀ (tab : List Nat) (m : List Nat), (∀ q ∈ tab, q < 65536) → Bt m → tabL tab.length (mk (lo2s tab ++ m), false) = (intsOf tab, (mk m, false))
  | [], m, h, hm => rfl
  | a :: r, m, h, hm => by
    rw [List.length_cons, tabL, if_neg Bool.false_ne_true, lo2s, List.append_assoc, numS_lo 2 a _ ((lo2s_bt r).append hm)]
    dsimp only
    rw [tabL_app r m (fun x hx => h x (by simp [hx])) hm, Nat.mod_eq_of_lt (show a < 256 ^ 2 from h a (by simp))]
    rfl
theorem rulesS_app (kn : Nat) (tab : List Nat) (df : Nat) (m : List Nat) (hkn : kn < 4294967296) (hdf : df < 65536) (htb : ∀ q ∈ tab, q < 65536) (h1 : 1 ≤ tab.length) (h2 : tab.length ≤ 128) (hm : Bt m) :
    rulesS (mk (lo 4 kn ++ (lo 2 (tab.length + 65535) ++ (lo 2 df ++ (lo2s tab ++ m)))), false) = ⟨(kn : Int), intsOf tab, (df : Int), (mk m, false)⟩ := by
  have e1 : kn % 256 ^ 4 = kn := Nat.mod_eq_of_lt hkn
  have e2 : (tab.length + 65535) % 256 ^ 2 = tab.length - 1 := by rw [show (256 : Nat) ^ 2 = 65536 by decide]; omega
  have e3 : df % 256 ^ 2 = df := Nat.mod_eq_of_lt hdf
  unfold rulesS
  rw [numS_lo 4 kn _ ((lo_bt _ _).append ((lo_bt _ _).append ((lo2s_bt _).append hm)))]
  dsimp only
  rw [numS_lo 2 _ _ ((lo_bt _ _).append ((lo2s_bt _).append hm))]
  dsimp only
  rw [numS_lo 2 _ _ ((lo2s_bt _).append hm), e1, e2, e3]
  unfold rulesT
  dsimp only
  rw [show (((tab.length - 1 : Nat) : Int) + 1).toNat = tab.length by omega, decide_eq_false (by omega), Bool.or_false, tabL_app tab m htb hm]
theorem rulesS_bad (kn : Nat) (tab : List Nat) (df : Nat) (m : List Nat) (h : tab.length = 0 ∨ (128 < tab.length ∧ tab.length ≤ 1000)) (hm : Bt m) :
    (rulesS (mk (lo 4 kn ++ (lo 2 (tab.length + 65535) ++ (lo 2 df ++ m))), false)).r.2 = true := by
  unfold rulesS
  rw [numS_lo 4 kn _ ((lo_bt _ _).append ((lo_bt _ _).append hm))]
  dsimp only
  rw [numS_lo 2 _ _ ((lo_bt _ _).append hm)]
  dsimp only
  rw [numS_lo 2 _ _ hm]
  unfold rulesT
  dsimp only
  obtain ⟨n, hn⟩ : ∃ n, (tab.length + 65535) % 256 ^ 2 = n := ⟨_, rfl⟩
  have e2 : 128 ≤ n := by rw [← hn, show (256 : Nat) ^ 2 = 65536 by decide]; omega
  rw [hn, decide_eq_true (by omega), Bool.or_true]
  exact bad_tabL _ _ rfl
theorem pairS_one (C : Cfg) (r : RS) (u : Ru) (p n : Int × RS) (t : ByteArray × RS) (hu : rulesS r = u) (hp : numS u.r 2 = p) (hn : numS p.2 1 = n) (ht : takeS n.2 n.1.toNat = t) :
    pairS C 1 r = ({ C with kn := u.kn, tab := u.tab, df := u.df, key := t.1, on := true, p := p.1 }, rssS u.kn u.tab t.1 u.df == 0 && belowS u.df C.mx u.tab, t.2) := by
  subst hu hp hn ht
  unfold pairS
  rw [if_neg (by decide), if_pos rfl]
def setR (C : Cfg) (kn : Nat) (tab : List Nat) (key : ByteArray) (df p : Nat) : Cfg := { C with kn := kn, tab := intsOf tab, key := key, df := df, p := p, on := true }
theorem does_rules (C : Cfg) (kn : Nat) (tab : List Nat) (key : ByteArray) (df p : Nat) (hkn : kn < 4294967296) (hdf : df < 65536) (hp : p < 65536) (htb : ∀ q ∈ tab, q < 65536) (hk : key.size < 256) (h1 : 1 ≤ tab.length) (h2 : tab.length ≤ 128) :
    doesS C (ruleB kn tab key df p, false) = (setR C kn tab key df p, rssS kn (intsOf tab) key df == 0 && belowS df C.mx (intsOf tab) && decide ((p : Int) ≥ 1) && decide ((p : Int) ≤ C.mx)) := by
  unfold ruleB
  rw [doesS_com _ _ _ _ ((lo_bt _ _).append ((lo_bt _ _).append ((lo_bt _ _).append ((lo2s_bt _).append (ruleT_bt _ _))))), show ((4 % 256 : Nat) : Int) = 4 from rfl, show ((1 % 256 : Nat) : Int) = 1 from rfl, onS_four]
  unfold swS
  rw [if_neg (by decide), if_neg (by decide), if_neg (by decide), if_pos rfl]
  have e1 : p % 256 ^ 2 = p := Nat.mod_eq_of_lt hp
  have e2 : key.size % 256 ^ 1 = key.size := Nat.mod_eq_of_lt hk
  have q1 := numS_lo 2 p (lo 1 key.size ++ B key) ((lo_bt _ _).append (B_bt _)) false
  rw [e1] at q1
  have q2 := numS_lo 1 key.size (B key) (B_bt _) false
  rw [e2] at q2
  have q3 : takeS (mk (B key), false) ((key.size : Nat) : Int).toNat = (key, (mk [], false)) := by
    rw [Int.toNat_natCast, takeS_exact (B key) (B_bt _) false key.size (B_length _).symm, mk_B]
  rw [pairS_one _ _ _ _ _ _ (rulesS_app kn tab df _ hkn hdf htb h1 h2 (ruleT_bt p key)) q1 q2 q3]
  dsimp only
  rw [doneS_ok]
  rfl
theorem does_rules_no (C : Cfg) (kn : Nat) (tab : List Nat) (key : ByteArray) (df p : Nat) (h : tab.length = 0 ∨ (128 < tab.length ∧ tab.length ≤ 1000)) : (doesS C (ruleB kn tab key df p, false)).2 = false := by
  unfold ruleB
  rw [doesS_com _ _ _ _ ((lo_bt _ _).append ((lo_bt _ _).append ((lo_bt _ _).append ((lo2s_bt _).append (ruleT_bt _ _))))), show ((4 % 256 : Nat) : Int) = 4 from rfl, show ((1 % 256 : Nat) : Int) = 1 from rfl]
  refine done_bad _ ?_
  unfold swS
  rw [if_neg (by decide), if_neg (by decide), if_neg (by decide), if_pos rfl]
  dsimp only
  unfold pairS
  rw [if_neg (by decide), if_pos rfl]
  dsimp only
  exact bad_take _ _ (bad_num _ 1 (bad_num _ 2 (rulesS_bad kn tab df _ h ((lo2s_bt _).append (ruleT_bt _ _)))))
end Go.Proofs.Ytkgbhlcbjflnlaa.Fl
