/- A memory: its functions' contracts, by hand, and the laws over them. -/
import Derived.Test.YtllpfadjdecjiaaMemL
import Derived.Laws.Pointers
import Derived.WalkLawsBesides
import Derived.Deep.QuietTactic
import Derived.BigQuiet
import Derived.Deep.RegionWith
import Derived.Deep.RegionLaw
import Derived.Lib.BufferWrite
namespace Go.Proofs.Ytllpfadjdecjiaa.Mem
open Go Go.RowKit Go.Proofs.YtllpfadjdecjiaaW.PrintWords Go.Proofs.YtllpfadjdecjiaaW.PrintLast Go.Proofs.YtllpfadjdecjiaaW.PrintMore Go.Proofs.Ytllpfadjdecjiaa.Own Go.Proofs.Ytllpfadjdecjiaa.P Go.Proofs.Ytllpfadjdecjiaa
set_option linter.unusedVariables false
set_option linter.unusedSimpArgs false
/-- A memory that a call made, some calls later: what was there ahead of it is as it was. -/
structure St (w0 w : World) (g : Nat) (vb vl : Value) (s : ByteArray) (who : Int) (log : List S49) : Prop where
  ln : Mm w g vb vl s who log
  bel : Below w0.heap.size w0 w
  hg : w0.heap.size ≤ g
  hb : ∀ b, vb.ownBlock = some b → w0.heap.size ≤ b
  hl : ∀ b, vl.ownBlock = some b → w0.heap.size ≤ b
  z : 64 ≤ s.size
  m : s.size ≤ 1048576
def Mem (w0 w : World) (g : Nat) (s : ByteArray) (who : Int) (log : List S49) : Prop := ∃ vb vl, St w0 w g vb vl s who log
theorem Mem.bel {w0 w : World} {g : Nat} {s : ByteArray} {who : Int} {log : List S49} (h : Mem w0 w g s who log) : Below w0.heap.size w0 w := h.elim fun _ h => h.elim fun _ s => s.bel
theorem fresh_le {w0 w : World} {v v' : Value} (f : Fresh w v v') (h : ∀ b, v.ownBlock = some b → w0.heap.size ≤ b) (hs : w0.heap.size ≤ w.heap.size) : ∀ b, v'.ownBlock = some b → w0.heap.size ≤ b := by
  intro b hb
  rcases f with f | f
  · exact h b (f ▸ hb)
  · exact Nat.le_trans hs (f b hb)
theorem St.step {w0 w w' : World} {g : Nat} {vb vl vl' : Value} {s s' : ByteArray} {who who' : Int} {log log' : List S49} (t : St w0 w g vb vl s who log) (h : Mm w' g vb vl' s' who' log') (e : s'.size = s.size) (u : Upd w w' (foot g vb vl)) (f : Fresh w vl vl') : Mem w0 w' g s' who' log' := by
  refine ⟨vb, vl', h, t.bel.trans (u.toBelow ?_ t.bel.size), t.hg, t.hb, fresh_le f t.hl t.bel.size, e ▸ t.z, e ▸ t.m⟩
  rintro k (rfl | hk | hk)
  · exact t.hg
  · exact t.hb k hk.symm
  · exact t.hl k hk.symm
theorem Mem.beside {w0 w w' : World} {g : Nat} {s : ByteArray} {who : Int} {log : List S49} (h : Mem w0 w g s who log) (b : Below w.heap.size w w') : Mem w0 w' g s who log := by
  obtain ⟨vb, vl, t⟩ := h
  exact t.step (t.ln.beside b) rfl (Upd.of_below b _) (.inl rfl)
theorem new {w0 w : World} (n : Nat) (hb : Below w0.heap.size w0 w) (h : 64 ≤ n) (h2 : n ≤ 1048576) :
    Calls Try.prog 9 #[.int .i64 (n : Int)] w fun e w' => ∃ g, e = .returned (.tuple #[ptr g, .int .i64 0]) ∧ Mem w0 w' g (zeros n) 0 [] := by
  refine (New_ok n w h h2).mono ?_
  rintro e w' ⟨g, vb, rfl, hm, b, hg, hv⟩
  exact ⟨g, rfl, vb, _, hm, below_step hb b, Nat.le_trans hb.size hg, fun k hk => Nat.le_trans hb.size (hv k hk), fun k hk => by simp [Value.ownBlock] at hk, by rw [zeros_size]; exact h, by rw [zeros_size]; exact h2⟩
section
variable {w0 w : World} {g : Nat} {s : ByteArray} {who : Int} {log : List S49}
theorem read (a n : Nat) (han : a + n ≤ s.size) (hl : log.length ≤ 4000) (h : Mem w0 w g s who log) :
    Calls Try.prog 11 #[ptr g, .int .i64 (a : Int), .int .i64 (n : Int)] w fun e w' => e = .returned (.tuple #[.string (s.extract a (a + n)), .int .i64 0]) ∧ Mem w0 w' g s who (noted log who a n false) := by
  obtain ⟨vb, vl, t⟩ := h
  refine (Read_ok g vb vl s who log a n w t.z t.m han (by omega) t.ln).mono ?_
  rintro e w' ⟨rfl, vl', h1, u, f⟩
  exact ⟨rfl, t.step h1 rfl u f⟩
theorem read_no (a n : Int) (h0 : 0 ≤ n) (hn : ¬ (0 ≤ a ∧ a + n ≤ (s.size : Int))) (h : Mem w0 w g s who log) :
    Calls Try.prog 11 #[ptr g, .int .i64 a, .int .i64 n] w fun e w' => e = .returned (.tuple #[.string ⟨#[]⟩, .int .i64 41]) ∧ w' = w := by
  obtain ⟨vb, vl, t⟩ := h
  exact Read_no g vb vl s who log a n w t.m h0 hn t.ln
theorem write (t : ByteArray) (a : Nat) (han : a + t.size ≤ s.size) (hl : log.length ≤ 4000) (h : Mem w0 w g s who log) :
    Calls Try.prog 10 #[ptr g, .int .i64 (a : Int), .string t] w fun e w' => e = .returned (.int .i64 0) ∧ Mem w0 w' g (over s t a) who (noted log who a t.size true) := by
  obtain ⟨vb, vl, q⟩ := h
  refine (Write_ok g vb vl s t who log a w q.z q.m han (by omega) q.ln).mono ?_
  rintro e w' ⟨rfl, vl', h1, u, f⟩
  exact ⟨rfl, q.step h1 (over_size s t a han) u f⟩
theorem write_no (t : ByteArray) (a : Int) (hn : ¬ (0 ≤ a ∧ a + t.size ≤ (s.size : Int))) (h : Mem w0 w g s who log) :
    Calls Try.prog 10 #[ptr g, .int .i64 a, .string t] w fun e w' => e = .returned (.int .i64 41) ∧ w' = w := by
  obtain ⟨vb, vl, q⟩ := h
  exact Write_no g vb vl s t who log a w q.m hn q.ln
theorem size_ (h : Mem w0 w g s who log) : Calls Try.prog 15 #[ptr g] w fun e w' => e = .returned (.int .i64 (s.size : Int)) ∧ w' = w := by
  obtain ⟨vb, vl, q⟩ := h
  exact Size g vb vl s who log w q.ln
theorem image (h : Mem w0 w g s who log) : Calls Try.prog 16 #[ptr g] w fun e w' => e = .returned (.string s) ∧ w' = w := by
  obtain ⟨vb, vl, q⟩ := h
  exact Image g vb vl s who log w q.ln
theorem may_yes (a n : Int) (h0 : 0 ≤ a) (h1 : 0 ≤ n) (h2 : a + n ≤ (s.size : Int)) (h : Mem w0 w g s who log) : Calls Try.prog 22 #[ptr g, .int .i64 a, .int .i64 n] w fun e w' => e = .returned (.bool true) ∧ w' = w := by
  obtain ⟨vb, vl, q⟩ := h
  exact May_yes g vb vl s who log a n w q.m h0 h1 h2 q.ln
theorem may_no (a n : Int) (hn : ¬ (0 ≤ a ∧ 0 ≤ n ∧ a + n ≤ (s.size : Int))) (h : Mem w0 w g s who log) : Calls Try.prog 22 #[ptr g, .int .i64 a, .int .i64 n] w fun e w' => e = .returned (.bool false) ∧ w' = w := by
  obtain ⟨vb, vl, q⟩ := h
  exact May_no g vb vl s who log a n w q.m hn q.ln
theorem as_ (who' : Int) (h : Mem w0 w g s who log) : Calls Try.prog 21 #[ptr g, .int .i64 who'] w fun e w' => e = .returned (.tuple #[]) ∧ Mem w0 w' g s who' log := by
  obtain ⟨vb, vl, q⟩ := h
  refine (As g vb vl s who log who' w q.ln).mono ?_
  rintro e w' ⟨rfl, h1, u⟩
  exact ⟨rfl, q.step h1 rfl u (.inl rfl)⟩
theorem log_ (hl : log.length ≤ 4096) (h : Mem w0 w g s who log) : Calls Try.prog 17 #[ptr g] w fun e w' => ∃ A c, e = .returned (.slice A log.length c) ∧ log.length ≤ c ∧ w'.ownsRow w.heap.size 49 4 (.slice A log.length c) log.length (rowA log) ∧ Mem w0 w' g s who [] := by
  obtain ⟨vb, vl, q⟩ := h
  refine (Log g vb vl s who log w hl q.ln).mono ?_
  rintro e w' ⟨v', rfl, ho, h1, u⟩
  obtain ⟨A, c, rfl, hc, -⟩ := reads ho
  exact ⟨A, c, rfl, hc, ho, q.step h1 rfl u (.inr fun b hb => by simp [Value.ownBlock] at hb)⟩
end
/-! The document's Same at one and the same accesses. -/
theorem same_l (l : List S49) (hl : l.length ≤ 1099511627776) : ∀ (d i k : Nat), i ≤ l.length → l.length - i = d → d < k → aqueductref04_Same.l0 k l l (i : Int) = some true := by
  intro d
  induction d with
  | zero =>
    intro i k hi hd hk
    obtain ⟨k, rfl⟩ : ∃ m, k = m + 1 := ⟨k - 1, by omega⟩
    simp only [aqueductref04_Same.l0]
    rw [if_neg (by omega)]
  | succ d ih =>
    intro i k hi hd hk
    obtain ⟨k, rfl⟩ : ∃ m, k = m + 1 := ⟨k - 1, by omega⟩
    simp only [aqueductref04_Same.l0]
    have e3 : wrap64 ((i : Int) + 1) = ((i + 1 : Nat) : Int) := by rw [Mth.wrap64_in (by omega) (by omega)]; omega
    rw [if_pos (show (i : Int) < (l.length : Int) by omega), if_pos (by omega), if_pos (show (i : Int) < (l.length : Int) by omega), if_neg (by simp), e3]
    exact ih (i + 1) k (by omega) (by omega) (by omega)
theorem same_f (l : List S49) (hl : l.length ≤ 1099511627776) : aqueductref04_Same.f (l.length + 1) l l = some true := by
  unfold aqueductref04_Same.f
  rw [if_pos rfl]
  exact same_l l hl l.length 0 _ (by omega) (by omega) (by omega)
theorem Same_ok (l : List S49) (n : Nat) (hn : l.length = n) (A A' : Option Addr) (c c' : Nat) (W : World) (hl : l.length ≤ 1099511627776) (h1 : Kd.C k49 W A n l) (k1 : n ≤ c) (h2 : Kd.C k49 W A' n l) (k2 : n ≤ c') :
    Calls Try.prog 18 #[.slice A n c, .slice A' n c'] W fun e w' => e = .returned (.bool true) ∧ ∃ n, w' = W.drewN n := by
  subst hn
  refine (aqueductref04_Same.calls (l.length + 1) A c l A' c' l true W h1 k1 h2 k2 (same_f l hl)).mono ?_
  rintro e w' ⟨rfl, h⟩
  exact ⟨rfl, h.out⟩
end Go.Proofs.Ytllpfadjdecjiaa.Mem
