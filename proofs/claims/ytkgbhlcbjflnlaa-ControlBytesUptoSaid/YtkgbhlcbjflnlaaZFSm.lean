/- Commands and settings: contracts by hand, and the laws over them. -/
import Derived.Test.YtkgbhlcbjflnlaaZOwn
import Derived.Test.YtkgbhlcbjflnlaaZFSl
import Derived.Test.YtkgbhlcbjflnlaaZPx17
namespace Go.Proofs.Ytkgbhlcbjflnlaa.Fl
open Go Go.RowKit Go.Proofs.YtkgbhlcbjflnlaaW.PrintWords Go.Proofs.YtkgbhlcbjflnlaaW.PrintLast Go.Proofs.YtkgbhlcbjflnlaaW.PrintMore Go.Proofs.Ytkgbhlcbjflnlaa.Mth Go.Proofs.Ytkgbhlcbjflnlaa.P Go.Proofs.Ytkgbhlcbjflnlaa.Own Go.Proofs
set_option linter.unusedVariables false
set_option linter.unusedSimpArgs false
theorem rtexts0 (l : List ByteArray) (hl : l.length ≤ 1099511627776) : ∀ d i k, i ≤ l.length → l.length - i = d → d < k → aqueductref16_texts.l0 k l l (i : Int) = some true := by
  intro d
  induction d with
  | zero =>
    intro i k hi hd hk
    obtain ⟨k, rfl⟩ : ∃ m, k = m + 1 := ⟨k - 1, by omega⟩
    simp only [aqueductref16_texts.l0]
    rw [if_neg (by omega)]
  | succ d ih =>
    intro i k hi hd hk
    obtain ⟨k, rfl⟩ : ∃ m, k = m + 1 := ⟨k - 1, by omega⟩
    simp only [aqueductref16_texts.l0]
    rw [if_pos (show (i : Int) < (l.length : Int) by omega), if_pos (by omega), if_pos (show (i : Int) < (l.length : Int) by omega), if_true, w1 (show i < l.length by omega) hl]
    exact ih (i + 1) k (by omega) (by omega) (by omega)
theorem rtexts (l : List ByteArray) (hl : l.length ≤ 1099511627776) (k : Nat) (hk : l.length < k) : aqueductref16_texts.f k l l = some true := by
  unfold aqueductref16_texts.f
  rw [if_pos rfl]
  exact rtexts0 l hl l.length 0 k (by omega) (by omega) hk
theorem rsame0 (m : ByteArray) (b1 b2 b3 b4 b5 b6 : Bool) (us ms : List ByteArray) (b9 : Bool) (l : List Int) (hl : l.length ≤ 1099511627776) : ∀ d i k, i ≤ l.length → l.length - i = d → d < k →
    aqueductref16_Same.l0 k (i : Int) m b1 b2 b3 b4 b5 b6 us ms b9 l m b1 b2 b3 b4 b5 b6 us ms b9 l = some true := by
  intro d
  induction d with
  | zero =>
    intro i k hi hd hk
    obtain ⟨k, rfl⟩ : ∃ m, k = m + 1 := ⟨k - 1, by omega⟩
    rw [aqueductref16_Same.l0, if_neg (by omega), if_pos rfl]
    simp
  | succ d ih =>
    intro i k hi hd hk
    obtain ⟨k, rfl⟩ : ∃ m, k = m + 1 := ⟨k - 1, by omega⟩
    rw [aqueductref16_Same.l0, if_pos (show (i : Int) < (l.length : Int) by omega), if_pos (by omega), if_pos (show (i : Int) < (l.length : Int) by omega), if_pos rfl, w1 (show i < l.length by omega) hl]
    exact ih (i + 1) k (by omega) (by omega) (by omega)
theorem rsameE (m : ByteArray) (b1 b2 b3 b4 b5 b6 : Bool) (us ms : List ByteArray) (b9 : Bool) (vs : List Int) (h7 : us.length ≤ 1099511627776) (h8 : ms.length ≤ 1099511627776) (h10 : vs.length ≤ 1099511627776) (k : Nat) (hk : us.length + ms.length + vs.length + 9 < k) :
    aqueductref16_Same.f k m b1 b2 b3 b4 b5 b6 us ms b9 vs m b1 b2 b3 b4 b5 b6 us ms b9 vs = some true := by
  unfold aqueductref16_Same.f
  rw [if_pos rfl, rtexts _ h7 _ (by omega), rtexts _ h8 _ (by omega)]
  simp only [Option.bind_some, if_true]
  obtain ⟨k, rfl⟩ : ∃ m, k = m + 1 := ⟨k - 1, by omega⟩
  rw [aqueductref16_Same.j0, if_neg (by decide)]
  exact rsame0 m b1 b2 b3 b4 b5 b6 us ms b9 vs h10 vs.length 0 k (by omega) (by omega) (by omega)
/-- The document's Same, at two filters of the same data. -/
theorem same_f (F : Flt) (S S2 : Sl) (w : World) (h : FV w F S) (h2 : FV w F S2) (hs : Small F) :
    Calls Try.prog 16 #[.agg (cellsF F S), .agg (cellsF F S2)] w fun e w' => e = .returned (.bool true) ∧ Below w.heap.size w w' := by
  have := hs.1; have := hs.2.1; have := hs.2.2
  exact aqueductref16_Same.calls (F.us.length + F.ms.length + F.vs.length + 10) F.m F.b1 F.b2 F.b3 F.b4 F.b5 F.b6 S.A7 S.c7 F.us S.A8 S.c8 F.ms F.b9 S.A10 S.c10 F.vs F.m F.b1 F.b2 F.b3 F.b4 F.b5 F.b6 S2.A7 S2.c7 F.us S2.A8 S2.c8 F.ms F.b9 S2.A10 S2.c10 F.vs true w
    (Kd.C_of_reads h.r7) h.l7 (Kd.C_of_reads h.r8) h.l8 (Kd.C_of_reads h.r10) h.l10 (Kd.C_of_reads h2.r7) h2.l7 (Kd.C_of_reads h2.r8) h2.l8 (Kd.C_of_reads h2.r10) h2.l10 (rsameE _ _ _ _ _ _ _ _ _ _ _ (by omega) (by omega) (by omega) _ (by omega))
end Go.Proofs.Ytkgbhlcbjflnlaa.Fl
