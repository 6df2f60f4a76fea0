/- Addresses and their texts: laws by hand. -/
import Derived.Test.YtiffbjpmmbfkjaaDoorWd
namespace Go.Proofs.YtiffbjpmmbfkjaaDoor.Wd
open Go Go.RowKit Go.Proofs.YtiffbjpmmbfkjaaDoor.Mth Go.Proofs.YtiffbjpmmbfkjaaDoorW.PrintWords Go.Proofs.YtiffbjpmmbfkjaaDoorW.PrintLast Go.Proofs.YtiffbjpmmbfkjaaDoorW.PrintMore Go.Proofs.YtiffbjpmmbfkjaaDoor.P Go.Proofs Go.Proofs.YtiffbjpmmbfkjaaDoor.Ad
set_option linter.unusedVariables false
set_option linter.unusedSimpArgs false
/-! Kind, Port, By -/
theorem rk_step (k : Nat) (a : ByteArray) (x : Bool) (i : Nat) {b : Nat} (h6 : a.size = 6) (hi : i < 6) (hb : (B a).getD i 0 = b) :
    aqueductref05_Kind.l0 (k + 1) a x (i : Int) = aqueductref05_Kind.l0 k a (x && decide (b = 255)) ((i + 1 : Nat) : Int) := by
  obtain ⟨e, hlt⟩ := bt_nat a hb
  have eb : ((b : Int) == 255) = decide (b = 255) := by
    by_cases q : b = 255
    · rw [decide_eq_true q, q]; rfl
    · rw [decide_eq_false q]; exact beq_eq_false_iff_ne.2 (by omega)
  rw [aqueductref05_Kind.l0, if_pos (by omega)]
  cases x with
  | true => rw [if_pos rfl, if_pos (by omega), if_pos (by omega), e, eb, w64 ((i : Int) + 1) ((i + 1 : Nat) : Int) (by omega) (by omega) (by omega), Bool.true_and]
  | false => rw [if_neg (by decide), w64 ((i : Int) + 1) ((i + 1 : Nat) : Int) (by omega) (by omega) (by omega), Bool.false_and]
theorem rkindE (a : ByteArray) : ∀ k, 7 ≤ k → aqueductref05_Kind.f k a = some (kindS (B a)) := by
  refine rounds (aqueductref05_Kind.mono a) (K := 7) ?_
  unfold aqueductref05_Kind.f kindS
  rw [B_length]
  by_cases h : a.size = 6
  · rw [if_pos (by omega), if_pos h]
    obtain ⟨b0, b1, b2, b3, b4, b5, e⟩ := six (l := B a) (by rw [B_length, h])
    obtain ⟨e0, k0⟩ := bt_nat a (i := 0) (b := b0) (by rw [e]; rfl)
    rw [show ((0 : Nat) : Int) = 0 from rfl] at e0
    rw [show (0 : Int) = ((0 : Nat) : Int) from rfl, rk_step 6 a true 0 h (by decide) (b := b0) (by rw [e]; rfl), rk_step 5 a _ 1 h (by decide) (b := b1) (by rw [e]; rfl), rk_step 4 a _ 2 h (by decide) (b := b2) (by rw [e]; rfl),
      rk_step 3 a _ 3 h (by decide) (b := b3) (by rw [e]; rfl), rk_step 2 a _ 4 h (by decide) (b := b4) (by rw [e]; rfl), rk_step 1 a _ 5 h (by decide) (b := b5) (by rw [e]; rfl)]
    rw [aqueductref05_Kind.l0, if_neg (by decide), e]
    have q : ([b0, b1, b2, b3, b4, b5] = [255, 255, 255, 255, 255, 255]) ↔ (((((((true && decide (b0 = 255)) && decide (b1 = 255)) && decide (b2 = 255)) && decide (b3 = 255)) && decide (b4 = 255)) && decide (b5 = 255)) = true) := by
      simp [and_assoc]
    by_cases h2 : [b0, b1, b2, b3, b4, b5] = [255, 255, 255, 255, 255, 255]
    · rw [if_pos (q.1 h2), if_pos h2]
    · rw [if_neg (fun z => h2 (q.2 z)), if_neg h2, if_pos (by omega), e0, w64 (b0 : Int) b0 rfl (by omega) (by omega)]
      have m : Int.tmod (b0 : Int) 2 = ((b0 % 2 : Nat) : Int) := rfl
      rw [m, show [b0, b1, b2, b3, b4, b5].getD 0 0 = b0 from rfl]
      by_cases h3 : b0 % 2 = 1
      · rw [if_pos (by omega), if_pos h3]
      · rw [if_neg (by omega), if_neg h3]
  · rw [if_neg (by omega), if_neg h]
def portS (n : Int) : List Nat := if 0 ≤ n ∧ n < 16 then [2, 97, 113, 0, 0, n.toNat] else []
theorem portS_bt (n : Int) : Bt (portS n) := by
  unfold portS
  split
  · intro x hx'
    simp only [List.mem_cons, List.not_mem_nil, or_false] at hx'
    omega
  · exact Bt.nil
theorem portE (n : Int) : addr_Port.f n = some (mk (portS n)) := by
  unfold addr_Port.f portS
  by_cases h1 : n < 0
  · rw [if_pos h1, if_neg (by omega)]; rfl
  · by_cases h2 : n ≥ 16
    · rw [if_neg h1, if_pos h2, if_neg (by omega)]; rfl
    · rw [if_neg h1, if_neg h2, if_pos (by omega)]
      obtain ⟨m, rfl⟩ := Int.eq_ofNat_of_zero_le (show 0 ≤ n by omega)
      have q : ∀ m : Fin 16, ((some (([((m.1 : Nat) : Int) % 256] : List Int) : List Int)).bind fun y119 => (if 5 + (strOfNums y119).size ≤ 9223372036854775807 then (some ((⟨#[2, 97, 113, 0, 0]⟩ : ByteArray) ++ (strOfNums y119))) else (none))) = some (mk [2, 97, 113, 0, 0, ((m.1 : Nat) : Int).toNat]) := by decide +kernel
      exact q ⟨m, by omega⟩
theorem rportE (n : Int) : aqueductref05_Port.f n = some (mk (portS n)) := by
  unfold aqueductref05_Port.f portS
  by_cases h1 : n < 0
  · rw [if_pos h1, if_neg (by omega)]; rfl
  · by_cases h2 : n > 15
    · rw [if_neg h1, if_pos h2, if_neg (by omega)]; rfl
    · rw [if_neg h1, if_neg h2, if_pos (by omega)]
      obtain ⟨m, rfl⟩ := Int.eq_ofNat_of_zero_le (show 0 ≤ n by omega)
      have q : ∀ m : Fin 16, (some (strOfNums (([2, 97, 113, 0, 0, ((m.1 : Nat) : Int) % 256] : List Int)))) = some (mk [2, 97, 113, 0, 0, ((m.1 : Nat) : Int).toNat]) := by decide +kernel
      exact q ⟨m, by omega⟩
def byS (b : List Nat) : Int := if b.length = 6 ∧ b.take 5 = [2, 97, 113, 0, 0] ∧ b.getD 5 0 < 16 then (b.getD 5 0 : Int) else -1
theorem prefixE (a : ByteArray) (h : a.size = 6) : strings_HasPrefix.f a ⟨#[2, 97, 113, 0, 0]⟩ = some (decide ((B a).take 5 = [2, 97, 113, 0, 0])) := by
  unfold strings_HasPrefix.f stringslite_HasPrefix.f
  have z : (⟨#[2, 97, 113, 0, 0]⟩ : ByteArray).size = 5 := rfl
  rw [if_pos (by rw [z]; omega), if_pos (by omega), if_pos (by rw [z]; omega), Option.bind_some, beqL, B_extract]
  rfl
theorem byE (a : ByteArray) : addr_By.f a = some (byS (B a)) := by
  unfold addr_By.f byS
  rw [B_length]
  by_cases h : a.size = 6
  · rw [if_pos (by omega), prefixE a h, Option.bind_some]
    by_cases h2 : (B a).take 5 = [2, 97, 113, 0, 0]
    · rw [if_pos (decide_eq_true h2), if_pos (by omega)]
      obtain ⟨e, hlt⟩ := bt_nat a (i := 5) rfl
      rw [show (5 : Int) = ((5 : Nat) : Int) from rfl, e, w64 (((B a).getD 5 0 : Nat) : Int) ((B a).getD 5 0 : Nat) rfl (by omega) (by omega)]
      by_cases h3 : (B a).getD 5 0 < 16
      · rw [if_neg (by omega), if_pos ⟨h, h2, h3⟩]
      · rw [if_pos (by omega), if_neg (fun q => h3 q.2.2)]
    · rw [if_neg (by simpa using h2), if_neg (fun q => h2 q.2.1)]
  · rw [if_neg (by omega), if_neg (fun q => h q.1)]
theorem byS_port {n : Nat} (h : n < 16) (b : List Nat) : portS (n : Int) = b ↔ byS b = (n : Int) := by
  constructor
  · intro e
    rw [← e]
    have q : ∀ m : Fin 16, byS (portS ((m.1 : Nat) : Int)) = ((m.1 : Nat) : Int) := by decide +kernel
    exact q ⟨n, h⟩
  · intro e
    unfold byS at e
    by_cases q : b.length = 6 ∧ b.take 5 = [2, 97, 113, 0, 0] ∧ b.getD 5 0 < 16
    · rw [if_pos q] at e
      obtain ⟨b0, b1, b2, b3, b4, b5, rfl⟩ := six q.1
      have q2 := q.2.1
      simp only [List.take_succ_cons, List.take_zero, List.cons.injEq, and_true] at q2
      obtain ⟨rfl, rfl, rfl, rfl, rfl⟩ := q2
      have e' : (b5 : Int) = (n : Int) := e
      unfold portS
      rw [if_pos (by omega), Int.toNat_natCast, Int.ofNat.inj e']
    · rw [if_neg q] at e; omega
theorem byS_none (b : List Nat) (h : ∀ n : Nat, n < 16 → byS b ≠ (n : Int)) : byS b = -1 := by
  unfold byS at h ⊢
  by_cases q : b.length = 6 ∧ b.take 5 = [2, 97, 113, 0, 0] ∧ b.getD 5 0 < 16
  · have := h _ q.2.2
    rw [if_pos q] at this
    exact absurd rfl this
  · rw [if_neg q]
theorem rby_from (a : ByteArray) : ∀ (m n k : Nat), n + m = 16 → (∀ j : Nat, j < n → byS (B a) ≠ (j : Int)) → m + 1 ≤ k → aqueductref05_By.l0 k a (n : Int) = some (byS (B a))
  | 0, n, k, hn, hj, hk => by
    obtain ⟨k, rfl⟩ : ∃ q, k = q + 1 := ⟨k - 1, by omega⟩
    rw [aqueductref05_By.l0, if_neg (by omega), byS_none _ fun j h => hj j (by omega)]
  | m + 1, n, k, hn, hj, hk => by
    obtain ⟨k, rfl⟩ : ∃ q, k = q + 1 := ⟨k - 1, by omega⟩
    rw [aqueductref05_By.l0, if_pos (by omega), rportE, Option.bind_some]
    by_cases he : byS (B a) = (n : Int)
    · rw [if_pos ((eqL _ _).2 (by rw [B_mk (portS_bt _)]; exact (byS_port (by omega) _).2 he)), he]
    · rw [if_neg (fun q => he ((byS_port (by omega) _).1 (by have := (eqL _ _).1 q; rwa [B_mk (portS_bt _)] at this))), w64 ((n : Int) + 1) ((n + 1 : Nat) : Int) (by omega) (by omega) (by omega)]
      exact rby_from a m (n + 1) k (by omega) (fun j h => by
        by_cases e : j = n
        · rw [e]; exact he
        · exact hj j (by omega)) (by omega)
theorem rbyE (a : ByteArray) (k : Nat) (hk : 17 ≤ k) : aqueductref05_By.f k a = some (byS (B a)) := rby_from a 16 0 k rfl (fun j h => absurd h (by omega)) (by omega)
end Go.Proofs.YtiffbjpmmbfkjaaDoor.Wd
