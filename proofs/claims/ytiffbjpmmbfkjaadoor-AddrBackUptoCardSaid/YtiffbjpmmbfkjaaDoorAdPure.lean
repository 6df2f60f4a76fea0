/- Addresses and their texts: laws by hand. -/
import Derived.Test.YtiffbjpmmbfkjaaDoorMth
namespace Go.Proofs.YtiffbjpmmbfkjaaDoor.Ad
open Go Go.RowKit Go.Proofs.YtiffbjpmmbfkjaaDoor.Mth
set_option linter.unusedVariables false
set_option linter.unusedSimpArgs false
/-! Addresses and their texts, as lists of numbers. -/
def digitS (c : Nat) : Int := if 48 ≤ c ∧ c ≤ 57 then (c : Int) - 48 else if 97 ≤ c ∧ c ≤ 102 then (c : Int) - 87 else -1
def hx (d : Nat) : Nat := if d < 10 then 48 + d else 87 + d
def two (x : Nat) : List Nat := [hx (x / 16), hx (x % 16)]
def joinS : List (List Nat) → List Nat
  | [] => []
  | [x] => x
  | x :: y :: r => x ++ 58 :: joinS (y :: r)
def spl : List Nat → List (List Nat)
  | [] => [[]]
  | a :: l => if a = 58 then [] :: spl l else match spl l with | [] => [[a]] | h :: t => (a :: h) :: t
def partsS : List (List Nat) → Option (List Nat)
  | [] => some []
  | [x, y] :: ps => if digitS x < 0 ∨ digitS y < 0 then none else (partsS ps).map fun b => (16 * (digitS x).toNat + (digitS y).toNat) :: b
  | _ :: _ => none
def parseS (l : List Nat) : List Nat × Int :=
  if (spl l).length = 6 then match partsS (spl l) with | some b => (b, 0) | none => ([], 50) else ([], 50)
def textS (b : List Nat) : List Nat := joinS (b.map two)
def printS (b : List Nat) : List Nat × Int := if b.length = 6 then (textS b, 0) else ([], 1)
theorem hx_ne {d : Nat} (h : d < 16) : hx d ≠ 58 := by unfold hx; split <;> omega
theorem hx_lt {d : Nat} (h : d < 16) : hx d < 256 := by unfold hx; split <;> omega
theorem digit_hx {d : Nat} (h : d < 16) : digitS (hx d) = d := by
  unfold hx digitS
  split
  · rw [if_pos (by omega)]; omega
  · rw [if_neg (by omega), if_pos (by omega)]; omega
theorem hx_digit {c : Nat} (h : ¬ digitS c < 0) : hx (digitS c).toNat = c ∧ (digitS c).toNat < 16 := by
  unfold digitS at h ⊢
  split
  · next q => unfold hx; rw [if_pos (by omega)]; omega
  · next q =>
    rw [if_neg q] at h
    split
    · next q2 => unfold hx; rw [if_neg (by omega)]; omega
    · next q2 => rw [if_neg q2] at h; omega
theorem spl_ne (l : List Nat) : spl l ≠ [] := by
  cases l with
  | nil => simp [spl]
  | cons a l =>
    simp only [spl]
    split
    · simp
    · split <;> simp
theorem join_spl : ∀ l : List Nat, joinS (spl l) = l
  | [] => rfl
  | a :: l => by
    have ih := join_spl l
    have hn := spl_ne l
    simp only [spl]
    split
    · next h =>
      revert ih hn
      cases hs : spl l with
      | nil => intro _ hn; exact absurd rfl hn
      | cons x r => intro ih _; rw [joinS, ih, h]; rfl
    · revert ih hn
      cases hs : spl l with
      | nil => intro _ hn; exact absurd rfl hn
      | cons x r =>
        intro ih _
        cases r with
        | nil => simp only [joinS] at ih ⊢; rw [ih]
        | cons y r => simp only [joinS] at ih ⊢; rw [List.cons_append, ih]
theorem spl_none : ∀ {l : List Nat}, 58 ∉ l → spl l = [l]
  | [], _ => rfl
  | a :: l, h => by
    have h1 : a ≠ 58 := fun e => h (by simp [e])
    have h2 : 58 ∉ l := fun e => h (List.mem_cons_of_mem _ e)
    simp only [spl, if_neg h1, spl_none h2]
theorem spl_app : ∀ {x : List Nat} (r : List Nat), 58 ∉ x → spl (x ++ 58 :: r) = x :: spl r
  | [], r, _ => by simp only [List.nil_append, spl, if_true]
  | a :: x, r, h => by
    have h1 : a ≠ 58 := fun e => h (by simp [e])
    have h2 : 58 ∉ x := fun e => h (List.mem_cons_of_mem _ e)
    simp only [List.cons_append, spl, if_neg h1, spl_app r h2]
theorem spl_join : ∀ {ps : List (List Nat)}, ps ≠ [] → (∀ x ∈ ps, 58 ∉ x) → spl (joinS ps) = ps
  | [], h, _ => absurd rfl h
  | [x], _, h => by simp only [joinS]; exact spl_none (h x (by simp))
  | x :: y :: r, _, h => by
    simp only [joinS]
    rw [spl_app _ (h x (by simp)), spl_join (by simp) (fun z hz => h z (List.mem_cons_of_mem _ hz))]
theorem two_ne {x : Nat} (h : x < 256) : 58 ∉ two x := by
  have h1 := hx_ne (show x / 16 < 16 by omega)
  have h2 := hx_ne (show x % 16 < 16 by omega)
  intro e
  simp only [two, List.mem_cons, List.not_mem_nil, or_false] at e
  rcases e with e | e
  · exact h1 e.symm
  · exact h2 e.symm
theorem parts_two : ∀ {b : List Nat}, Bt b → partsS (b.map two) = some b
  | [], _ => rfl
  | x :: b, h => by
    have hx' : x < 256 := h x (by simp)
    have e1 := digit_hx (show x / 16 < 16 by omega)
    have e2 := digit_hx (show x % 16 < 16 by omega)
    simp only [List.map_cons, two, partsS]
    rw [e1, e2, if_neg (by omega), show b.map two = b.map two from rfl]
    have ih := parts_two (b := b) fun y hy => h y (List.mem_cons_of_mem _ hy)
    rw [ih]
    simp only [Option.map_some, Int.toNat_natCast, Option.some.injEq, List.cons.injEq, and_true]
    omega
theorem parts_inv : ∀ {ps : List (List Nat)} {b : List Nat}, partsS ps = some b → Bt b ∧ ps = b.map two
  | [], b, h => by
    simp only [partsS, Option.some.injEq] at h
    subst h
    exact ⟨Bt.nil, rfl⟩
  | [x, y] :: ps, b, h => by
    simp only [partsS] at h
    by_cases q : digitS x < 0 ∨ digitS y < 0
    · rw [if_pos q] at h; cases h
    · rw [if_neg q] at h
      obtain ⟨c, hc, rfl⟩ := Option.map_eq_some_iff.1 h
      obtain ⟨i1, i2⟩ := parts_inv hc
      have a1 := hx_digit (c := x) (by omega)
      have a2 := hx_digit (c := y) (by omega)
      refine ⟨?_, ?_⟩
      · intro z hz
        rcases List.mem_cons.1 hz with e | e
        · rw [e]; omega
        · exact i1 z e
      · rw [List.map_cons, ← i2, two, show (16 * (digitS x).toNat + (digitS y).toNat) / 16 = (digitS x).toNat from by omega, show (16 * (digitS x).toNat + (digitS y).toNat) % 16 = (digitS y).toNat from by omega, a1.1, a2.1]
  | [] :: ps, b, h => by simp [partsS] at h
  | [_] :: ps, b, h => by simp [partsS] at h
  | (_ :: _ :: _ :: _) :: ps, b, h => by simp [partsS] at h
theorem parse_text {b : List Nat} (hb : Bt b) (h6 : b.length = 6) : parseS (textS b) = (b, 0) := by
  have e : spl (textS b) = b.map two := spl_join (by intro e; rw [List.map_eq_nil_iff] at e; rw [e] at h6; cases h6) (by
    intro x hx
    obtain ⟨y, hy, rfl⟩ := List.mem_map.1 hx
    exact two_ne (hb y hy))
  unfold parseS
  rw [e, List.length_map, if_pos h6, parts_two hb]
theorem parse_inv (l : List Nat) : (∃ b, Bt b ∧ b.length = 6 ∧ textS b = l ∧ parseS l = (b, 0)) ∨ (parseS l = ([], 50) ∧ ∀ b, Bt b → b.length = 6 → textS b ≠ l) := by
  by_cases h : ∃ b, Bt b ∧ b.length = 6 ∧ textS b = l
  · obtain ⟨b, h1, h2, h3⟩ := h
    exact .inl ⟨b, h1, h2, h3, h3 ▸ parse_text h1 h2⟩
  · right
    refine ⟨?_, fun b h1 h2 h3 => h ⟨b, h1, h2, h3⟩⟩
    unfold parseS
    by_cases q : (spl l).length = 6
    · rw [if_pos q]
      cases hp : partsS (spl l) with
      | none => rfl
      | some b =>
        obtain ⟨i1, i2⟩ := parts_inv hp
        refine absurd ⟨b, i1, ?_, ?_⟩ h
        · rw [i2, List.length_map] at q; exact q
        · unfold textS; rw [← i2, join_spl]
    · rw [if_neg q]
theorem text_len {b : List Nat} (h6 : b.length = 6) : (textS b).length = 17 := by
  match b, h6 with
  | [_, _, _, _, _, _], _ => rfl
theorem text_bt {b : List Nat} (hb : Bt b) (h6 : b.length = 6) : Bt (textS b) := by
  match b, h6 with
  | [b0, b1, b2, b3, b4, b5], _ =>
    have g : ∀ x, x ∈ [b0, b1, b2, b3, b4, b5] → hx (x / 16) < 256 ∧ hx (x % 16) < 256 := fun x hx' => ⟨hx_lt (by have := hb x hx'; omega), hx_lt (by omega)⟩
    have g0 := g b0 (by simp); have g1 := g b1 (by simp); have g2 := g b2 (by simp); have g3 := g b3 (by simp); have g4 := g b4 (by simp); have g5 := g b5 (by simp)
    intro x hx'
    simp only [textS, List.map_cons, List.map_nil, joinS, two, List.cons_append, List.nil_append, List.mem_cons, List.not_mem_nil, or_false] at hx'
    omega
theorem text_inj {a b : List Nat} (ha : Bt a) (hb : Bt b) (h : a.length = 6) (k : b.length = 6) (e : textS a = textS b) : a = b := by
  have q := parse_text ha h
  rw [e, parse_text hb k] at q
  exact (Prod.mk.inj q).1.symm
end Go.Proofs.YtiffbjpmmbfkjaaDoor.Ad
