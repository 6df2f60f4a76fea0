/- Floats and the meter: contracts by hand, and the laws over them. -/
import Derived.Test.YtkkfckfmjhfakaaOwn
import Derived.Test.YtkkfckfmjhfakaaRso
namespace Go.Proofs.Ytkkfckfmjhfakaa.Mt
open Go Go.RowKit Go.Proofs.YtkkfckfmjhfakaaW.PrintWords Go.Proofs.YtkkfckfmjhfakaaW.PrintLast Go.Proofs.YtkkfckfmjhfakaaW.PrintMore Go.Proofs.Ytkkfckfmjhfakaa.Mth Go.Proofs.Ytkkfckfmjhfakaa.Own Go.Proofs
set_option linter.unusedVariables false
set_option linter.unusedSimpArgs false
/-! ### Sorted lists of the same numbers -/
open Go.Sort
def keyF (x : F64) : Int × Int := (kd x.1, ky x.1)
theorem lt_key (x y : F64) : ltF x y = true ↔ (keyF x).1 < (keyF y).1 ∨ ((keyF x).1 = (keyF y).1 ∧ (keyF x).2 < (keyF y).2) := less_iff _ _
theorem same_key (x y : F64) : sameB x.1 y.1 = true ↔ keyF x = keyF y := by
  rw [same_iff]
  unfold keyF
  exact ⟨fun h => by rw [h.1, h.2], fun h => by injection h with a b; exact ⟨a, b⟩⟩
theorem key_of_not {x y : F64} (h1 : ltF x y = false) (h2 : ltF y x = false) : keyF x = keyF y := by
  have a : ¬ _ := fun h => Bool.false_ne_true (h1.symm.trans ((lt_key x y).2 h))
  have b : ¬ _ := fun h => Bool.false_ne_true (h2.symm.trans ((lt_key y x).2 h))
  obtain ⟨p, q, hx⟩ : ∃ p q, keyF x = (p, q) := ⟨_, _, rfl⟩
  obtain ⟨r, s, hy⟩ : ∃ p q, keyF y = (p, q) := ⟨_, _, rfl⟩
  rw [hx, hy] at a b
  rw [hx, hy]
  dsimp only at a b
  have e1 : p = r := by omega
  have e2 : q = s := by omega
  rw [e1, e2]
theorem keys_sorted : ∀ (l1 l2 : List F64), (l1.map keyF).Perm (l2.map keyF) → SortedL l1 → SortedL l2 → l1.map keyF = l2.map keyF
  | [], l2, hp, _, _ => by
    have : l2.map keyF = [] := List.perm_nil.1 hp.symm
    rw [this]; rfl
  | a :: r, [], hp, _, _ => by
    have := hp.length_eq
    simp at this
  | a :: r, b :: t, hp, s1, s2 => by
    have low : ∀ {x : F64} {m : List F64} {y : F64}, SortedL (x :: m) → keyF y ∈ (x :: m).map keyF → ltF y x = false := fun {x m y} hs hm => by
      obtain ⟨z, hz, ez⟩ := List.mem_map.1 hm
      have h0 : ltF z x = false := by
        rcases List.mem_cons.1 hz with rfl | h
        · exact ltF_irr _
        · exact (List.pairwise_cons.1 hs).1 z h
      cases h : ltF y x with
      | false => rfl
      | true =>
        have := (lt_key y x).1 h
        rw [← ez] at this
        rw [(lt_key z x).2 this] at h0
        cases h0
    have e : keyF a = keyF b := key_of_not (low s2 (hp.mem_iff.1 (by simp))) (low s1 (hp.mem_iff.2 (by simp)))
    rw [List.map_cons, List.map_cons, e] at hp ⊢
    rw [keys_sorted r t hp.cons_inv (List.pairwise_cons.1 s1).2 (List.pairwise_cons.1 s2).2]
theorem same_sorted {l1 l2 : List F64} (hp : l1.Perm l2) (s1 : SortedL l1) (s2 : SortedL l2) : ∀ i, i < l1.length → sameB (l1.getD i default).1 (l2.getD i default).1 = true := by
  intro i hi
  have e := keys_sorted l1 l2 (hp.map _) s1 s2
  have hl := hp.length_eq
  rw [same_key]
  have e1 : (l1.map keyF)[i]? = (l2.map keyF)[i]? := by rw [e]
  rw [List.getElem?_map, List.getElem?_map, List.getElem?_eq_getElem hi, List.getElem?_eq_getElem (by omega : i < l2.length)] at e1
  rw [List.getD_eq_getElem?_getD, List.getD_eq_getElem?_getD, List.getElem?_eq_getElem hi, List.getElem?_eq_getElem (by omega : i < l2.length)]
  exact Option.some.inj e1
theorem same_refl (x : Nat) : sameB x x = true := by rw [same_iff]; exact ⟨rfl, rfl⟩
/-- The numbers of a slice that came in. -/
theorem reads_F {w : World} {A : Option Addr} {l : List Nat} (h : ReadsOf (Value.float .f64) 0 w A l.length l) (hb : ∀ x ∈ l, x < 2 ^ 64) : ∃ L : List F64, L.length = l.length ∧ ReadsOf encF default w A L.length L := by
  refine ⟨l.map (fun x => if h : x < 2 ^ 64 then ⟨x, h⟩ else default), by simp, ?_⟩
  refine ⟨rfl, by rw [List.length_map]; exact h.2.1, fun h0 => ?_⟩
  rw [List.length_map] at h0
  obtain ⟨ad, hA, hc⟩ := h.2.2 h0
  refine ⟨ad, hA, fun j hj => ?_⟩
  rw [List.length_map] at hj
  rw [hc j hj, List.getD_eq_getElem?_getD, List.getD_eq_getElem?_getD, List.getElem?_map, List.getElem?_eq_getElem hj]
  have hx := hb l[j] (List.getElem_mem hj)
  show some (Value.float .f64 l[j]) = some (encF (if h : l[j] < 2 ^ 64 then ⟨l[j], h⟩ else default))
  rw [dif_pos hx]
  rfl
theorem take_lenF {w : World} {A : Option Addr} {l : List F64} (h : ReadsOf encF default w A l.length l) (k : Nat) : ReadsOf encF default w A (l.take k).length (l.take k) := by
  have q := h.take_ (min k l.length) (by omega)
  have e : l.take (min k l.length) = l.take k := by rw [List.take_eq_take_iff]; omega
  rw [e] at q
  rw [List.length_take]
  exact q
theorem Dr.below {w w' : World} (h : Dr w w') : Below w.heap.size w w' := by
  obtain ⟨n, rfl⟩ := h
  exact pw_below_drewN (Below.refl _ _) n
end Go.Proofs.Ytkkfckfmjhfakaa.Mt
