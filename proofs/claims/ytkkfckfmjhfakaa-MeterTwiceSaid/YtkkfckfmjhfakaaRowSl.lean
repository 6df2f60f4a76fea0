/- Slices that came in as arguments: what their cells hold. -/
import Derived.Test.YtkkfckfmjhfakaaWWords
import Derived.ChangeArms
import Derived.ChangeSlices
import Derived.ChangeSame
namespace Go.Proofs.Ytkkfckfmjhfakaa.RowSl
open Go Go.RowKit Go.ChangeShapes Go.WideShapes Go.Proofs.YtkkfckfmjhfakaaW.PrintWords
section
variable {H : Type} {enc : TypeId × Value → H} {P : Program} {w : World} {base : Nat} {spare : Nat → Bool} {held : Bool} {t e : TypeId} {A : Option Addr} {n c fuel : Nat} {x : DataW H × List MemPlace}
theorem choose_list {α : Type} (p : Nat → α → Prop) : ∀ n, (∀ i, i < n → ∃ a, p i a) → ∃ xs : List α, xs.length = n ∧ ∀ i (hi : i < xs.length), p i xs[i]
  | 0, _ => ⟨[], rfl, fun i hi => absurd hi (Nat.not_lt_zero i)⟩
  | n + 1, h => by
    obtain ⟨xs, hl, hx⟩ := choose_list p n fun i hi => h i (by omega)
    obtain ⟨a, ha⟩ := h n (by omega)
    refine ⟨xs ++ [a], by simp [hl], fun i hi => ?_⟩
    by_cases q : i < xs.length
    · rw [List.getElem_append_left q]; exact hx i q
    · have e : i = n := by simp at hi; omega
      subst e
      rw [List.getElem_append_right (by omega)]
      simpa using ha
theorem readsK {α : Type} (k : Nat) (encv : α → List Value) (good : α → Prop) (ht : P.underlying t = some (.slice e)) (hc : P.cellsOf e = k)
    (ex : ∀ n cs y, DataW.trod enc P w base spare held n e cs = some y → ∃ a, cs = encv a ∧ good a)
    (h : DataW.trod enc P w base spare held fuel t [.slice A n c] = some x) :
    ∃ xs : List α, xs.length = n ∧ n ≤ c ∧ c ≤ 9223372036854775807 ∧ (∀ a ∈ xs, good a) ∧ (A = none → n = 0) ∧
      ∀ ad, A = some ad → ∀ i (hi : i < xs.length) j, j < k → w.cell? ((ad.add (i * k)).add j) = (encv xs[i])[j]? := by
  rcases DataW.trod_slice ht h with ⟨h0, _⟩ | ⟨a, len, cap, elems, rest, m, _, h0, _, hb, hl, hm, hlen, hel, hsp, hns⟩
  · simp only [List.cons.injEq, Value.slice.injEq, and_true] at h0
    obtain ⟨rfl, rfl, rfl⟩ := h0
    exact ⟨[], rfl, Nat.le_refl _, by omega, by simp, fun _ => rfl, fun ad had => by cases had⟩
  · simp only [List.cons.injEq, Value.slice.injEq, and_true] at h0
    obtain ⟨rfl, rfl, rfl⟩ := h0
    obtain ⟨xs, hxl, hx⟩ := choose_list (fun i y => good y ∧ ∀ j, j < k → w.cell? ((a.add (i * k)).add j) = (encv y)[j]?) n (by
      intro i hi
      have h1 := hel i hi
      rw [List.getElem?_eq_getElem (by omega), Option.bind_eq_some_iff, hc] at h1
      obtain ⟨cs', hcs, hy⟩ := h1
      obtain ⟨y, rfl, hg⟩ := ex _ _ _ hy
      exact ⟨y, hg, (World.cells?_some hcs).2.2⟩)
    refine ⟨xs, hxl, hl, by simpa [maxLen] using hm, ?_, fun h => (by cases h), ?_⟩
    · intro y hy
      obtain ⟨i, hi, rfl⟩ := List.getElem_of_mem hy
      exact (hx i hi).1
    · intro ad had i hi j hj
      obtain rfl := Option.some.inj had
      exact (hx i hi).2 j hj
theorem reads1 {α : Type} (encv : α → Value) (d : α) (good : α → Prop) (ht : P.underlying t = some (.slice e)) (hc : P.cellsOf e = 1)
    (ex : ∀ n cs y, DataW.trod enc P w base spare held n e cs = some y → ∃ a, cs = [encv a] ∧ good a)
    (h : DataW.trod enc P w base spare held fuel t [.slice A n c] = some x) :
    ∃ xs : List α, n = xs.length ∧ xs.length ≤ c ∧ c ≤ 9223372036854775807 ∧ (∀ a ∈ xs, good a) ∧ ReadsOf encv d w A xs.length xs := by
  obtain ⟨xs, rfl, h2, h3, h4, h5, h6⟩ := readsK 1 (fun a => [encv a]) good ht hc ex h
  refine ⟨xs, rfl, h2, h3, h4, rfl, by omega, fun hn => ?_⟩
  cases A with
  | none => have := h5 rfl; omega
  | some ad =>
    refine ⟨ad, rfl, fun j hj => ?_⟩
    have q := h6 ad rfl j hj 0 (by omega)
    rw [Nat.mul_one] at q
    have e0 : (ad.add j).add 0 = ad.add j := by simp [Addr.add]
    rw [e0] at q
    rw [q, List.getD_eq_getElem?_getD, List.getElem?_eq_getElem hj]
    rfl
theorem trod_float {k : FloatKind} {t : TypeId} {cs : List Value} (ht : P.underlying t = some (.float k)) (h : DataW.trod enc P w base spare held fuel t cs = some x) :
    ∃ b, cs = [.float k b] ∧ x = (.lit (.float k b), []) ∧ (Lit.float k b).wf = true := by
  cases fuel with
  | zero => simp [DataW.trod] at h
  | succ n =>
    unfold DataW.trod at h
    rw [ht] at h
    split at h <;> simp_all
theorem isSlice {v : Value} (ht : P.underlying t = some (.slice e)) (h : DataW.trod enc P w base spare held fuel t [v] = some x) : ∃ A n c, v = .slice A n c := by
  rcases DataW.trod_slice ht h with ⟨h0, _⟩ | ⟨a, len, cap, elems, rest, m, _, h0, _⟩
  · exact ⟨none, 0, 0, List.singleton_inj.1 h0⟩
  · exact ⟨some a, len, cap, List.singleton_inj.1 h0⟩
theorem bools (ht : P.underlying t = some (.slice e)) (he : P.underlying e = some .bool) (hc : P.cellsOf e = 1) (h : DataW.trod enc P w base spare held fuel t [.slice A n c] = some x) :
    ∃ xs : List Bool, n = xs.length ∧ xs.length ≤ c ∧ c ≤ 9223372036854775807 ∧ (∀ a ∈ xs, True) ∧ ReadsOf Value.bool false w A xs.length xs :=
  reads1 Value.bool false (fun _ => True) ht hc (fun n cs y hy => by obtain ⟨b, rfl, _⟩ := DataW.trod_bool he hy; exact ⟨b, rfl, trivial⟩) h
theorem strs (ht : P.underlying t = some (.slice e)) (he : P.underlying e = some .string) (hc : P.cellsOf e = 1) (h : DataW.trod enc P w base spare held fuel t [.slice A n c] = some x) :
    ∃ xs : List ByteArray, n = xs.length ∧ xs.length ≤ c ∧ c ≤ 9223372036854775807 ∧ (∀ a ∈ xs, a.size ≤ maxLen) ∧ ReadsOf Value.string ByteArray.empty w A xs.length xs :=
  reads1 Value.string ByteArray.empty (fun a => a.size ≤ maxLen) ht hc (fun n cs y hy => by obtain ⟨b, rfl, _, hw⟩ := DataW.trod_string he hy; exact ⟨b, rfl, hw⟩) h
theorem ints {k : IntKind} (ht : P.underlying t = some (.slice e)) (he : P.underlying e = some (.int k)) (hc : P.cellsOf e = 1) (h : DataW.trod enc P w base spare held fuel t [.slice A n c] = some x) :
    ∃ xs : List Int, n = xs.length ∧ xs.length ≤ c ∧ c ≤ 9223372036854775807 ∧ (∀ a ∈ xs, (Lit.int k a).wf = true) ∧ ReadsOf (Value.int k) 0 w A xs.length xs :=
  reads1 (Value.int k) 0 (fun a => (Lit.int k a).wf = true) ht hc (fun n cs y hy => by obtain ⟨b, rfl, _, hw⟩ := DataW.trod_int he hy; exact ⟨b, rfl, hw⟩) h
theorem floats {k : FloatKind} (ht : P.underlying t = some (.slice e)) (he : P.underlying e = some (.float k)) (hc : P.cellsOf e = 1) (h : DataW.trod enc P w base spare held fuel t [.slice A n c] = some x) :
    ∃ xs : List Nat, n = xs.length ∧ xs.length ≤ c ∧ c ≤ 9223372036854775807 ∧ (∀ a ∈ xs, (Lit.float k a).wf = true) ∧ ReadsOf (Value.float k) 0 w A xs.length xs :=
  reads1 (Value.float k) 0 (fun a => (Lit.float k a).wf = true) ht hc (fun n cs y hy => by obtain ⟨b, rfl, _, hw⟩ := trod_float he hy; exact ⟨b, rfl, hw⟩) h
theorem add_pair (ad : Addr) (m : Nat) : (ad.add m).add 0 = ad.add m ∧ (ad.add m).add 1 = ⟨(ad.add m).block, (ad.add m).off + 1, none⟩ := by
  constructor
  · simp [Addr.add]
  · simp [Addr.add]
/-- A slice of structs of a number and a text. -/
theorem intstr {k : IntKind} {f0 f1 : Field} (ht : P.underlying t = some (.slice e)) (he : P.underlying e = some (.struct #[f0, f1])) (h0 : P.underlying f0.type = some (.int k)) (h1 : P.underlying f1.type = some .string)
    (o0 : f0.offset = 0) (o1 : f1.offset = 1) (c0 : P.cellsOf f0.type = 1) (c1 : P.cellsOf f1.type = 1) (hc : P.cellsOf e = 2) (h : DataW.trod enc P w base spare held fuel t [.slice A n c] = some x) :
    ∃ xs : List (Int × ByteArray), n = xs.length ∧ xs.length ≤ c ∧ c ≤ 9223372036854775807 ∧ (∀ a ∈ xs, (Lit.int k a.1).wf = true ∧ a.2.size ≤ maxLen) ∧
      (0 < xs.length → ∃ ad, A = some ad ∧ ∀ i, i < xs.length → w.cell? (ad.add (i * 2)) = some (.int k (xs.getD i (0, ByteArray.empty)).1) ∧ w.cell? ⟨(ad.add (i * 2)).block, (ad.add (i * 2)).off + 1, none⟩ = some (.string (xs.getD i (0, ByteArray.empty)).2)) := by
  obtain ⟨xs, rfl, h2, h3, h4, h5, h6⟩ := readsK (α := Int × ByteArray) 2 (fun a => [.int k a.1, .string a.2]) (fun a => (Lit.int k a.1).wf = true ∧ a.2.size ≤ maxLen) ht hc (fun n cs y hy => by
    obtain ⟨y0, y1, m, -, hl, g0, g1⟩ := trod_struct2 he hy
    rw [hc] at hl
    match cs, hl with
    | [u0, u1], _ =>
      rw [o0, c0] at g0
      rw [o1, c1] at g1
      obtain ⟨z0, e0, -, w0⟩ := DataW.trod_int h0 g0
      obtain ⟨z1, e1, -, w1⟩ := DataW.trod_string h1 g1
      obtain rfl : u0 = .int k z0 := by simpa using e0
      obtain rfl : u1 = .string z1 := by simpa using e1
      exact ⟨(z0, z1), rfl, w0, w1⟩) h
  refine ⟨xs, rfl, h2, h3, h4, fun hn => ?_⟩
  cases A with
  | none => have := h5 rfl; omega
  | some ad =>
    refine ⟨ad, rfl, fun j hj => ?_⟩
    have q0 := h6 ad rfl j hj 0 (by omega)
    have q1 := h6 ad rfl j hj 1 (by omega)
    rw [(add_pair ad (j * 2)).1] at q0
    rw [(add_pair ad (j * 2)).2] at q1
    have e : xs.getD j (0, ByteArray.empty) = xs[j] := by rw [List.getD_eq_getElem?_getD, List.getElem?_eq_getElem hj]; rfl
    rw [e]
    exact ⟨q0, q1⟩
end
end Go.Proofs.Ytkkfckfmjhfakaa.RowSl
