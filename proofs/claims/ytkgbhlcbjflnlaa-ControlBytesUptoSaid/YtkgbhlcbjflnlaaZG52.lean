/- Slices of texts that came in as arguments: how many letters they have, by the bulk of what is read. -/
import Derived.Test.YtkgbhlcbjflnlaaRows
import Derived.Test.YtkgbhlcbjflnlaaZRowSl
import Derived.Test.YtkgbhlcbjflnlaaZOwn
import Derived.Test.YtkgbhlcbjflnlaaZBytes
section
namespace Go.Proofs.Ytkgbhlcbjflnlaa.RowSl
open Go Go.RowKit Go.ChangeShapes Go.WideShapes Go.Proofs.YtkgbhlcbjflnlaaW.PrintWords
def sumZ : List ByteArray → Nat
  | [] => 0
  | a :: r => a.size + sumZ r
theorem bulk_sum {H : Type} : ∀ (xs : List ByteArray), sumZ xs ≤ Rows.uptoBulkAll (xs.map fun b => (DataW.lit (.string b.data.toList) : DataW H))
  | [] => Nat.zero_le _
  | a :: r => by
    have := bulk_sum (H := H) r
    simp only [sumZ, List.map_cons, Rows.uptoBulkAll, Rows.uptoBulk]
    have e : a.data.toList.length = a.size := by rw [Array.length_toList]; rfl
    omega
theorem strsB {H : Type} {enc : TypeId × Value → H} {P : Program} {w : World} {base : Nat} {spare : Nat → Bool} {held : Bool} {t e : TypeId} {A : Option Addr} {n c fuel : Nat} {x : DataW H × List MemPlace}
    (ht : P.underlying t = some (.slice e)) (he : P.underlying e = some .string) (hc : P.cellsOf e = 1) (h : DataW.trod enc P w base spare held fuel t [.slice A n c] = some x) :
    ∃ xs : List ByteArray, n = xs.length ∧ xs.length ≤ c ∧ c ≤ 9223372036854775807 ∧ (∀ a ∈ xs, a.size ≤ maxLen) ∧ ReadsOf Value.string ByteArray.empty w A xs.length xs ∧ sumZ xs ≤ Rows.uptoBulk x.1 := by
  rcases DataW.trod_slice ht h with ⟨h0, _⟩ | ⟨a, len, cap, elems, rest, m, _, h0, hx, hb, hl, hm, hlen, hel, hsp, hns⟩
  · simp only [List.cons.injEq, Value.slice.injEq, and_true] at h0
    obtain ⟨rfl, rfl, rfl⟩ := h0
    exact ⟨[], rfl, Nat.le_refl _, by omega, by simp, ⟨rfl, by simp, fun h => absurd h (by simp)⟩, Nat.zero_le _⟩
  · simp only [List.cons.injEq, Value.slice.injEq, and_true] at h0
    obtain ⟨rfl, rfl, rfl⟩ := h0
    obtain ⟨xs, hxl, hxp⟩ := choose_list (fun i y => (elems.map (·.1))[i]? = some (DataW.lit (.string y.data.toList)) ∧ y.size ≤ maxLen ∧ w.cell? (a.add i) = some (.string y)) n (by
      intro i hi
      have h1 := hel i hi
      rw [List.getElem?_eq_getElem (by omega), Option.bind_eq_some_iff, hc, Nat.mul_one] at h1
      obtain ⟨cs', hcs, hy⟩ := h1
      obtain ⟨b, rfl, hyx, hbz⟩ := DataW.trod_string he hy
      refine ⟨b, ?_, hbz, ?_⟩
      · rw [List.getElem?_map, List.getElem?_eq_getElem (by omega), hyx]
        rfl
      · have q := (World.cells?_some hcs).2.2 0 (by omega)
        have e0 : (a.add i).add 0 = a.add i := by simp [Addr.add]
        rw [e0] at q
        exact q)
    subst hxl
    have hm' : c ≤ 9223372036854775807 := by simpa [maxLen] using hm
    refine ⟨xs, rfl, hl, hm', ?_, ⟨rfl, by omega, fun hn => ⟨a, rfl, fun j hj => ?_⟩⟩, ?_⟩
    · intro y hy
      obtain ⟨i, hi, rfl⟩ := List.getElem_of_mem hy
      exact (hxp i hi).2.1
    · rw [(hxp j hj).2.2, List.getD_eq_getElem?_getD, List.getElem?_eq_getElem hj]
      rfl
    · have e1 : elems.map (·.1) = xs.map fun b => (DataW.lit (.string b.data.toList) : DataW H) := by
        apply List.ext_getElem?
        intro i
        by_cases hi : i < xs.length
        · rw [(hxp i hi).1, List.getElem?_map, List.getElem?_eq_getElem hi]
          rfl
        · rw [List.getElem?_eq_none (by rw [List.length_map]; omega), List.getElem?_eq_none (by rw [List.length_map]; omega)]
      rw [hx]
      simp only [Rows.uptoBulk]
      rw [e1]
      have := bulk_sum (H := H) xs
      omega
end Go.Proofs.Ytkgbhlcbjflnlaa.RowSl
end
section
/- Commands and settings: contracts by hand, and the laws over them. -/
namespace Go.Proofs.Ytkgbhlcbjflnlaa.Hand
open Go Go.RowKit Go.Proofs.YtkgbhlcbjflnlaaW.PrintWords Go.Proofs.YtkgbhlcbjflnlaaW.PrintLast Go.Proofs.YtkgbhlcbjflnlaaW.PrintMore Go.Proofs.Ytkgbhlcbjflnlaa.Mth Go.Proofs.Ytkgbhlcbjflnlaa.P Go.Proofs.Ytkgbhlcbjflnlaa.Own Go.Proofs Go.Proofs.Ytkgbhlcbjflnlaa.Fl
set_option linter.unusedVariables false
set_option linter.unusedSimpArgs false
theorem cat_sum : ∀ l : List ByteArray, (cat l).size = RowSl.sumZ l
  | [] => rfl
  | a :: r => by
    have := cat_sum r
    rw [cat_size, cat_cons, List.length_append, B_length, ← cat_size, this]
    rfl
theorem sum_take (n : Nat) : ∀ l : List ByteArray, RowSl.sumZ (l.take n) ≤ RowSl.sumZ l := by
  induction n with
  | zero => intro l; rw [List.take_zero]; exact Nat.zero_le _
  | succ n ih =>
    intro l
    cases l with
    | nil => exact Nat.le_refl _
    | cons a r => rw [List.take_succ_cons]; have := ih r; simp only [RowSl.sumZ]; omega
theorem cat_take (n : Nat) (l : List ByteArray) : (cat (l.take n)).size ≤ RowSl.sumZ l := by rw [cat_sum]; exact sum_take n l
theorem ControlBytes (O : Cm) (T : SlM) (w : World) (ho : MV w O T) (hb : RowSl.sumZ O.us + RowSl.sumZ O.ms ≤ 1048576) (hmz : O.m.size ≤ 140737488351232) (hkz : O.key.size ≤ 140737488351232) : Calls Try.prog 8 #[.agg #[.int .i64 O.n, .int .i64 O.v, .int .i64 O.p, .bool O.on, .slice T.A4 O.us.length T.c4, .slice T.A5 O.ms.length T.c5, .string O.m, .int .i64 O.kn, .slice T.A8 O.tab.length T.c8, .string O.key, .int .i64 O.df]] w fun e w' => e = .returned (.bool true) ∧ Below w.heap.size w w' :=
  bytes_c O T w ho (by have := cat_take 20 O.us; have := cat_take 20 O.ms; omega) hmz
end Go.Proofs.Ytkgbhlcbjflnlaa.Hand
end
