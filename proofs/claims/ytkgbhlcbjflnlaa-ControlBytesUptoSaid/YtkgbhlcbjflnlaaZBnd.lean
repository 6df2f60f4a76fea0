/- Commands and settings: contracts by hand, and the laws over them. -/
import Derived.Test.YtkgbhlcbjflnlaaZOwn
import Derived.Test.YtkgbhlcbjflnlaaZFV
namespace Go.Proofs.Ytkgbhlcbjflnlaa.Fl
open Go Go.RowKit Go.Proofs.YtkgbhlcbjflnlaaW.PrintWords Go.Proofs.YtkgbhlcbjflnlaaW.PrintLast Go.Proofs.YtkgbhlcbjflnlaaW.PrintMore Go.Proofs.Ytkgbhlcbjflnlaa.Mth Go.Proofs.Ytkgbhlcbjflnlaa.P Go.Proofs.Ytkgbhlcbjflnlaa.Own Go.Proofs
set_option linter.unusedVariables false
set_option linter.unusedSimpArgs false
def boundF (F : Flt) : Flt := { F with us := F.us.take 20, ms := F.ms.take 20, vs := F.vs.take 60 }
def boundC (C : Cfg) : Cfg := { C with F := boundF C.F, tab := C.tab.take 130 }
theorem take_min {α : Type} (l : List α) (k : Nat) : l.take (min (l.length : Int) (k : Int)).toNat = l.take k := by rw [List.take_eq_take_iff]; omega
theorem take_len {α : Type} {enc : α → Value} {d : α} {w : World} {A : Option Addr} {l : List α} (h : ReadsOf enc d w A l.length l) (k : Nat) : ReadsOf enc d w A (l.take k).length (l.take k) := by
  have q := h.take_ (min k l.length) (by omega)
  have e : l.take (min k l.length) = l.take k := by rw [List.take_eq_take_iff]; omega
  rw [e] at q
  rw [List.length_take]
  exact q
theorem FV.bound {w : World} {F : Flt} {S : Sl} (h : FV w F S) : FV w (boundF F) S :=
  ⟨take_len h.r7 20, take_len h.r8 20, take_len h.r10 60, by have := h.l7; simp only [boundF, List.length_take]; omega, by have := h.l8; simp only [boundF, List.length_take]; omega, by have := h.l10; simp only [boundF, List.length_take]; omega⟩
theorem CV.bound {w : World} {C : Cfg} {S : SlC} (h : CV w C S) : CV w (boundC C) S := ⟨h.f.bound, take_len h.r 130, by have := h.l; simp only [boundC, List.length_take]; omega⟩
end Go.Proofs.Ytkgbhlcbjflnlaa.Fl
