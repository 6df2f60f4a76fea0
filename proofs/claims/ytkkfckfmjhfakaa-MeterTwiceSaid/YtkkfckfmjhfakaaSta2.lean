/- Floats and the meter: contracts by hand, and the laws over them. -/
import Derived.Test.YtkkfckfmjhfakaaOwn
import Derived.Test.YtkkfckfmjhfakaaSta
namespace Go.Proofs.Ytkkfckfmjhfakaa.Mt
open Go Go.RowKit Go.Proofs.YtkkfckfmjhfakaaW.PrintWords Go.Proofs.YtkkfckfmjhfakaaW.PrintLast Go.Proofs.YtkkfckfmjhfakaaW.PrintMore Go.Proofs.Ytkkfckfmjhfakaa.Mth Go.Proofs.Ytkkfckfmjhfakaa.Own Go.Proofs
set_option linter.unusedVariables false
set_option linter.unusedSimpArgs false
/-- Sort, whatever the length. -/
theorem Sort_big (A : Option Addr) (c : Nat) (l : List F64) (w : World) (hr : ReadsOf encF default w A l.length l) (hb : l.length ≤ 100000) :
    Calls Try.prog 15 #[.slice A l.length c] w fun e w' => ∃ A' c' l', e = .returned (.slice A' l.length c') ∧ l'.length = l.length ∧ OwnF w.heap.size w' A' c' l' ∧ l'.Perm l ∧ l'.Pairwise (fun x y => ltF y x = false) ∧ Below w.heap.size w w' := by
  rcases Nat.eq_zero_or_pos l.length with h0 | h0
  · exact Sort_calls A c l w hr (by omega)
  have HR := Aside0.mk hr
  have H0 := Aside0.mk h0
  clear hr h0
  go_enter Try.func15, Try.ntmps15
  go_wp2_with fail
  refine (clone_calls A c l w HR.out (by omega)).mono ?_
  rintro e w1 ⟨A1, c1, rfl, ho, hb1⟩
  have HO := Aside0.mk ho
  have B1 := Aside0.mk hb1
  clear ho hb1
  go_wp2_with fail
  have key : Calls Try.prog 35 #[.slice A1 l.length c1, .int .i64 (l.length : Int), .func (.func 30) #[] #[]] w1 fun e w' => e = .returned (.tuple #[]) ∧ ∃ l' : List F64, l'.length = l.length ∧ OwnF w.heap.size w' A1 c1 l' ∧ l'.Perm l ∧ l'.Pairwise (fun x y => ltF y x = false) ∧ Below w.heap.size w w' := by
    obtain ⟨g, cap, hv, hg, hlt, hn, hm, -, hH⟩ := Go.Lib.holds_of_ownsRow (zs := l) HO.out (by
      rcases HO.out.2 with ⟨_, h⟩ | ⟨g, _, _, h, _⟩
      · have := H0.out; omega
      · rw [h]; intro q; cases q)
    injection hv with hA _ hc
    subst hA hc
    have C := stable_calls g 0 c1 l.length l.toArray w1 w1 (rw_start hH) (by simp) (by omega)
    refine C.mono ?_
    rintro e w' ⟨rfl, d', hp, hs, -, q, rfl⟩
    obtain ⟨l', hl'⟩ : ∃ l' : List F64, d' = l'.toArray := ⟨d'.toList, by simp⟩
    subst hl'
    obtain ⟨e1, e2, e3⟩ := sorted_list hp hs
    have o := Go.Lib.ownsRow_putRow (q := 0) (k := l.length) (ys := l') HO.out e1 (Nat.le_refl _)
    rw [List.take_of_length_le (by omega)] at o
    refine ⟨rfl, l', e1, ?_, e2, e3, ?_⟩
    · show World.ownsRow _ _ _ _ (.slice _ l'.length _) l'.length _
      rw [e1]
      exact pw_own_drewN o q
    · exact pw_below_drewN (Go.Lib.below_putRow (q := 0) B1.out hg) q
  refine (ssf_calls _ l.length w1 _ ⟨_, _, rfl⟩ key).mono ?_
  rintro e w2 ⟨rfl, l', h1, h2, h3, h4, h5⟩
  have K := Aside0.mk (And.intro h1 (And.intro h2 (And.intro h3 (And.intro h4 h5))))
  clear h1 h2 h3 h4 h5
  go_wp2
  go_ret
  exact ⟨A1, c1, l', rfl, K.out⟩
end Go.Proofs.Ytkkfckfmjhfakaa.Mt
