/- Filters: contracts by hand, and the laws over them. -/
import Derived.Test.YtnckogdplcijiaaOwn
import Derived.Test.YtnckogdplcijiaaLT
import Derived.Test.YtnckogdplcijiaaFS
import Derived.Test.YtnckogdplcijiaaFSm
namespace Go.Proofs.Ytnckogdplcijiaa.Fl
open Go Go.RowKit Go.Proofs.YtnckogdplcijiaaW.PrintWords Go.Proofs.YtnckogdplcijiaaW.PrintLast Go.Proofs.YtnckogdplcijiaaW.PrintMore Go.Proofs.Ytnckogdplcijiaa.Mth Go.Proofs.Ytnckogdplcijiaa.P Go.Proofs.Ytnckogdplcijiaa.Own Go.Proofs
set_option linter.unusedVariables false
set_option linter.unusedSimpArgs false
/-! ### Add, Del, Set: whatever the number -/
def Z0 : Flt := ⟨⟨#[]⟩, false, false, false, false, false, false, [], [], false, []⟩
def Y0 : Sl := ⟨none, 0, none, 0, none, 0⟩
theorem Z0_own (w : World) : OV w.heap.size w Z0 Y0 := ⟨⟨rfl, .inl ⟨rfl, rfl⟩⟩, ⟨rfl, .inl ⟨rfl, rfl⟩⟩, ⟨rfl, .inl ⟨rfl, rfl⟩⟩⟩
def addR (n : Int) (F : Flt) : Flt := if argS F.vs n = true then { F with vs := insS n F.vs } else Z0
def delR (n : Int) (F : Flt) : Flt := if argS F.vs n = true then { F with vs := delS n F.vs } else Z0
def errR (n : Int) (F : Flt) : Int := if argS F.vs n = true then 0 else 1
theorem Z0_small : Small Z0 := ⟨Nat.zero_le _, Nat.zero_le _, Nat.zero_le _⟩
theorem ins_le' (n : Int) : ∀ vs : List Int, (insS n vs).length ≤ vs.length + 1
  | [] => by simp [insS]
  | a :: r => by
    unfold insS
    by_cases h1 : a < n
    · rw [if_pos h1, List.length_cons, List.length_cons]; have := ins_le' n r; omega
    · rw [if_neg h1]
      by_cases h2 : a = n
      · rw [if_pos h2, List.length_cons]; omega
      · rw [if_neg h2, List.length_cons, List.length_cons]; omega
theorem addR_small (n : Int) (F : Flt) : Small (addR n (boundF F)) := by
  unfold addR
  split
  · refine ⟨?_, ?_, ?_⟩
    · show (F.us.take 20).length ≤ _; rw [List.length_take]; omega
    · show (F.ms.take 20).length ≤ _; rw [List.length_take]; omega
    · show (insS n (F.vs.take 60)).length ≤ _; have := ins_le' n (F.vs.take 60); rw [List.length_take] at this; omega
  · exact Z0_small
theorem delR_small (n : Int) (F : Flt) : Small (delR n (boundF F)) := by
  unfold delR
  split
  · refine ⟨?_, ?_, ?_⟩
    · show (F.us.take 20).length ≤ _; rw [List.length_take]; omega
    · show (F.ms.take 20).length ≤ _; rw [List.length_take]; omega
    · show (delS n (F.vs.take 60)).length ≤ _; have := List.length_filter_le (fun a => !(a == n)) (F.vs.take 60); rw [List.length_take] at this; unfold delS; omega
  · exact Z0_small
theorem add_any {F X : Flt} {v : Int} (n : Int) (hX : addR n F = X) (hv : errR n F = v) (S : Sl) (w : World) (h : FV w F S) (hs : Small F) :
    Calls Try.prog 16 #[.agg (cellsF F S), .int .i64 n] w fun e w' => ∃ S', e = .returned (.tuple #[.agg (cellsF X S'), .int .i64 v]) ∧ OV w.heap.size w' X S' ∧ Below w.heap.size w w' := by
  subst hX hv
  cases ha : argS F.vs n with
  | true => unfold addR errR; rw [if_pos ha, if_pos ha]; exact add_f F S n w h hs ha
  | false =>
    unfold addR errR
    rw [if_neg (by rw [ha]; exact Bool.false_ne_true), if_neg (by rw [ha]; exact Bool.false_ne_true)]
    refine (add_no F S n w h ha).mono ?_
    rintro e w' ⟨rfl, hb⟩
    exact ⟨Y0, rfl, (Z0_own w).below hb, hb⟩
theorem del_any {F X : Flt} {v : Int} (n : Int) (hX : delR n F = X) (hv : errR n F = v) (S : Sl) (w : World) (h : FV w F S) (hs : Small F) :
    Calls Try.prog 18 #[.agg (cellsF F S), .int .i64 n] w fun e w' => ∃ S', e = .returned (.tuple #[.agg (cellsF X S'), .int .i64 v]) ∧ OV w.heap.size w' X S' ∧ Below w.heap.size w w' := by
  subst hX hv
  cases ha : argS F.vs n with
  | true => unfold delR errR; rw [if_pos ha, if_pos ha]; exact del_f F S n w h hs ha
  | false =>
    unfold delR errR
    rw [if_neg (by rw [ha]; exact Bool.false_ne_true), if_neg (by rw [ha]; exact Bool.false_ne_true)]
    refine (del_no F S n w h ha).mono ?_
    rintro e w' ⟨rfl, hb⟩
    exact ⟨Y0, rfl, (Z0_own w).below hb, hb⟩
theorem set_any1 {F X : Flt} {v : Int} (n : Int) (hX : addR n F = X) (hv : errR n F = v) (S : Sl) (w : World) (h : FV w F S) (hs : Small F) :
    Calls Try.prog 17 #[.agg (cellsF F S), .int .i64 n, .bool true] w fun e w' => ∃ S', e = .returned (.tuple #[.agg (cellsF X S'), .int .i64 v]) ∧ FV w' X S' ∧ Below w.heap.size w w' := by
  subst hX hv
  cases ha : argS F.vs n with
  | true => unfold addR errR; rw [if_pos ha, if_pos ha]; exact set_add F S n w h hs ha
  | false =>
    unfold addR errR
    rw [if_neg (by rw [ha]; exact Bool.false_ne_true), if_neg (by rw [ha]; exact Bool.false_ne_true)]
    refine (set_no F S n true w h hs ha).mono ?_
    rintro e w' ⟨rfl, hb⟩
    exact ⟨Y0, rfl, ((Z0_own w).below hb).fv, hb⟩
theorem set_any0 {F X : Flt} {v : Int} (n : Int) (hX : delR n F = X) (hv : errR n F = v) (S : Sl) (w : World) (h : FV w F S) (hs : Small F) :
    Calls Try.prog 17 #[.agg (cellsF F S), .int .i64 n, .bool false] w fun e w' => ∃ S', e = .returned (.tuple #[.agg (cellsF X S'), .int .i64 v]) ∧ FV w' X S' ∧ Below w.heap.size w w' := by
  subst hX hv
  cases ha : argS F.vs n with
  | true => unfold delR errR; rw [if_pos ha, if_pos ha]; exact set_sub F S n w h hs ha
  | false =>
    unfold delR errR
    rw [if_neg (by rw [ha]; exact Bool.false_ne_true), if_neg (by rw [ha]; exact Bool.false_ne_true)]
    refine (set_no F S n false w h hs ha).mono ?_
    rintro e w' ⟨rfl, hb⟩
    exact ⟨Y0, rfl, ((Z0_own w).below hb).fv, hb⟩
/-- A store into a row of its own leaves all boxes, and the rows of another type. -/
theorem row_store {w : World} {base gx n c : Nat} {e : TypeId} {xs : List Value} (ho : w.ownsRow base e 1 (.slice (some ⟨gx, 0, none⟩) n c) n xs) (h25 : e ≠ 25) (j : Nat) (x : Value) :
    base ≤ gx ∧ Upd w (w.setCell ⟨gx, j, none⟩ x) (fun k => k = gx) ∧ (∀ (g : Nat) (cs : Array Value), w.heap[g]? = some (Obj.cells cs 25 (0, 0)) → (w.setCell ⟨gx, j, none⟩ x).heap[g]? = some (Obj.cells cs 25 (0, 0))) ∧
      (∀ b e' v m ys, e' ≠ e → w.ownsRow b e' 1 v m ys → (w.setCell ⟨gx, j, none⟩ x).ownsRow b e' 1 v m ys) := by
  rcases ho.2 with ⟨h0, _⟩ | ⟨g', cap, cur, hv, hb, hh, _⟩
  · cases h0
  · injection hv with e1 e2 e3
    injection e1 with e1
    injection e1 with e1 e4 e5
    subst e1
    have u : Upd w (w.setCell ⟨gx, j, none⟩ x) (fun k => k = gx) := (Upd.refl w (fun k => k = gx)).set (p := ⟨gx, j, none⟩) (.inl rfl) _
    refine ⟨hb, u, fun g cs hg => u.blk hg ?_, fun b e' v m ys hne h => u.own h fun k hk ek => ?_⟩
    · rintro rfl
      rw [hg] at hh
      injection hh with hh
      injection hh with _ h2 _
      exact h25 h2.symm
    · exact own_ne h hh hne (by rw [hk, ← ek])
end Go.Proofs.Ytnckogdplcijiaa.Fl
