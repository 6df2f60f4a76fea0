/- Filters: contracts by hand, and the laws over them. -/
import Derived.Test.YtnckogdplcijiaaOwn
import Derived.Test.YtnckogdplcijiaaFF
import Derived.Test.YtnckogdplcijiaaFSl
namespace Go.Proofs.Ytnckogdplcijiaa.Fl
open Go Go.RowKit Go.Proofs.YtnckogdplcijiaaW.PrintWords Go.Proofs.YtnckogdplcijiaaW.PrintLast Go.Proofs.YtnckogdplcijiaaW.PrintMore Go.Proofs.Ytnckogdplcijiaa.Mth Go.Proofs.Ytnckogdplcijiaa.P Go.Proofs.Ytnckogdplcijiaa.Own Go.Proofs
set_option linter.unusedVariables false
set_option linter.unusedSimpArgs false
/-! ### The plain laws of FilterTwice -/
theorem argS_iff {vs : List Int} {n : Int} : argS vs n = true ↔ (0 ≤ n ∧ n ≤ 4094) ∧ netsS vs = true := by
  unfold argS
  simp only [Bool.and_eq_true, decide_eq_true_eq]
theorem nets_ins {vs : List Int} {n : Int} (h : netsS vs = true) (h0 : 0 ≤ n) (h1 : n ≤ 4094) : netsS (insS n vs) = true := by
  have q := nets_iff.1 h
  refine nets_iff.2 ⟨ins_rise q.1, fun x hx => ?_⟩
  rcases ins_mem.1 hx with rfl | hx
  · exact ⟨h0, h1⟩
  · exact q.2 x hx
theorem nets_del {vs : List Int} {n : Int} (h : netsS vs = true) : netsS (delS n vs) = true := by
  have q := nets_iff.1 h
  refine nets_iff.2 ⟨List.Pairwise.filter _ q.1, fun x hx => q.2 x (del_mem.1 hx).1⟩
theorem ins_le (n : Int) : ∀ vs : List Int, (insS n vs).length ≤ vs.length + 1
  | [] => by simp [insS]
  | a :: r => by
    unfold insS
    by_cases h1 : a < n
    · rw [if_pos h1, List.length_cons, List.length_cons]; have := ins_le n r; omega
    · rw [if_neg h1]
      by_cases h2 : a = n
      · rw [if_pos h2, List.length_cons]; omega
      · rw [if_neg h2, List.length_cons, List.length_cons]; omega
theorem del_le (n : Int) (vs : List Int) : (delS n vs).length ≤ vs.length := List.length_filter_le _ _
theorem ins_ins {vs : List Int} {n : Int} (h : netsS vs = true) : insS n (insS n vs) = insS n vs := by
  have q := nets_iff.1 h
  refine sorted_ext (ins_rise (ins_rise q.1)) (ins_rise q.1) fun x => ?_
  rw [ins_mem, ins_mem]
  constructor
  · rintro (h | h | h)
    · exact .inl h
    · exact .inl h
    · exact .inr h
  · exact .inr
theorem ins_comm {vs : List Int} {n k : Int} (h : netsS vs = true) : insS n (insS k vs) = insS k (insS n vs) := by
  have q := nets_iff.1 h
  refine sorted_ext (ins_rise (ins_rise q.1)) (ins_rise (ins_rise q.1)) fun x => ?_
  rw [ins_mem, ins_mem, ins_mem, ins_mem]
  constructor
  · rintro (h | h | h)
    · exact .inr (.inl h)
    · exact .inl h
    · exact .inr (.inr h)
  · rintro (h | h | h)
    · exact .inr (.inl h)
    · exact .inl h
    · exact .inr (.inr h)
theorem del_del (n : Int) (vs : List Int) : delS n (delS n vs) = delS n vs := by
  unfold delS
  rw [List.filter_filter]
  congr 1
  funext a
  exact Bool.and_self _
def insF (n : Int) (F : Flt) : Flt := { F with vs := insS n F.vs }
def delF (n : Int) (F : Flt) : Flt := { F with vs := delS n F.vs }
/-- A filter that may be given one more network, and has room. -/
def May (j : Nat) (F : Flt) : Prop := netsS F.vs = true ∧ F.us.length ≤ 20 ∧ F.ms.length ≤ 20 ∧ F.vs.length ≤ 60 + j
theorem May.small {j : Nat} {F : Flt} (h : May j F) (hj : j ≤ 1000) : Small F := ⟨by have := h.2.1; omega, by have := h.2.2.1; omega, by have := h.2.2.2; omega⟩
theorem May.ins {j : Nat} {F : Flt} (h : May j F) {n : Int} (h0 : 0 ≤ n) (h1 : n ≤ 4094) : May (j + 1) (insF n F) :=
  ⟨nets_ins h.1 h0 h1, h.2.1, h.2.2.1, by have := ins_le n F.vs; have := h.2.2.2; show (insS n F.vs).length ≤ _; omega⟩
theorem May.del {j : Nat} {F : Flt} (h : May j F) (n : Int) : May j (delF n F) :=
  ⟨nets_del h.1, h.2.1, h.2.2.1, by have := del_le n F.vs; have := h.2.2.2; show (delS n F.vs).length ≤ _; omega⟩
theorem May.of_bound {F : Flt} (h : netsS (boundF F).vs = true) : May 0 (boundF F) :=
  ⟨h, by show (F.us.take 20).length ≤ 20; rw [List.length_take]; omega, by show (F.ms.take 20).length ≤ 20; rw [List.length_take]; omega, by show (F.vs.take 60).length ≤ 60 + 0; rw [List.length_take]; omega⟩
theorem insF_insF {j : Nat} {F : Flt} (h : May j F) (n : Int) : insF n (insF n F) = insF n F := by unfold insF; show Flt.mk _ _ _ _ _ _ _ _ _ _ (insS n (insS n F.vs)) = _; rw [ins_ins h.1]
theorem insF_comm {j : Nat} {F : Flt} (h : May j F) (n k : Int) : insF n (insF k F) = insF k (insF n F) := by unfold insF; show Flt.mk _ _ _ _ _ _ _ _ _ _ (insS n (insS k F.vs)) = Flt.mk _ _ _ _ _ _ _ _ _ _ (insS k (insS n F.vs)); rw [ins_comm h.1]
theorem delF_delF (n : Int) (F : Flt) : delF n (delF n F) = delF n F := by unfold delF; show Flt.mk _ _ _ _ _ _ _ _ _ _ (delS n (delS n F.vs)) = _; rw [del_del]
theorem add_may {j : Nat} {F G : Flt} (n : Int) (hG : insF n F = G) (S : Sl) (w : World) (h : FV w F S) (hm : May j F) (hj : j ≤ 1000) (h0 : 0 ≤ n) (h1 : n ≤ 4094) :
    Calls Try.prog 16 #[.agg (cellsF F S), .int .i64 n] w fun e w' => ∃ S', e = .returned (.tuple #[.agg (cellsF G S'), .int .i64 0]) ∧ OV w.heap.size w' G S' ∧ Below w.heap.size w w' := by
  subst hG
  exact add_f F S n w h (hm.small hj) (argS_iff.2 ⟨⟨h0, h1⟩, hm.1⟩)
theorem del_may {j : Nat} {F G : Flt} (n : Int) (hG : delF n F = G) (S : Sl) (w : World) (h : FV w F S) (hm : May j F) (hj : j ≤ 1000) (h0 : 0 ≤ n) (h1 : n ≤ 4094) :
    Calls Try.prog 18 #[.agg (cellsF F S), .int .i64 n] w fun e w' => ∃ S', e = .returned (.tuple #[.agg (cellsF G S'), .int .i64 0]) ∧ OV w.heap.size w' G S' ∧ Below w.heap.size w w' := by
  subst hG
  exact del_f F S n w h (hm.small hj) (argS_iff.2 ⟨⟨h0, h1⟩, hm.1⟩)
theorem add_bad (F : Flt) (S : Sl) (n : Int) (w : World) (h : FV w F S) (ha : netsS F.vs = false) :
    Calls Try.prog 16 #[.agg (cellsF F S), .int .i64 n] w fun e w' => e = .returned (.tuple #[.agg zeroF, .int .i64 1]) ∧ Below w.heap.size w w' :=
  add_no F S n w h (by unfold argS; rw [ha, Bool.and_false])
theorem net_bd (a : Int) : 0 ≤ (bits BinOp.and IntKind.i64 a 65535).tmod 4095 ∧ (bits BinOp.and IntKind.i64 a 65535).tmod 4095 ≤ 4094 := by
  have e : bits BinOp.and IntKind.i64 a 65535 = a % 65536 := and_i64 a 16 (by decide)
  rw [e, Int.tmod_eq_emod_of_nonneg (by omega)]
  omega
end Go.Proofs.Ytnckogdplcijiaa.Fl
