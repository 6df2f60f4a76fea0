/- Commands and settings: contracts by hand, and the laws over them. -/
import Derived.Test.YtkgbhlcbjflnlaaZOwn
import Derived.Test.YtkgbhlcbjflnlaaZPl2
import Derived.Test.YtkgbhlcbjflnlaaZOwc
import Derived.Test.YtkgbhlcbjflnlaaZCm
import Derived.Deep.DeepCutAuto
import Derived.Deep.CutBlock
section
namespace Go.Proofs.Ytkgbhlcbjflnlaa.Fl
open Go Go.RowKit Go.Proofs.YtkgbhlcbjflnlaaW.PrintWords Go.Proofs.YtkgbhlcbjflnlaaW.PrintLast Go.Proofs.YtkgbhlcbjflnlaaW.PrintMore Go.Proofs.Ytkgbhlcbjflnlaa.Mth Go.Proofs.Ytkgbhlcbjflnlaa.P Go.Proofs.Ytkgbhlcbjflnlaa.Own Go.Proofs
set_option linter.unusedVariables false
set_option linter.unusedSimpArgs false
/-! ### ControlRules, plainly -/
end Go.Proofs.Ytkgbhlcbjflnlaa.Fl
end
section
/- Commands and settings: contracts by hand, and the laws over them. -/
namespace Go.Proofs.Ytkgbhlcbjflnlaa.Fl
open Go Go.RowKit Go.Proofs.YtkgbhlcbjflnlaaW.PrintWords Go.Proofs.YtkgbhlcbjflnlaaW.PrintLast Go.Proofs.YtkgbhlcbjflnlaaW.PrintMore Go.Proofs.Ytkgbhlcbjflnlaa.Mth Go.Proofs.Ytkgbhlcbjflnlaa.P Go.Proofs.Ytkgbhlcbjflnlaa.Own Go.Proofs
set_option linter.unusedVariables false
set_option linter.unusedSimpArgs false
/-! ### ControlRules -/
def lowT (m : Nat) (l : List Int) : List Nat := (l.take 130).map fun x => (x % (m : Int)).toNat
theorem lowT_len (m : Nat) (l : List Int) : (lowT m l).length = min l.length 130 := by unfold lowT; rw [List.length_map, List.length_take]; omega
theorem lowT_get (m : Nat) (hm : 0 < m) (l : List Int) (i : Nat) (h : i < (lowT m l).length) (h2 : i < l.length) : ((lowT m l)[i] : Int) = l[i] % (m : Int) := by
  have e : (lowT m l)[i] = (l[i] % (m : Int)).toNat := by simp [lowT]
  rw [e]
  have := Int.emod_nonneg l[i] (b := (m : Int)) (by omega)
  omega
theorem lowT_lt (m : Nat) (hm : 0 < m) (l : List Int) : ∀ q ∈ lowT m l, q < m := by
  intro q hq
  unfold lowT at hq
  rw [List.mem_map] at hq
  obtain ⟨x, _, rfl⟩ := hq
  have h0 := Int.emod_nonneg x (b := (m : Int)) (by omega)
  have h1 := Int.emod_lt_of_pos x (b := (m : Int)) (by omega)
  omega
theorem intsOf_snoc (l : List Nat) (i : Nat) (h : i < l.length) : intsOf (l.take (i + 1)) = intsOf (l.take i) ++ [((l[i] : Nat) : Int)] := by
  unfold intsOf
  rw [List.take_succ_eq_append_getElem h, List.map_append]
  rfl
theorem encs_snoc {α : Type} (enc : α → Value) (l : List α) (a : α) : encs enc (l ++ [a]) = encs enc l ++ [enc a] := by simp [encs]
theorem info3 : (Try.prog.info? 3).map (fun i => (i.zero, i.size, i.bytes)) = some (some (.int .i64 0), 1, 8) := by kernel_rfl
end Go.Proofs.Ytkgbhlcbjflnlaa.Fl
end
