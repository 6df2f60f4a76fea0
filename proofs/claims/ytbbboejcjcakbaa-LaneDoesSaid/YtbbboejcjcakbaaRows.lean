/-
  No cell of these rows narrows 'for every input' (looked for: loops, veiled, ifaces, maps, wideKeys, modest, calm, conditions, laid).
  DERIVED. THE GIVEN ROWS OF THIS SEAT. 4 by the template 'for every input the law returns true; each argument reads behind the call as it read before'; 0 by the template 'total and deterministic' (their statements: YtbbboejcjcakbaaTotals.lean).
  GIVEN WITH THE SEED: the statements are not yours to turn. If you find one false, say at which input.
  Laid BY PROGRAM, IN A SANDBOX (cutbox-rows.mjs): the forced cells as the released guide's own fill.sh prints them over the translation 70efff4949aec789… (all of the seat's roots in one cut). By AI agents, Wed Nov 11 2026. No macro, syntax, notation, axiom, sorry.
-/
import Derived.Test.YtbbboejcjcakbaaChecked
import GoSem.Claim
import GoSem.ClaimJoined
import GoSem.ClaimMapViews
import Derived.JoinedTies
import Derived.KernelRfl
namespace Go.Proofs.Ytbbboejcjcakbaa
/- THE CELL 'sum', in the pinned program and in every row, IS THE sha256 OF THE DUMP (.gsa) THAT YtbbboejcjcakbaaProg.lean LOADS. Nothing in Lean hashes anything: it is a label: what it is worth is what the hold of that sum in a sandbox is worth. -/
noncomputable def Try.pinned : Pinned := { name := "ytbbboejcjcakbaa", sum := "70efff4949aec789abea36ae27309d5d0e4437b4e45a1fa76d3f608f0223b777", checked := Try.checked }
namespace Rows
def none {H : Type} : Left H := { results := [], args := [] }

/-- 'aqueductlaw19.LaneNews': WHATEVER THE INPUT: true; the input reads as it did. -/
def laneNewsSpec : ChangeSpec := { name := "laneNews", fn := fun _ => fun
  | [d] => { results := [.lit (.bool true)], args := [d] }
  | _ => none }
def laneNewsRow : OpenClaim := { program := "ytbbboejcjcakbaa", sum := "70efff4949aec789abea36ae27309d5d0e4437b4e45a1fa76d3f608f0223b777", func := "aqueduct/aqueductlaw19.LaneNews", spec := "laneNews", apart := false }
def LaneNewsSaid : Prop := laneNewsRow.holds Try.pinned (OpenSpec.ofChange laneNewsSpec)

/-- ITS FALSE NEIGHBOUR: 'it returns false'. Refute it at one input. -/
def laneNewsWrong : ChangeSpec := { name := "laneNews", fn := fun _ => fun
  | [d] => { results := [.lit (.bool false)], args := [d] }
  | _ => none }
def LaneNewsWrongFalsely : Prop := laneNewsRow.holds Try.pinned (OpenSpec.ofChange laneNewsWrong)

/-- 'aqueductlaw19.LaneOrder': WHATEVER THE INPUT: true; the input reads as it did. -/
def laneOrderSpec : ChangeSpec := { name := "laneOrder", fn := fun _ => fun
  | [d1, d2] => { results := [.lit (.bool true)], args := [d1, d2] }
  | _ => none }
def laneOrderRow : OpenClaim := { program := "ytbbboejcjcakbaa", sum := "70efff4949aec789abea36ae27309d5d0e4437b4e45a1fa76d3f608f0223b777", func := "aqueduct/aqueductlaw19.LaneOrder", spec := "laneOrder", apart := false }
def LaneOrderSaid : Prop := laneOrderRow.holds Try.pinned (OpenSpec.ofChange laneOrderSpec)

/-- ITS FALSE NEIGHBOUR: 'it returns false'. Refute it at one input. -/
def laneOrderWrong : ChangeSpec := { name := "laneOrder", fn := fun _ => fun
  | [d1, d2] => { results := [.lit (.bool false)], args := [d1, d2] }
  | _ => none }
def LaneOrderWrongFalsely : Prop := laneOrderRow.holds Try.pinned (OpenSpec.ofChange laneOrderWrong)

/-- 'aqueductlaw19.LaneAll': WHATEVER THE INPUT: true; the input reads as it did. -/
def laneAllSpec : ChangeSpec := { name := "laneAll", fn := fun _ => fun
  | [d1, d2] => { results := [.lit (.bool true)], args := [d1, d2] }
  | _ => none }
def laneAllRow : OpenClaim := { program := "ytbbboejcjcakbaa", sum := "70efff4949aec789abea36ae27309d5d0e4437b4e45a1fa76d3f608f0223b777", func := "aqueduct/aqueductlaw19.LaneAll", spec := "laneAll", apart := false }
def LaneAllSaid : Prop := laneAllRow.holds Try.pinned (OpenSpec.ofChange laneAllSpec)

/-- ITS FALSE NEIGHBOUR: 'it returns false'. Refute it at one input. -/
def laneAllWrong : ChangeSpec := { name := "laneAll", fn := fun _ => fun
  | [d1, d2] => { results := [.lit (.bool false)], args := [d1, d2] }
  | _ => none }
def LaneAllWrongFalsely : Prop := laneAllRow.holds Try.pinned (OpenSpec.ofChange laneAllWrong)

/-- 'aqueductlaw19.LaneDoes': WHATEVER THE INPUT: true; the input reads as it did. -/
def laneDoesSpec : ChangeSpec := { name := "laneDoes", fn := fun _ => fun
  | [d1, d2] => { results := [.lit (.bool true)], args := [d1, d2] }
  | _ => none }
def laneDoesRow : OpenClaim := { program := "ytbbboejcjcakbaa", sum := "70efff4949aec789abea36ae27309d5d0e4437b4e45a1fa76d3f608f0223b777", func := "aqueduct/aqueductlaw19.LaneDoes", spec := "laneDoes", apart := false }
def LaneDoesSaid : Prop := laneDoesRow.holds Try.pinned (OpenSpec.ofChange laneDoesSpec)

/-- ITS FALSE NEIGHBOUR: 'it returns false'. Refute it at one input. -/
def laneDoesWrong : ChangeSpec := { name := "laneDoes", fn := fun _ => fun
  | [d1, d2] => { results := [.lit (.bool false)], args := [d1, d2] }
  | _ => none }
def LaneDoesWrongFalsely : Prop := laneDoesRow.holds Try.pinned (OpenSpec.ofChange laneDoesWrong)

/- THE SECOND FORM. 'bulk': how many values and letters a reading holds, each counted each time it is reached (what is shared counts as often as it is met; a slice's spare places count too). A statement '..UptoSaid' is the law's where the arguments, and the package variables that the reading takes, are together of bulk at most 1048576: NARROWER than '..Said'. Prove '..Said' where nothing that the law and all that it calls make is longer than what came in: it says more and counts as full. Else prove '..UptoSaid'. A law counts once. -/
mutual
def uptoBulk {H : Type} : DataW H → Nat
  | .lit (.string bytes) => bytes.length + 1
  | .lit _ => 1
  | .nil => 1
  | .ptr d => uptoBulk d + 1
  | .slice elems spare => uptoBulkAll elems + uptoBulkAll spare + 1
  | .agg parts => uptoBulkAll parts + 1
  | .iface _ d => uptoBulk d + 1
  | .map entries => uptoBulkEntries entries + 1
  | .held _ => 1
def uptoBulkAll {H : Type} : List (DataW H) → Nat
  | [] => 0
  | d :: r => uptoBulk d + uptoBulkAll r
def uptoBulkEntries {H : Type} : List (Lit × DataW H) → Nat
  | [] => 0
  | x :: r => uptoBulkEntry x + uptoBulkEntries r
def uptoBulkEntry {H : Type} : Lit × DataW H → Nat
  | (.string bytes, d) => bytes.length + uptoBulk d + 1
  | (_, d) => uptoBulk d + 1
 end
def uptoSmall : (H : Type) → List (DataW H) → Bool := fun _ ds => decide (uptoBulkAll ds ≤ 1048576)
def OpenSpec.upto (s : _root_.Go.ChangeSpec) : _root_.Go.OpenSpec := { _root_.Go.OpenSpec.ofChange s with cond := some uptoSmall }

/-- 'aqueductlaw19.LaneNews', WHERE WHAT IT READS IS OF BULK AT MOST 1048576: true; the input reads as it did. -/
def laneNewsUptoRow : OpenClaim := { program := "ytbbboejcjcakbaa", sum := "70efff4949aec789abea36ae27309d5d0e4437b4e45a1fa76d3f608f0223b777", func := "aqueduct/aqueductlaw19.LaneNews", spec := "laneNews", apart := false, narrowed := true }
def LaneNewsUptoSaid : Prop := laneNewsUptoRow.holds Try.pinned (OpenSpec.upto laneNewsSpec)

/-- 'aqueductlaw19.LaneOrder', WHERE WHAT IT READS IS OF BULK AT MOST 1048576: true; the input reads as it did. -/
def laneOrderUptoRow : OpenClaim := { program := "ytbbboejcjcakbaa", sum := "70efff4949aec789abea36ae27309d5d0e4437b4e45a1fa76d3f608f0223b777", func := "aqueduct/aqueductlaw19.LaneOrder", spec := "laneOrder", apart := false, narrowed := true }
def LaneOrderUptoSaid : Prop := laneOrderUptoRow.holds Try.pinned (OpenSpec.upto laneOrderSpec)

/-- 'aqueductlaw19.LaneAll', WHERE WHAT IT READS IS OF BULK AT MOST 1048576: true; the input reads as it did. -/
def laneAllUptoRow : OpenClaim := { program := "ytbbboejcjcakbaa", sum := "70efff4949aec789abea36ae27309d5d0e4437b4e45a1fa76d3f608f0223b777", func := "aqueduct/aqueductlaw19.LaneAll", spec := "laneAll", apart := false, narrowed := true }
def LaneAllUptoSaid : Prop := laneAllUptoRow.holds Try.pinned (OpenSpec.upto laneAllSpec)

/-- 'aqueductlaw19.LaneDoes', WHERE WHAT IT READS IS OF BULK AT MOST 1048576: true; the input reads as it did. -/
def laneDoesUptoRow : OpenClaim := { program := "ytbbboejcjcakbaa", sum := "70efff4949aec789abea36ae27309d5d0e4437b4e45a1fa76d3f608f0223b777", func := "aqueduct/aqueductlaw19.LaneDoes", spec := "laneDoes", apart := false, narrowed := true }
def LaneDoesUptoSaid : Prop := laneDoesUptoRow.holds Try.pinned (OpenSpec.upto laneDoesSpec)

end Rows
end Go.Proofs.Ytbbboejcjcakbaa
