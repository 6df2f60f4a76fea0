/-
  No cell of these rows narrows 'for every input' (looked for: loops, veiled, ifaces, maps, wideKeys, modest, calm, conditions, laid).
  DERIVED. THE GIVEN ROWS OF THIS SEAT. 6 by the template 'for every input the law returns true; each argument reads behind the call as it read before'; 0 by the template 'total and deterministic' (their statements: YtllpfadjdecjiaaTotals.lean).
  GIVEN WITH THE SEED: the statements are not yours to turn. If you find one false, say at which input.
  Laid BY PROGRAM, IN A SANDBOX (cutbox-rows.mjs): the forced cells as the released guide's own fill.sh prints them over the translation 991d8207013d944b… (all of the seat's roots in one cut). By AI agents, Wed Nov 11 2026. No macro, syntax, notation, axiom, sorry.
-/
import Derived.Test.YtllpfadjdecjiaaChecked
import GoSem.Claim
import GoSem.ClaimJoined
import GoSem.ClaimMapViews
import Derived.JoinedTies
import Derived.KernelRfl
namespace Go.Proofs.Ytllpfadjdecjiaa
/- THE CELL 'sum', in the pinned program and in every row, IS THE sha256 OF THE DUMP (.gsa) THAT YtllpfadjdecjiaaProg.lean LOADS. Nothing in Lean hashes anything: it is a label: what it is worth is what the hold of that sum in a sandbox is worth. -/
noncomputable def Try.pinned : Pinned := { name := "ytllpfadjdecjiaa", sum := "991d8207013d944b1bee22721442e05c46ee61a809f0a8b266ab97701e4436b2", checked := Try.checked }
namespace Rows
def none {H : Type} : Left H := { results := [], args := [] }

/-- 'aqueductlaw04.MemParts': WHATEVER THE INPUT: true; the input reads as it did. -/
def memPartsSpec : ChangeSpec := { name := "memParts", fn := fun _ => fun
  | [d] => { results := [.lit (.bool true)], args := [d] }
  | _ => none }
def memPartsRow : OpenClaim := { program := "ytllpfadjdecjiaa", sum := "991d8207013d944b1bee22721442e05c46ee61a809f0a8b266ab97701e4436b2", func := "aqueduct/aqueductlaw04.MemParts", spec := "memParts", apart := false }
def MemPartsSaid : Prop := memPartsRow.holds Try.pinned (OpenSpec.ofChange memPartsSpec)

/-- ITS FALSE NEIGHBOUR: 'it returns false'. Refute it at one input. -/
def memPartsWrong : ChangeSpec := { name := "memParts", fn := fun _ => fun
  | [d] => { results := [.lit (.bool false)], args := [d] }
  | _ => none }
def MemPartsWrongFalsely : Prop := memPartsRow.holds Try.pinned (OpenSpec.ofChange memPartsWrong)

/-- 'aqueductlaw04.MemNews': WHATEVER THE INPUT: true; the input reads as it did. -/
def memNewsSpec : ChangeSpec := { name := "memNews", fn := fun _ => fun
  | [d] => { results := [.lit (.bool true)], args := [d] }
  | _ => none }
def memNewsRow : OpenClaim := { program := "ytllpfadjdecjiaa", sum := "991d8207013d944b1bee22721442e05c46ee61a809f0a8b266ab97701e4436b2", func := "aqueduct/aqueductlaw04.MemNews", spec := "memNews", apart := false }
def MemNewsSaid : Prop := memNewsRow.holds Try.pinned (OpenSpec.ofChange memNewsSpec)

/-- ITS FALSE NEIGHBOUR: 'it returns false'. Refute it at one input. -/
def memNewsWrong : ChangeSpec := { name := "memNews", fn := fun _ => fun
  | [d] => { results := [.lit (.bool false)], args := [d] }
  | _ => none }
def MemNewsWrongFalsely : Prop := memNewsRow.holds Try.pinned (OpenSpec.ofChange memNewsWrong)

/-- 'aqueductlaw04.MemBack': WHATEVER THE INPUT: true; the input reads as it did. -/
def memBackSpec : ChangeSpec := { name := "memBack", fn := fun _ => fun
  | [d1, d2] => { results := [.lit (.bool true)], args := [d1, d2] }
  | _ => none }
def memBackRow : OpenClaim := { program := "ytllpfadjdecjiaa", sum := "991d8207013d944b1bee22721442e05c46ee61a809f0a8b266ab97701e4436b2", func := "aqueduct/aqueductlaw04.MemBack", spec := "memBack", apart := false }
def MemBackSaid : Prop := memBackRow.holds Try.pinned (OpenSpec.ofChange memBackSpec)

/-- ITS FALSE NEIGHBOUR: 'it returns false'. Refute it at one input. -/
def memBackWrong : ChangeSpec := { name := "memBack", fn := fun _ => fun
  | [d1, d2] => { results := [.lit (.bool false)], args := [d1, d2] }
  | _ => none }
def MemBackWrongFalsely : Prop := memBackRow.holds Try.pinned (OpenSpec.ofChange memBackWrong)

/-- 'aqueductlaw04.MemNumbers': WHATEVER THE INPUT: true; the input reads as it did. -/
def memNumbersSpec : ChangeSpec := { name := "memNumbers", fn := fun _ => fun
  | [d1, d2, d3] => { results := [.lit (.bool true)], args := [d1, d2, d3] }
  | _ => none }
def memNumbersRow : OpenClaim := { program := "ytllpfadjdecjiaa", sum := "991d8207013d944b1bee22721442e05c46ee61a809f0a8b266ab97701e4436b2", func := "aqueduct/aqueductlaw04.MemNumbers", spec := "memNumbers", apart := false }
def MemNumbersSaid : Prop := memNumbersRow.holds Try.pinned (OpenSpec.ofChange memNumbersSpec)

/-- ITS FALSE NEIGHBOUR: 'it returns false'. Refute it at one input. -/
def memNumbersWrong : ChangeSpec := { name := "memNumbers", fn := fun _ => fun
  | [d1, d2, d3] => { results := [.lit (.bool false)], args := [d1, d2, d3] }
  | _ => none }
def MemNumbersWrongFalsely : Prop := memNumbersRow.holds Try.pinned (OpenSpec.ofChange memNumbersWrong)

/-- 'aqueductlaw04.MemApart': WHATEVER THE INPUT: true; the input reads as it did. -/
def memApartSpec : ChangeSpec := { name := "memApart", fn := fun _ => fun
  | [d1, d2] => { results := [.lit (.bool true)], args := [d1, d2] }
  | _ => none }
def memApartRow : OpenClaim := { program := "ytllpfadjdecjiaa", sum := "991d8207013d944b1bee22721442e05c46ee61a809f0a8b266ab97701e4436b2", func := "aqueduct/aqueductlaw04.MemApart", spec := "memApart", apart := false }
def MemApartSaid : Prop := memApartRow.holds Try.pinned (OpenSpec.ofChange memApartSpec)

/-- ITS FALSE NEIGHBOUR: 'it returns false'. Refute it at one input. -/
def memApartWrong : ChangeSpec := { name := "memApart", fn := fun _ => fun
  | [d1, d2] => { results := [.lit (.bool false)], args := [d1, d2] }
  | _ => none }
def MemApartWrongFalsely : Prop := memApartRow.holds Try.pinned (OpenSpec.ofChange memApartWrong)

/-- 'aqueductlaw04.MemLogs': WHATEVER THE INPUT: true; the input reads as it did. -/
def memLogsSpec : ChangeSpec := { name := "memLogs", fn := fun _ => fun
  | [d1, d2] => { results := [.lit (.bool true)], args := [d1, d2] }
  | _ => none }
def memLogsRow : OpenClaim := { program := "ytllpfadjdecjiaa", sum := "991d8207013d944b1bee22721442e05c46ee61a809f0a8b266ab97701e4436b2", func := "aqueduct/aqueductlaw04.MemLogs", spec := "memLogs", apart := false }
def MemLogsSaid : Prop := memLogsRow.holds Try.pinned (OpenSpec.ofChange memLogsSpec)

/-- ITS FALSE NEIGHBOUR: 'it returns false'. Refute it at one input. -/
def memLogsWrong : ChangeSpec := { name := "memLogs", fn := fun _ => fun
  | [d1, d2] => { results := [.lit (.bool false)], args := [d1, d2] }
  | _ => none }
def MemLogsWrongFalsely : Prop := memLogsRow.holds Try.pinned (OpenSpec.ofChange memLogsWrong)

/- THE SECOND FORM. 'bulk': how many values and letters a reading holds, each counted each time it is reached (what is shared counts as often as it is met; a slice's spare places count too). A statement '..UptoSaid' is the law's where the arguments, and the package variables that the reading takes, are together of bulk at most 1048576: NARROWER than '..Said'. Prove '..Said' where nothing that the law and all that it calls make is longer than what came in: it says more and counts as full. Else prove '..UptoSaid'. A law counts once. -/
mutual
def uptoBulk {H : Type} : DataW H → Nat
  | .lit (.string bytes) => bytes.length + 1
  | .lit _ => 1
  | .nil => 1
  | .ptr d => uptoBulk d + 1
  | .slice elems spare => uptoBulkAll elems + uptoBulkAll spare + 1
  | .agg parts => uptoBulkAll parts + 1
  | .iface _ d => uptoBulk d + 1
  | .map entries => uptoBulkEntries entries + 1
  | .held _ => 1
def uptoBulkAll {H : Type} : List (DataW H) → Nat
  | [] => 0
  | d :: r => uptoBulk d + uptoBulkAll r
def uptoBulkEntries {H : Type} : List (Lit × DataW H) → Nat
  | [] => 0
  | x :: r => uptoBulkEntry x + uptoBulkEntries r
def uptoBulkEntry {H : Type} : Lit × DataW H → Nat
  | (.string bytes, d) => bytes.length + uptoBulk d + 1
  | (_, d) => uptoBulk d + 1
 end
def uptoSmall : (H : Type) → List (DataW H) → Bool := fun _ ds => decide (uptoBulkAll ds ≤ 1048576)
def OpenSpec.upto (s : _root_.Go.ChangeSpec) : _root_.Go.OpenSpec := { _root_.Go.OpenSpec.ofChange s with cond := some uptoSmall }

/-- 'aqueductlaw04.MemParts', WHERE WHAT IT READS IS OF BULK AT MOST 1048576: true; the input reads as it did. -/
def memPartsUptoRow : OpenClaim := { program := "ytllpfadjdecjiaa", sum := "991d8207013d944b1bee22721442e05c46ee61a809f0a8b266ab97701e4436b2", func := "aqueduct/aqueductlaw04.MemParts", spec := "memParts", apart := false, narrowed := true }
def MemPartsUptoSaid : Prop := memPartsUptoRow.holds Try.pinned (OpenSpec.upto memPartsSpec)

/-- 'aqueductlaw04.MemNews', WHERE WHAT IT READS IS OF BULK AT MOST 1048576: true; the input reads as it did. -/
def memNewsUptoRow : OpenClaim := { program := "ytllpfadjdecjiaa", sum := "991d8207013d944b1bee22721442e05c46ee61a809f0a8b266ab97701e4436b2", func := "aqueduct/aqueductlaw04.MemNews", spec := "memNews", apart := false, narrowed := true }
def MemNewsUptoSaid : Prop := memNewsUptoRow.holds Try.pinned (OpenSpec.upto memNewsSpec)

/-- 'aqueductlaw04.MemBack', WHERE WHAT IT READS IS OF BULK AT MOST 1048576: true; the input reads as it did. -/
def memBackUptoRow : OpenClaim := { program := "ytllpfadjdecjiaa", sum := "991d8207013d944b1bee22721442e05c46ee61a809f0a8b266ab97701e4436b2", func := "aqueduct/aqueductlaw04.MemBack", spec := "memBack", apart := false, narrowed := true }
def MemBackUptoSaid : Prop := memBackUptoRow.holds Try.pinned (OpenSpec.upto memBackSpec)

/-- 'aqueductlaw04.MemNumbers', WHERE WHAT IT READS IS OF BULK AT MOST 1048576: true; the input reads as it did. -/
def memNumbersUptoRow : OpenClaim := { program := "ytllpfadjdecjiaa", sum := "991d8207013d944b1bee22721442e05c46ee61a809f0a8b266ab97701e4436b2", func := "aqueduct/aqueductlaw04.MemNumbers", spec := "memNumbers", apart := false, narrowed := true }
def MemNumbersUptoSaid : Prop := memNumbersUptoRow.holds Try.pinned (OpenSpec.upto memNumbersSpec)

/-- 'aqueductlaw04.MemApart', WHERE WHAT IT READS IS OF BULK AT MOST 1048576: true; the input reads as it did. -/
def memApartUptoRow : OpenClaim := { program := "ytllpfadjdecjiaa", sum := "991d8207013d944b1bee22721442e05c46ee61a809f0a8b266ab97701e4436b2", func := "aqueduct/aqueductlaw04.MemApart", spec := "memApart", apart := false, narrowed := true }
def MemApartUptoSaid : Prop := memApartUptoRow.holds Try.pinned (OpenSpec.upto memApartSpec)

/-- 'aqueductlaw04.MemLogs', WHERE WHAT IT READS IS OF BULK AT MOST 1048576: true; the input reads as it did. -/
def memLogsUptoRow : OpenClaim := { program := "ytllpfadjdecjiaa", sum := "991d8207013d944b1bee22721442e05c46ee61a809f0a8b266ab97701e4436b2", func := "aqueduct/aqueductlaw04.MemLogs", spec := "memLogs", apart := false, narrowed := true }
def MemLogsUptoSaid : Prop := memLogsUptoRow.holds Try.pinned (OpenSpec.upto memLogsSpec)

end Rows
end Go.Proofs.Ytllpfadjdecjiaa
