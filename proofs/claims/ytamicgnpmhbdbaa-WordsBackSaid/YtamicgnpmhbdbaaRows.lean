/-
  No cell of these rows narrows 'for every input' (looked for: loops, veiled, ifaces, maps, wideKeys, modest, calm, conditions, laid).
  DERIVED. THE GIVEN ROWS OF THIS SEAT. 6 by the template 'for every input the law returns true; each argument reads behind the call as it read before'; 0 by the template 'total and deterministic' (their statements: YtamicgnpmhbdbaaTotals.lean).
  GIVEN WITH THE SEED: the statements are not yours to turn. If you find one false, say at which input.
  Laid BY PROGRAM, IN A SANDBOX (cutbox-rows.mjs): the forced cells as the released guide's own fill.sh prints them over the translation e551b6b3fc5e8eba… (all of the seat's roots in one cut). By AI agents, Wed Nov 11 2026. No macro, syntax, notation, axiom, sorry.
-/
import Derived.Test.YtamicgnpmhbdbaaChecked
import GoSem.Claim
import GoSem.ClaimJoined
import GoSem.ClaimMapViews
import Derived.JoinedTies
import Derived.KernelRfl
namespace Go.Proofs.Ytamicgnpmhbdbaa
/- THE CELL 'sum', in the pinned program and in every row, IS THE sha256 OF THE DUMP (.gsa) THAT YtamicgnpmhbdbaaProg.lean LOADS. Nothing in Lean hashes anything: it is a label: what it is worth is what the hold of that sum in a sandbox is worth. -/
noncomputable def Try.pinned : Pinned := { name := "ytamicgnpmhbdbaa", sum := "e551b6b3fc5e8ebad9af1767f3860c346b47606a3ed7f0875a0b8a129d42312c", checked := Try.checked }
namespace Rows
def none {H : Type} : Left H := { results := [], args := [] }

/-- 'aqueductlaw01.WordsGets': WHATEVER THE INPUT: true; the input reads as it did. -/
def wordsGetsSpec : ChangeSpec := { name := "wordsGets", fn := fun _ => fun
  | [d] => { results := [.lit (.bool true)], args := [d] }
  | _ => none }
def wordsGetsRow : OpenClaim := { program := "ytamicgnpmhbdbaa", sum := "e551b6b3fc5e8ebad9af1767f3860c346b47606a3ed7f0875a0b8a129d42312c", func := "aqueduct/aqueductlaw01.WordsGets", spec := "wordsGets", apart := false }
def WordsGetsSaid : Prop := wordsGetsRow.holds Try.pinned (OpenSpec.ofChange wordsGetsSpec)

/-- ITS FALSE NEIGHBOUR: 'it returns false'. Refute it at one input. -/
def wordsGetsWrong : ChangeSpec := { name := "wordsGets", fn := fun _ => fun
  | [d] => { results := [.lit (.bool false)], args := [d] }
  | _ => none }
def WordsGetsWrongFalsely : Prop := wordsGetsRow.holds Try.pinned (OpenSpec.ofChange wordsGetsWrong)

/-- 'aqueductlaw01.WordsSets': WHATEVER THE INPUT: true; the input reads as it did. -/
def wordsSetsSpec : ChangeSpec := { name := "wordsSets", fn := fun _ => fun
  | [d] => { results := [.lit (.bool true)], args := [d] }
  | _ => none }
def wordsSetsRow : OpenClaim := { program := "ytamicgnpmhbdbaa", sum := "e551b6b3fc5e8ebad9af1767f3860c346b47606a3ed7f0875a0b8a129d42312c", func := "aqueduct/aqueductlaw01.WordsSets", spec := "wordsSets", apart := false }
def WordsSetsSaid : Prop := wordsSetsRow.holds Try.pinned (OpenSpec.ofChange wordsSetsSpec)

/-- ITS FALSE NEIGHBOUR: 'it returns false'. Refute it at one input. -/
def wordsSetsWrong : ChangeSpec := { name := "wordsSets", fn := fun _ => fun
  | [d] => { results := [.lit (.bool false)], args := [d] }
  | _ => none }
def WordsSetsWrongFalsely : Prop := wordsSetsRow.holds Try.pinned (OpenSpec.ofChange wordsSetsWrong)

/-- 'aqueductlaw01.WordsBack': WHATEVER THE INPUT: true; the input reads as it did. -/
def wordsBackSpec : ChangeSpec := { name := "wordsBack", fn := fun _ => fun
  | [d] => { results := [.lit (.bool true)], args := [d] }
  | _ => none }
def wordsBackRow : OpenClaim := { program := "ytamicgnpmhbdbaa", sum := "e551b6b3fc5e8ebad9af1767f3860c346b47606a3ed7f0875a0b8a129d42312c", func := "aqueduct/aqueductlaw01.WordsBack", spec := "wordsBack", apart := false }
def WordsBackSaid : Prop := wordsBackRow.holds Try.pinned (OpenSpec.ofChange wordsBackSpec)

/-- ITS FALSE NEIGHBOUR: 'it returns false'. Refute it at one input. -/
def wordsBackWrong : ChangeSpec := { name := "wordsBack", fn := fun _ => fun
  | [d] => { results := [.lit (.bool false)], args := [d] }
  | _ => none }
def WordsBackWrongFalsely : Prop := wordsBackRow.holds Try.pinned (OpenSpec.ofChange wordsBackWrong)

/-- 'aqueductlaw01.WordsGrow': WHATEVER THE INPUT: true; the input reads as it did. -/
def wordsGrowSpec : ChangeSpec := { name := "wordsGrow", fn := fun _ => fun
  | [d1, d2] => { results := [.lit (.bool true)], args := [d1, d2] }
  | _ => none }
def wordsGrowRow : OpenClaim := { program := "ytamicgnpmhbdbaa", sum := "e551b6b3fc5e8ebad9af1767f3860c346b47606a3ed7f0875a0b8a129d42312c", func := "aqueduct/aqueductlaw01.WordsGrow", spec := "wordsGrow", apart := false }
def WordsGrowSaid : Prop := wordsGrowRow.holds Try.pinned (OpenSpec.ofChange wordsGrowSpec)

/-- ITS FALSE NEIGHBOUR: 'it returns false'. Refute it at one input. -/
def wordsGrowWrong : ChangeSpec := { name := "wordsGrow", fn := fun _ => fun
  | [d1, d2] => { results := [.lit (.bool false)], args := [d1, d2] }
  | _ => none }
def WordsGrowWrongFalsely : Prop := wordsGrowRow.holds Try.pinned (OpenSpec.ofChange wordsGrowWrong)

/-- 'aqueductlaw01.WordsParts': WHATEVER THE INPUT: true; the input reads as it did. -/
def wordsPartsSpec : ChangeSpec := { name := "wordsParts", fn := fun _ => fun
  | [d1, d2, d3] => { results := [.lit (.bool true)], args := [d1, d2, d3] }
  | _ => none }
def wordsPartsRow : OpenClaim := { program := "ytamicgnpmhbdbaa", sum := "e551b6b3fc5e8ebad9af1767f3860c346b47606a3ed7f0875a0b8a129d42312c", func := "aqueduct/aqueductlaw01.WordsParts", spec := "wordsParts", apart := false }
def WordsPartsSaid : Prop := wordsPartsRow.holds Try.pinned (OpenSpec.ofChange wordsPartsSpec)

/-- ITS FALSE NEIGHBOUR: 'it returns false'. Refute it at one input. -/
def wordsPartsWrong : ChangeSpec := { name := "wordsParts", fn := fun _ => fun
  | [d1, d2, d3] => { results := [.lit (.bool false)], args := [d1, d2, d3] }
  | _ => none }
def WordsPartsWrongFalsely : Prop := wordsPartsRow.holds Try.pinned (OpenSpec.ofChange wordsPartsWrong)

/-- 'aqueductlaw01.WordsApart': WHATEVER THE INPUT: true; the input reads as it did. -/
def wordsApartSpec : ChangeSpec := { name := "wordsApart", fn := fun _ => fun
  | [d1, d2, d3] => { results := [.lit (.bool true)], args := [d1, d2, d3] }
  | _ => none }
def wordsApartRow : OpenClaim := { program := "ytamicgnpmhbdbaa", sum := "e551b6b3fc5e8ebad9af1767f3860c346b47606a3ed7f0875a0b8a129d42312c", func := "aqueduct/aqueductlaw01.WordsApart", spec := "wordsApart", apart := false }
def WordsApartSaid : Prop := wordsApartRow.holds Try.pinned (OpenSpec.ofChange wordsApartSpec)

/-- ITS FALSE NEIGHBOUR: 'it returns false'. Refute it at one input. -/
def wordsApartWrong : ChangeSpec := { name := "wordsApart", fn := fun _ => fun
  | [d1, d2, d3] => { results := [.lit (.bool false)], args := [d1, d2, d3] }
  | _ => none }
def WordsApartWrongFalsely : Prop := wordsApartRow.holds Try.pinned (OpenSpec.ofChange wordsApartWrong)

/- THE SECOND FORM. 'bulk': how many values and letters a reading holds, each counted each time it is reached (what is shared counts as often as it is met; a slice's spare places count too). A statement '..UptoSaid' is the law's where the arguments, and the package variables that the reading takes, are together of bulk at most 1048576: NARROWER than '..Said'. Prove '..Said' where nothing that the law and all that it calls make is longer than what came in: it says more and counts as full. Else prove '..UptoSaid'. A law counts once. -/
mutual
def uptoBulk {H : Type} : DataW H → Nat
  | .lit (.string bytes) => bytes.length + 1
  | .lit _ => 1
  | .nil => 1
  | .ptr d => uptoBulk d + 1
  | .slice elems spare => uptoBulkAll elems + uptoBulkAll spare + 1
  | .agg parts => uptoBulkAll parts + 1
  | .iface _ d => uptoBulk d + 1
  | .map entries => uptoBulkEntries entries + 1
  | .held _ => 1
def uptoBulkAll {H : Type} : List (DataW H) → Nat
  | [] => 0
  | d :: r => uptoBulk d + uptoBulkAll r
def uptoBulkEntries {H : Type} : List (Lit × DataW H) → Nat
  | [] => 0
  | x :: r => uptoBulkEntry x + uptoBulkEntries r
def uptoBulkEntry {H : Type} : Lit × DataW H → Nat
  | (.string bytes, d) => bytes.length + uptoBulk d + 1
  | (_, d) => uptoBulk d + 1
 end
def uptoSmall : (H : Type) → List (DataW H) → Bool := fun _ ds => decide (uptoBulkAll ds ≤ 1048576)
def OpenSpec.upto (s : _root_.Go.ChangeSpec) : _root_.Go.OpenSpec := { _root_.Go.OpenSpec.ofChange s with cond := some uptoSmall }

/-- 'aqueductlaw01.WordsGets', WHERE WHAT IT READS IS OF BULK AT MOST 1048576: true; the input reads as it did. -/
def wordsGetsUptoRow : OpenClaim := { program := "ytamicgnpmhbdbaa", sum := "e551b6b3fc5e8ebad9af1767f3860c346b47606a3ed7f0875a0b8a129d42312c", func := "aqueduct/aqueductlaw01.WordsGets", spec := "wordsGets", apart := false, narrowed := true }
def WordsGetsUptoSaid : Prop := wordsGetsUptoRow.holds Try.pinned (OpenSpec.upto wordsGetsSpec)

/-- 'aqueductlaw01.WordsSets', WHERE WHAT IT READS IS OF BULK AT MOST 1048576: true; the input reads as it did. -/
def wordsSetsUptoRow : OpenClaim := { program := "ytamicgnpmhbdbaa", sum := "e551b6b3fc5e8ebad9af1767f3860c346b47606a3ed7f0875a0b8a129d42312c", func := "aqueduct/aqueductlaw01.WordsSets", spec := "wordsSets", apart := false, narrowed := true }
def WordsSetsUptoSaid : Prop := wordsSetsUptoRow.holds Try.pinned (OpenSpec.upto wordsSetsSpec)

/-- 'aqueductlaw01.WordsBack', WHERE WHAT IT READS IS OF BULK AT MOST 1048576: true; the input reads as it did. -/
def wordsBackUptoRow : OpenClaim := { program := "ytamicgnpmhbdbaa", sum := "e551b6b3fc5e8ebad9af1767f3860c346b47606a3ed7f0875a0b8a129d42312c", func := "aqueduct/aqueductlaw01.WordsBack", spec := "wordsBack", apart := false, narrowed := true }
def WordsBackUptoSaid : Prop := wordsBackUptoRow.holds Try.pinned (OpenSpec.upto wordsBackSpec)

/-- 'aqueductlaw01.WordsGrow', WHERE WHAT IT READS IS OF BULK AT MOST 1048576: true; the input reads as it did. -/
def wordsGrowUptoRow : OpenClaim := { program := "ytamicgnpmhbdbaa", sum := "e551b6b3fc5e8ebad9af1767f3860c346b47606a3ed7f0875a0b8a129d42312c", func := "aqueduct/aqueductlaw01.WordsGrow", spec := "wordsGrow", apart := false, narrowed := true }
def WordsGrowUptoSaid : Prop := wordsGrowUptoRow.holds Try.pinned (OpenSpec.upto wordsGrowSpec)

/-- 'aqueductlaw01.WordsParts', WHERE WHAT IT READS IS OF BULK AT MOST 1048576: true; the input reads as it did. -/
def wordsPartsUptoRow : OpenClaim := { program := "ytamicgnpmhbdbaa", sum := "e551b6b3fc5e8ebad9af1767f3860c346b47606a3ed7f0875a0b8a129d42312c", func := "aqueduct/aqueductlaw01.WordsParts", spec := "wordsParts", apart := false, narrowed := true }
def WordsPartsUptoSaid : Prop := wordsPartsUptoRow.holds Try.pinned (OpenSpec.upto wordsPartsSpec)

/-- 'aqueductlaw01.WordsApart', WHERE WHAT IT READS IS OF BULK AT MOST 1048576: true; the input reads as it did. -/
def wordsApartUptoRow : OpenClaim := { program := "ytamicgnpmhbdbaa", sum := "e551b6b3fc5e8ebad9af1767f3860c346b47606a3ed7f0875a0b8a129d42312c", func := "aqueduct/aqueductlaw01.WordsApart", spec := "wordsApart", apart := false, narrowed := true }
def WordsApartUptoSaid : Prop := wordsApartUptoRow.holds Try.pinned (OpenSpec.upto wordsApartSpec)

end Rows
end Go.Proofs.Ytamicgnpmhbdbaa
