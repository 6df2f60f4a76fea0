/-
  No cell of these rows narrows 'for every input' (looked for: loops, veiled, ifaces, maps, wideKeys, modest, calm, conditions, laid).
  DERIVED. THE GIVEN ROWS OF THIS SEAT. 7 by the template 'for every input the law returns true; each argument reads behind the call as it read before'; 0 by the template 'total and deterministic' (their statements: YtbecpkkhpjigbaaTotals.lean).
  GIVEN WITH THE SEED: the statements are not yours to turn. If you find one false, say at which input.
  Laid BY PROGRAM, IN A SANDBOX (cutbox-rows.mjs): the forced cells as the released guide's own fill.sh prints them over the translation 3dc601852e5abdbe… (all of the seat's roots in one cut). By AI agents, Wed Nov 11 2026. No macro, syntax, notation, axiom, sorry.
-/
import Derived.Test.YtbecpkkhpjigbaaChecked
import GoSem.Claim
import GoSem.ClaimJoined
import GoSem.ClaimMapViews
import Derived.JoinedTies
import Derived.KernelRfl
namespace Go.Proofs.Ytbecpkkhpjigbaa
/- THE CELL 'sum', in the pinned program and in every row, IS THE sha256 OF THE DUMP (.gsa) THAT YtbecpkkhpjigbaaProg.lean LOADS. Nothing in Lean hashes anything: it is a label: what it is worth is what the hold of that sum in a sandbox is worth. -/
noncomputable def Try.pinned : Pinned := { name := "ytbecpkkhpjigbaa", sum := "3dc601852e5abdbec2563d3b0e1afc18e42dba800fa824d0e60ffee5064ac9dc", checked := Try.checked }
namespace Rows
def none {H : Type} : Left H := { results := [], args := [] }

/-- 'aqueductlaw06.EthParses': WHATEVER THE INPUT: true; the input reads as it did. -/
def ethParsesSpec : ChangeSpec := { name := "ethParses", fn := fun _ => fun
  | [d] => { results := [.lit (.bool true)], args := [d] }
  | _ => none }
def ethParsesRow : OpenClaim := { program := "ytbecpkkhpjigbaa", sum := "3dc601852e5abdbec2563d3b0e1afc18e42dba800fa824d0e60ffee5064ac9dc", func := "aqueduct/aqueductlaw06.EthParses", spec := "ethParses", unfollowed := true, recurses := true, apart := false }
def EthParsesSaid : Prop := ethParsesRow.holds Try.pinned (OpenSpec.ofChange ethParsesSpec)

/-- ITS FALSE NEIGHBOUR: 'it returns false'. Refute it at one input. -/
def ethParsesWrong : ChangeSpec := { name := "ethParses", fn := fun _ => fun
  | [d] => { results := [.lit (.bool false)], args := [d] }
  | _ => none }
def EthParsesWrongFalsely : Prop := ethParsesRow.holds Try.pinned (OpenSpec.ofChange ethParsesWrong)

/-- 'aqueductlaw06.EthBuilds': WHATEVER THE INPUT: true; the input reads as it did. -/
def ethBuildsSpec : ChangeSpec := { name := "ethBuilds", fn := fun _ => fun
  | [d] => { results := [.lit (.bool true)], args := [d] }
  | _ => none }
def ethBuildsRow : OpenClaim := { program := "ytbecpkkhpjigbaa", sum := "3dc601852e5abdbec2563d3b0e1afc18e42dba800fa824d0e60ffee5064ac9dc", func := "aqueduct/aqueductlaw06.EthBuilds", spec := "ethBuilds", unfollowed := true, recurses := true, apart := false }
def EthBuildsSaid : Prop := ethBuildsRow.holds Try.pinned (OpenSpec.ofChange ethBuildsSpec)

/-- ITS FALSE NEIGHBOUR: 'it returns false'. Refute it at one input. -/
def ethBuildsWrong : ChangeSpec := { name := "ethBuilds", fn := fun _ => fun
  | [d] => { results := [.lit (.bool false)], args := [d] }
  | _ => none }
def EthBuildsWrongFalsely : Prop := ethBuildsRow.holds Try.pinned (OpenSpec.ofChange ethBuildsWrong)

/-- 'aqueductlaw06.EthTags': WHATEVER THE INPUT: true; the input reads as it did. -/
def ethTagsSpec : ChangeSpec := { name := "ethTags", fn := fun _ => fun
  | [d1, d2] => { results := [.lit (.bool true)], args := [d1, d2] }
  | _ => none }
def ethTagsRow : OpenClaim := { program := "ytbecpkkhpjigbaa", sum := "3dc601852e5abdbec2563d3b0e1afc18e42dba800fa824d0e60ffee5064ac9dc", func := "aqueduct/aqueductlaw06.EthTags", spec := "ethTags", unfollowed := true, recurses := true, apart := false }
def EthTagsSaid : Prop := ethTagsRow.holds Try.pinned (OpenSpec.ofChange ethTagsSpec)

/-- ITS FALSE NEIGHBOUR: 'it returns false'. Refute it at one input. -/
def ethTagsWrong : ChangeSpec := { name := "ethTags", fn := fun _ => fun
  | [d1, d2] => { results := [.lit (.bool false)], args := [d1, d2] }
  | _ => none }
def EthTagsWrongFalsely : Prop := ethTagsRow.holds Try.pinned (OpenSpec.ofChange ethTagsWrong)

/-- 'aqueductlaw06.EthBack': WHATEVER THE INPUT: true; the input reads as it did. -/
def ethBackSpec : ChangeSpec := { name := "ethBack", fn := fun _ => fun
  | [d1, d2, d3] => { results := [.lit (.bool true)], args := [d1, d2, d3] }
  | _ => none }
def ethBackRow : OpenClaim := { program := "ytbecpkkhpjigbaa", sum := "3dc601852e5abdbec2563d3b0e1afc18e42dba800fa824d0e60ffee5064ac9dc", func := "aqueduct/aqueductlaw06.EthBack", spec := "ethBack", unfollowed := true, recurses := true, apart := false }
def EthBackSaid : Prop := ethBackRow.holds Try.pinned (OpenSpec.ofChange ethBackSpec)

/-- ITS FALSE NEIGHBOUR: 'it returns false'. Refute it at one input. -/
def ethBackWrong : ChangeSpec := { name := "ethBack", fn := fun _ => fun
  | [d1, d2, d3] => { results := [.lit (.bool false)], args := [d1, d2, d3] }
  | _ => none }
def EthBackWrongFalsely : Prop := ethBackRow.holds Try.pinned (OpenSpec.ofChange ethBackWrong)

/-- 'aqueductlaw06.EthOnly': WHATEVER THE INPUT: true; the input reads as it did. -/
def ethOnlySpec : ChangeSpec := { name := "ethOnly", fn := fun _ => fun
  | [d1, d2] => { results := [.lit (.bool true)], args := [d1, d2] }
  | _ => none }
def ethOnlyRow : OpenClaim := { program := "ytbecpkkhpjigbaa", sum := "3dc601852e5abdbec2563d3b0e1afc18e42dba800fa824d0e60ffee5064ac9dc", func := "aqueduct/aqueductlaw06.EthOnly", spec := "ethOnly", unfollowed := true, recurses := true, apart := false }
def EthOnlySaid : Prop := ethOnlyRow.holds Try.pinned (OpenSpec.ofChange ethOnlySpec)

/-- ITS FALSE NEIGHBOUR: 'it returns false'. Refute it at one input. -/
def ethOnlyWrong : ChangeSpec := { name := "ethOnly", fn := fun _ => fun
  | [d1, d2] => { results := [.lit (.bool false)], args := [d1, d2] }
  | _ => none }
def EthOnlyWrongFalsely : Prop := ethOnlyRow.holds Try.pinned (OpenSpec.ofChange ethOnlyWrong)

/-- 'aqueductlaw06.EthLengths': WHATEVER THE INPUT: true; the input reads as it did. -/
def ethLengthsSpec : ChangeSpec := { name := "ethLengths", fn := fun _ => fun
  | [d] => { results := [.lit (.bool true)], args := [d] }
  | _ => none }
def ethLengthsRow : OpenClaim := { program := "ytbecpkkhpjigbaa", sum := "3dc601852e5abdbec2563d3b0e1afc18e42dba800fa824d0e60ffee5064ac9dc", func := "aqueduct/aqueductlaw06.EthLengths", spec := "ethLengths", unfollowed := true, recurses := true, apart := false }
def EthLengthsSaid : Prop := ethLengthsRow.holds Try.pinned (OpenSpec.ofChange ethLengthsSpec)

/-- ITS FALSE NEIGHBOUR: 'it returns false'. Refute it at one input. -/
def ethLengthsWrong : ChangeSpec := { name := "ethLengths", fn := fun _ => fun
  | [d] => { results := [.lit (.bool false)], args := [d] }
  | _ => none }
def EthLengthsWrongFalsely : Prop := ethLengthsRow.holds Try.pinned (OpenSpec.ofChange ethLengthsWrong)

/-- 'aqueductlaw06.EthTwo': WHATEVER THE INPUT: true; the input reads as it did. -/
def ethTwoSpec : ChangeSpec := { name := "ethTwo", fn := fun _ => fun
  | [d1, d2, d3] => { results := [.lit (.bool true)], args := [d1, d2, d3] }
  | _ => none }
def ethTwoRow : OpenClaim := { program := "ytbecpkkhpjigbaa", sum := "3dc601852e5abdbec2563d3b0e1afc18e42dba800fa824d0e60ffee5064ac9dc", func := "aqueduct/aqueductlaw06.EthTwo", spec := "ethTwo", unfollowed := true, recurses := true, apart := false }
def EthTwoSaid : Prop := ethTwoRow.holds Try.pinned (OpenSpec.ofChange ethTwoSpec)

/-- ITS FALSE NEIGHBOUR: 'it returns false'. Refute it at one input. -/
def ethTwoWrong : ChangeSpec := { name := "ethTwo", fn := fun _ => fun
  | [d1, d2, d3] => { results := [.lit (.bool false)], args := [d1, d2, d3] }
  | _ => none }
def EthTwoWrongFalsely : Prop := ethTwoRow.holds Try.pinned (OpenSpec.ofChange ethTwoWrong)

/- THE SECOND FORM. 'bulk': how many values and letters a reading holds, each counted each time it is reached (what is shared counts as often as it is met; a slice's spare places count too). A statement '..UptoSaid' is the law's where the arguments, and the package variables that the reading takes, are together of bulk at most 1048576: NARROWER than '..Said'. Prove '..Said' where nothing that the law and all that it calls make is longer than what came in: it says more and counts as full. Else prove '..UptoSaid'. A law counts once. -/
mutual
def uptoBulk {H : Type} : DataW H → Nat
  | .lit (.string bytes) => bytes.length + 1
  | .lit _ => 1
  | .nil => 1
  | .ptr d => uptoBulk d + 1
  | .slice elems spare => uptoBulkAll elems + uptoBulkAll spare + 1
  | .agg parts => uptoBulkAll parts + 1
  | .iface _ d => uptoBulk d + 1
  | .map entries => uptoBulkEntries entries + 1
  | .held _ => 1
def uptoBulkAll {H : Type} : List (DataW H) → Nat
  | [] => 0
  | d :: r => uptoBulk d + uptoBulkAll r
def uptoBulkEntries {H : Type} : List (Lit × DataW H) → Nat
  | [] => 0
  | x :: r => uptoBulkEntry x + uptoBulkEntries r
def uptoBulkEntry {H : Type} : Lit × DataW H → Nat
  | (.string bytes, d) => bytes.length + uptoBulk d + 1
  | (_, d) => uptoBulk d + 1
 end
def uptoSmall : (H : Type) → List (DataW H) → Bool := fun _ ds => decide (uptoBulkAll ds ≤ 1048576)
def OpenSpec.upto (s : _root_.Go.ChangeSpec) : _root_.Go.OpenSpec := { _root_.Go.OpenSpec.ofChange s with cond := some uptoSmall }

/-- 'aqueductlaw06.EthParses', WHERE WHAT IT READS IS OF BULK AT MOST 1048576: true; the input reads as it did. -/
def ethParsesUptoRow : OpenClaim := { program := "ytbecpkkhpjigbaa", sum := "3dc601852e5abdbec2563d3b0e1afc18e42dba800fa824d0e60ffee5064ac9dc", func := "aqueduct/aqueductlaw06.EthParses", spec := "ethParses", unfollowed := true, recurses := true, apart := false, narrowed := true }
def EthParsesUptoSaid : Prop := ethParsesUptoRow.holds Try.pinned (OpenSpec.upto ethParsesSpec)

/-- 'aqueductlaw06.EthBuilds', WHERE WHAT IT READS IS OF BULK AT MOST 1048576: true; the input reads as it did. -/
def ethBuildsUptoRow : OpenClaim := { program := "ytbecpkkhpjigbaa", sum := "3dc601852e5abdbec2563d3b0e1afc18e42dba800fa824d0e60ffee5064ac9dc", func := "aqueduct/aqueductlaw06.EthBuilds", spec := "ethBuilds", unfollowed := true, recurses := true, apart := false, narrowed := true }
def EthBuildsUptoSaid : Prop := ethBuildsUptoRow.holds Try.pinned (OpenSpec.upto ethBuildsSpec)

/-- 'aqueductlaw06.EthTags', WHERE WHAT IT READS IS OF BULK AT MOST 1048576: true; the input reads as it did. -/
def ethTagsUptoRow : OpenClaim := { program := "ytbecpkkhpjigbaa", sum := "3dc601852e5abdbec2563d3b0e1afc18e42dba800fa824d0e60ffee5064ac9dc", func := "aqueduct/aqueductlaw06.EthTags", spec := "ethTags", unfollowed := true, recurses := true, apart := false, narrowed := true }
def EthTagsUptoSaid : Prop := ethTagsUptoRow.holds Try.pinned (OpenSpec.upto ethTagsSpec)

/-- 'aqueductlaw06.EthBack', WHERE WHAT IT READS IS OF BULK AT MOST 1048576: true; the input reads as it did. -/
def ethBackUptoRow : OpenClaim := { program := "ytbecpkkhpjigbaa", sum := "3dc601852e5abdbec2563d3b0e1afc18e42dba800fa824d0e60ffee5064ac9dc", func := "aqueduct/aqueductlaw06.EthBack", spec := "ethBack", unfollowed := true, recurses := true, apart := false, narrowed := true }
def EthBackUptoSaid : Prop := ethBackUptoRow.holds Try.pinned (OpenSpec.upto ethBackSpec)

/-- 'aqueductlaw06.EthOnly', WHERE WHAT IT READS IS OF BULK AT MOST 1048576: true; the input reads as it did. -/
def ethOnlyUptoRow : OpenClaim := { program := "ytbecpkkhpjigbaa", sum := "3dc601852e5abdbec2563d3b0e1afc18e42dba800fa824d0e60ffee5064ac9dc", func := "aqueduct/aqueductlaw06.EthOnly", spec := "ethOnly", unfollowed := true, recurses := true, apart := false, narrowed := true }
def EthOnlyUptoSaid : Prop := ethOnlyUptoRow.holds Try.pinned (OpenSpec.upto ethOnlySpec)

/-- 'aqueductlaw06.EthLengths', WHERE WHAT IT READS IS OF BULK AT MOST 1048576: true; the input reads as it did. -/
def ethLengthsUptoRow : OpenClaim := { program := "ytbecpkkhpjigbaa", sum := "3dc601852e5abdbec2563d3b0e1afc18e42dba800fa824d0e60ffee5064ac9dc", func := "aqueduct/aqueductlaw06.EthLengths", spec := "ethLengths", unfollowed := true, recurses := true, apart := false, narrowed := true }
def EthLengthsUptoSaid : Prop := ethLengthsUptoRow.holds Try.pinned (OpenSpec.upto ethLengthsSpec)

/-- 'aqueductlaw06.EthTwo', WHERE WHAT IT READS IS OF BULK AT MOST 1048576: true; the input reads as it did. -/
def ethTwoUptoRow : OpenClaim := { program := "ytbecpkkhpjigbaa", sum := "3dc601852e5abdbec2563d3b0e1afc18e42dba800fa824d0e60ffee5064ac9dc", func := "aqueduct/aqueductlaw06.EthTwo", spec := "ethTwo", unfollowed := true, recurses := true, apart := false, narrowed := true }
def EthTwoUptoSaid : Prop := ethTwoUptoRow.holds Try.pinned (OpenSpec.upto ethTwoSpec)

end Rows
end Go.Proofs.Ytbecpkkhpjigbaa
