/-
  No cell of these rows narrows 'for every input' (looked for: loops, veiled, ifaces, maps, wideKeys, modest, calm, conditions, laid).
  DERIVED. THE GIVEN ROWS OF THIS SEAT. 7 by the template 'for every input the law returns true; each argument reads behind the call as it read before'; 0 by the template 'total and deterministic' (their statements: YtkkfckfmjhfakaaTotals.lean).
  GIVEN WITH THE SEED: the statements are not yours to turn. If you find one false, say at which input.
  Laid BY PROGRAM, IN A SANDBOX (cutbox-rows.mjs): the forced cells as the released guide's own fill.sh prints them over the translation ebef684f1bc76119… (all of the seat's roots in one cut). By AI agents, Wed Nov 11 2026. No macro, syntax, notation, axiom, sorry.
-/
import Derived.Test.YtkkfckfmjhfakaaChecked
import GoSem.Claim
import GoSem.ClaimJoined
import GoSem.ClaimMapViews
import Derived.JoinedTies
import Derived.KernelRfl
namespace Go.Proofs.Ytkkfckfmjhfakaa
/- THE CELL 'sum', in the pinned program and in every row, IS THE sha256 OF THE DUMP (.gsa) THAT YtkkfckfmjhfakaaProg.lean LOADS. Nothing in Lean hashes anything: it is a label: what it is worth is what the hold of that sum in a sandbox is worth. -/
noncomputable def Try.pinned : Pinned := { name := "ytkkfckfmjhfakaa", sum := "ebef684f1bc761196c181243bd79f81675a1931a1f2a055fd2e1e63a72e8af3b", checked := Try.checked }
namespace Rows
def none {H : Type} : Left H := { results := [], args := [] }

/-- 'aqueductlaw21.MeterRates': WHATEVER THE INPUT: true; the input reads as it did. -/
def meterRatesSpec : ChangeSpec := { name := "meterRates", fn := fun _ => fun
  | [d1, d2, d3] => { results := [.lit (.bool true)], args := [d1, d2, d3] }
  | _ => none }
def meterRatesRow : OpenClaim := { program := "ytkkfckfmjhfakaa", sum := "ebef684f1bc761196c181243bd79f81675a1931a1f2a055fd2e1e63a72e8af3b", func := "aqueduct/aqueductlaw21.MeterRates", spec := "meterRates", inPlace := ["math.Float64bits", "math.Float64frombits"], unfollowed := true, recurses := true, apart := false }
def MeterRatesSaid : Prop := meterRatesRow.holds Try.pinned (OpenSpec.ofChange meterRatesSpec)

/-- ITS FALSE NEIGHBOUR: 'it returns false'. Refute it at one input. -/
def meterRatesWrong : ChangeSpec := { name := "meterRates", fn := fun _ => fun
  | [d1, d2, d3] => { results := [.lit (.bool false)], args := [d1, d2, d3] }
  | _ => none }
def MeterRatesWrongFalsely : Prop := meterRatesRow.holds Try.pinned (OpenSpec.ofChange meterRatesWrong)

/-- 'aqueductlaw21.MeterSorts': WHATEVER THE INPUT: true; the input reads as it did. -/
def meterSortsSpec : ChangeSpec := { name := "meterSorts", fn := fun _ => fun
  | [d1, d2, d3] => { results := [.lit (.bool true)], args := [d1, d2, d3] }
  | _ => none }
def meterSortsRow : OpenClaim := { program := "ytkkfckfmjhfakaa", sum := "ebef684f1bc761196c181243bd79f81675a1931a1f2a055fd2e1e63a72e8af3b", func := "aqueduct/aqueductlaw21.MeterSorts", spec := "meterSorts", inPlace := ["math.Float64bits", "math.Float64frombits"], unfollowed := true, recurses := true, apart := false }
def MeterSortsSaid : Prop := meterSortsRow.holds Try.pinned (OpenSpec.ofChange meterSortsSpec)

/-- ITS FALSE NEIGHBOUR: 'it returns false'. Refute it at one input. -/
def meterSortsWrong : ChangeSpec := { name := "meterSorts", fn := fun _ => fun
  | [d1, d2, d3] => { results := [.lit (.bool false)], args := [d1, d2, d3] }
  | _ => none }
def MeterSortsWrongFalsely : Prop := meterSortsRow.holds Try.pinned (OpenSpec.ofChange meterSortsWrong)

/-- 'aqueductlaw21.MeterMeans': WHATEVER THE INPUT: true; the input reads as it did. -/
def meterMeansSpec : ChangeSpec := { name := "meterMeans", fn := fun _ => fun
  | [d] => { results := [.lit (.bool true)], args := [d] }
  | _ => none }
def meterMeansRow : OpenClaim := { program := "ytkkfckfmjhfakaa", sum := "ebef684f1bc761196c181243bd79f81675a1931a1f2a055fd2e1e63a72e8af3b", func := "aqueduct/aqueductlaw21.MeterMeans", spec := "meterMeans", inPlace := ["math.Float64bits", "math.Float64frombits"], unfollowed := true, recurses := true, apart := false }
def MeterMeansSaid : Prop := meterMeansRow.holds Try.pinned (OpenSpec.ofChange meterMeansSpec)

/-- ITS FALSE NEIGHBOUR: 'it returns false'. Refute it at one input. -/
def meterMeansWrong : ChangeSpec := { name := "meterMeans", fn := fun _ => fun
  | [d] => { results := [.lit (.bool false)], args := [d] }
  | _ => none }
def MeterMeansWrongFalsely : Prop := meterMeansRow.holds Try.pinned (OpenSpec.ofChange meterMeansWrong)

/-- 'aqueductlaw21.MeterOrder': WHATEVER THE INPUT: true; the input reads as it did. -/
def meterOrderSpec : ChangeSpec := { name := "meterOrder", fn := fun _ => fun
  | [d1, d2, d3] => { results := [.lit (.bool true)], args := [d1, d2, d3] }
  | _ => none }
def meterOrderRow : OpenClaim := { program := "ytkkfckfmjhfakaa", sum := "ebef684f1bc761196c181243bd79f81675a1931a1f2a055fd2e1e63a72e8af3b", func := "aqueduct/aqueductlaw21.MeterOrder", spec := "meterOrder", inPlace := ["math.Float64bits", "math.Float64frombits"], unfollowed := true, recurses := true, apart := false }
def MeterOrderSaid : Prop := meterOrderRow.holds Try.pinned (OpenSpec.ofChange meterOrderSpec)

/-- ITS FALSE NEIGHBOUR: 'it returns false'. Refute it at one input. -/
def meterOrderWrong : ChangeSpec := { name := "meterOrder", fn := fun _ => fun
  | [d1, d2, d3] => { results := [.lit (.bool false)], args := [d1, d2, d3] }
  | _ => none }
def MeterOrderWrongFalsely : Prop := meterOrderRow.holds Try.pinned (OpenSpec.ofChange meterOrderWrong)

/-- 'aqueductlaw21.MeterTwice': WHATEVER THE INPUT: true; the input reads as it did. -/
def meterTwiceSpec : ChangeSpec := { name := "meterTwice", fn := fun _ => fun
  | [d] => { results := [.lit (.bool true)], args := [d] }
  | _ => none }
def meterTwiceRow : OpenClaim := { program := "ytkkfckfmjhfakaa", sum := "ebef684f1bc761196c181243bd79f81675a1931a1f2a055fd2e1e63a72e8af3b", func := "aqueduct/aqueductlaw21.MeterTwice", spec := "meterTwice", inPlace := ["math.Float64bits", "math.Float64frombits"], unfollowed := true, recurses := true, apart := false }
def MeterTwiceSaid : Prop := meterTwiceRow.holds Try.pinned (OpenSpec.ofChange meterTwiceSpec)

/-- ITS FALSE NEIGHBOUR: 'it returns false'. Refute it at one input. -/
def meterTwiceWrong : ChangeSpec := { name := "meterTwice", fn := fun _ => fun
  | [d] => { results := [.lit (.bool false)], args := [d] }
  | _ => none }
def MeterTwiceWrongFalsely : Prop := meterTwiceRow.holds Try.pinned (OpenSpec.ofChange meterTwiceWrong)

/-- 'aqueductlaw21.MeterSigns': WHATEVER THE INPUT: true; the input reads as it did. -/
def meterSignsSpec : ChangeSpec := { name := "meterSigns", fn := fun _ => fun
  | [d1, d2] => { results := [.lit (.bool true)], args := [d1, d2] }
  | _ => none }
def meterSignsRow : OpenClaim := { program := "ytkkfckfmjhfakaa", sum := "ebef684f1bc761196c181243bd79f81675a1931a1f2a055fd2e1e63a72e8af3b", func := "aqueduct/aqueductlaw21.MeterSigns", spec := "meterSigns", inPlace := ["math.Float64bits", "math.Float64frombits"], unfollowed := true, recurses := true, apart := false }
def MeterSignsSaid : Prop := meterSignsRow.holds Try.pinned (OpenSpec.ofChange meterSignsSpec)

/-- ITS FALSE NEIGHBOUR: 'it returns false'. Refute it at one input. -/
def meterSignsWrong : ChangeSpec := { name := "meterSigns", fn := fun _ => fun
  | [d1, d2] => { results := [.lit (.bool false)], args := [d1, d2] }
  | _ => none }
def MeterSignsWrongFalsely : Prop := meterSignsRow.holds Try.pinned (OpenSpec.ofChange meterSignsWrong)

/-- 'aqueductlaw21.MeterSame': WHATEVER THE INPUT: true; the input reads as it did. -/
def meterSameSpec : ChangeSpec := { name := "meterSame", fn := fun _ => fun
  | [d1, d2] => { results := [.lit (.bool true)], args := [d1, d2] }
  | _ => none }
def meterSameRow : OpenClaim := { program := "ytkkfckfmjhfakaa", sum := "ebef684f1bc761196c181243bd79f81675a1931a1f2a055fd2e1e63a72e8af3b", func := "aqueduct/aqueductlaw21.MeterSame", spec := "meterSame", inPlace := ["math.Float64bits", "math.Float64frombits"], unfollowed := true, recurses := true, apart := false }
def MeterSameSaid : Prop := meterSameRow.holds Try.pinned (OpenSpec.ofChange meterSameSpec)

/-- ITS FALSE NEIGHBOUR: 'it returns false'. Refute it at one input. -/
def meterSameWrong : ChangeSpec := { name := "meterSame", fn := fun _ => fun
  | [d1, d2] => { results := [.lit (.bool false)], args := [d1, d2] }
  | _ => none }
def MeterSameWrongFalsely : Prop := meterSameRow.holds Try.pinned (OpenSpec.ofChange meterSameWrong)

/- THE SECOND FORM. 'bulk': how many values and letters a reading holds, each counted each time it is reached (what is shared counts as often as it is met; a slice's spare places count too). A statement '..UptoSaid' is the law's where the arguments, and the package variables that the reading takes, are together of bulk at most 1048576: NARROWER than '..Said'. Prove '..Said' where nothing that the law and all that it calls make is longer than what came in: it says more and counts as full. Else prove '..UptoSaid'. A law counts once. -/
mutual
def uptoBulk {H : Type} : DataW H → Nat
  | .lit (.string bytes) => bytes.length + 1
  | .lit _ => 1
  | .nil => 1
  | .ptr d => uptoBulk d + 1
  | .slice elems spare => uptoBulkAll elems + uptoBulkAll spare + 1
  | .agg parts => uptoBulkAll parts + 1
  | .iface _ d => uptoBulk d + 1
  | .map entries => uptoBulkEntries entries + 1
  | .held _ => 1
def uptoBulkAll {H : Type} : List (DataW H) → Nat
  | [] => 0
  | d :: r => uptoBulk d + uptoBulkAll r
def uptoBulkEntries {H : Type} : List (Lit × DataW H) → Nat
  | [] => 0
  | x :: r => uptoBulkEntry x + uptoBulkEntries r
def uptoBulkEntry {H : Type} : Lit × DataW H → Nat
  | (.string bytes, d) => bytes.length + uptoBulk d + 1
  | (_, d) => uptoBulk d + 1
 end
def uptoSmall : (H : Type) → List (DataW H) → Bool := fun _ ds => decide (uptoBulkAll ds ≤ 1048576)
def OpenSpec.upto (s : _root_.Go.ChangeSpec) : _root_.Go.OpenSpec := { _root_.Go.OpenSpec.ofChange s with cond := some uptoSmall }

/-- 'aqueductlaw21.MeterRates', WHERE WHAT IT READS IS OF BULK AT MOST 1048576: true; the input reads as it did. -/
def meterRatesUptoRow : OpenClaim := { program := "ytkkfckfmjhfakaa", sum := "ebef684f1bc761196c181243bd79f81675a1931a1f2a055fd2e1e63a72e8af3b", func := "aqueduct/aqueductlaw21.MeterRates", spec := "meterRates", inPlace := ["math.Float64bits", "math.Float64frombits"], unfollowed := true, recurses := true, apart := false, narrowed := true }
def MeterRatesUptoSaid : Prop := meterRatesUptoRow.holds Try.pinned (OpenSpec.upto meterRatesSpec)

/-- 'aqueductlaw21.MeterSorts', WHERE WHAT IT READS IS OF BULK AT MOST 1048576: true; the input reads as it did. -/
def meterSortsUptoRow : OpenClaim := { program := "ytkkfckfmjhfakaa", sum := "ebef684f1bc761196c181243bd79f81675a1931a1f2a055fd2e1e63a72e8af3b", func := "aqueduct/aqueductlaw21.MeterSorts", spec := "meterSorts", inPlace := ["math.Float64bits", "math.Float64frombits"], unfollowed := true, recurses := true, apart := false, narrowed := true }
def MeterSortsUptoSaid : Prop := meterSortsUptoRow.holds Try.pinned (OpenSpec.upto meterSortsSpec)

/-- 'aqueductlaw21.MeterMeans', WHERE WHAT IT READS IS OF BULK AT MOST 1048576: true; the input reads as it did. -/
def meterMeansUptoRow : OpenClaim := { program := "ytkkfckfmjhfakaa", sum := "ebef684f1bc761196c181243bd79f81675a1931a1f2a055fd2e1e63a72e8af3b", func := "aqueduct/aqueductlaw21.MeterMeans", spec := "meterMeans", inPlace := ["math.Float64bits", "math.Float64frombits"], unfollowed := true, recurses := true, apart := false, narrowed := true }
def MeterMeansUptoSaid : Prop := meterMeansUptoRow.holds Try.pinned (OpenSpec.upto meterMeansSpec)

/-- 'aqueductlaw21.MeterOrder', WHERE WHAT IT READS IS OF BULK AT MOST 1048576: true; the input reads as it did. -/
def meterOrderUptoRow : OpenClaim := { program := "ytkkfckfmjhfakaa", sum := "ebef684f1bc761196c181243bd79f81675a1931a1f2a055fd2e1e63a72e8af3b", func := "aqueduct/aqueductlaw21.MeterOrder", spec := "meterOrder", inPlace := ["math.Float64bits", "math.Float64frombits"], unfollowed := true, recurses := true, apart := false, narrowed := true }
def MeterOrderUptoSaid : Prop := meterOrderUptoRow.holds Try.pinned (OpenSpec.upto meterOrderSpec)

/-- 'aqueductlaw21.MeterTwice', WHERE WHAT IT READS IS OF BULK AT MOST 1048576: true; the input reads as it did. -/
def meterTwiceUptoRow : OpenClaim := { program := "ytkkfckfmjhfakaa", sum := "ebef684f1bc761196c181243bd79f81675a1931a1f2a055fd2e1e63a72e8af3b", func := "aqueduct/aqueductlaw21.MeterTwice", spec := "meterTwice", inPlace := ["math.Float64bits", "math.Float64frombits"], unfollowed := true, recurses := true, apart := false, narrowed := true }
def MeterTwiceUptoSaid : Prop := meterTwiceUptoRow.holds Try.pinned (OpenSpec.upto meterTwiceSpec)

/-- 'aqueductlaw21.MeterSigns', WHERE WHAT IT READS IS OF BULK AT MOST 1048576: true; the input reads as it did. -/
def meterSignsUptoRow : OpenClaim := { program := "ytkkfckfmjhfakaa", sum := "ebef684f1bc761196c181243bd79f81675a1931a1f2a055fd2e1e63a72e8af3b", func := "aqueduct/aqueductlaw21.MeterSigns", spec := "meterSigns", inPlace := ["math.Float64bits", "math.Float64frombits"], unfollowed := true, recurses := true, apart := false, narrowed := true }
def MeterSignsUptoSaid : Prop := meterSignsUptoRow.holds Try.pinned (OpenSpec.upto meterSignsSpec)

/-- 'aqueductlaw21.MeterSame', WHERE WHAT IT READS IS OF BULK AT MOST 1048576: true; the input reads as it did. -/
def meterSameUptoRow : OpenClaim := { program := "ytkkfckfmjhfakaa", sum := "ebef684f1bc761196c181243bd79f81675a1931a1f2a055fd2e1e63a72e8af3b", func := "aqueduct/aqueductlaw21.MeterSame", spec := "meterSame", inPlace := ["math.Float64bits", "math.Float64frombits"], unfollowed := true, recurses := true, apart := false, narrowed := true }
def MeterSameUptoSaid : Prop := meterSameUptoRow.holds Try.pinned (OpenSpec.upto meterSameSpec)

end Rows
end Go.Proofs.Ytkkfckfmjhfakaa
