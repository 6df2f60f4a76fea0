/- Marks, as one number. -/
namespace Go.Proofs.Ytkgbhlcbjflnlaa
def bsq (n m : Nat) : Array Bool := ((List.range n).map fun i => m.testBit i).toArray
end Go.Proofs.Ytkgbhlcbjflnlaa
