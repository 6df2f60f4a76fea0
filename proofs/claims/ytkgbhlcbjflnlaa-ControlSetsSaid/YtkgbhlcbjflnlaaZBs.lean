/- Marks, as one number. -/
namespace Go.Proofs.Ytkgbhlcbjflnlaa
def bsq (n m : Nat) : Array Bool := ((List.range n).map fun i => m.testBit i).toArray
theorem bq1 {α : Type _} (l : List α) (i : Nat) (a : α) : l.toArray.setIfInBounds i a = (l.set i a).toArray := List.setIfInBounds_toArray ..
theorem bq2 {α : Type _} {a b : α} {l : List α} : (a :: l).set 0 b = b :: l := List.set_cons_zero
theorem bq3 {α : Type _} {a b : α} {l : List α} {n : Nat} : (a :: l).set (n + 1) b = a :: l.set n b := List.set_cons_succ
end Go.Proofs.Ytkgbhlcbjflnlaa
