/- Commands and settings: contracts by hand, and the laws over them. -/
import Derived.Test.YtkgbhlcbjflnlaaZOwn
import Derived.Test.YtkgbhlcbjflnlaaZRules
namespace Go.Proofs.Ytkgbhlcbjflnlaa.Hand
open Go Go.RowKit Go.Proofs.YtkgbhlcbjflnlaaW.PrintWords Go.Proofs.YtkgbhlcbjflnlaaW.PrintLast Go.Proofs.YtkgbhlcbjflnlaaW.PrintMore Go.Proofs.Ytkgbhlcbjflnlaa.Mth Go.Proofs.Ytkgbhlcbjflnlaa.P Go.Proofs.Ytkgbhlcbjflnlaa.Own Go.Proofs Go.Proofs.Ytkgbhlcbjflnlaa.Fl
set_option linter.unusedVariables false
set_option linter.unusedSimpArgs false
structure RsX where
  kn : Int
  tab : List Int
  key : ByteArray
  df : Int
structure SlR where
  A : Option Addr
  c : Nat
structure RVX (w : World) (Z : RsX) (U : SlR) : Prop where
  r : ReadsOf (Value.int .i64) 0 w U.A Z.tab.length Z.tab
  l : Z.tab.length ≤ U.c
theorem ControlRules (X : CfgX) (Y : SlX) (Z : RsX) (U : SlR) (pairs : Int) (w : World) (hx : CVX w X Y) (hz : RVX w Z U) (wp : (Lit.int .i64 pairs).wf = true) : Calls Try.prog 7 #[.agg #[.string X.m, .bool X.b1, .bool X.b2, .bool X.b3, .bool X.b4, .bool X.b5, .bool X.b6, .slice Y.A7 X.us.length Y.c7, .slice Y.A8 X.ms.length Y.c8, .bool X.b9, .slice Y.A10 X.vs.length Y.c10, .int .i64 X.p, .int .i64 X.mx, .bool X.on, .int .i64 X.kn, .slice Y.A X.tab.length Y.c, .string X.key, .int .i64 X.df], .agg #[.int .i64 Z.kn, .slice U.A Z.tab.length U.c, .string Z.key, .int .i64 Z.df], .int .i64 pairs] w fun e w' => e = .returned (.bool true) ∧ Below w.heap.size w w' :=
  crules_c (toC X) (toS Y) Z.kn U.A U.c Z.tab Z.key Z.df pairs w hx.cv hz.r hz.l
end Go.Proofs.Ytkgbhlcbjflnlaa.Hand
