/- Commands and settings: contracts by hand, and the laws over them. -/
import Derived.Test.YtkgbhlcbjflnlaaZOwn
import Derived.Test.YtkgbhlcbjflnlaaZSets
namespace Go.Proofs.Ytkgbhlcbjflnlaa.Hand
open Go Go.RowKit Go.Proofs.YtkgbhlcbjflnlaaW.PrintWords Go.Proofs.YtkgbhlcbjflnlaaW.PrintLast Go.Proofs.YtkgbhlcbjflnlaaW.PrintMore Go.Proofs.Ytkgbhlcbjflnlaa.Mth Go.Proofs.Ytkgbhlcbjflnlaa.P Go.Proofs.Ytkgbhlcbjflnlaa.Own Go.Proofs Go.Proofs.Ytkgbhlcbjflnlaa.Fl
set_option linter.unusedVariables false
set_option linter.unusedSimpArgs false
theorem ControlSets (X:CfgX) (Y:SlX) (O:Cm) (T:SlM) (w:World) (hx:CVX w X Y) (ho:MV w O T) (hl:O.us.length * 16≤140737488351232∧O.ms.length * 16≤140737488351232∧O.tab.length * 8≤140737488351232∧O.m.size≤140737488351232∧O.key.size≤140737488351232):Calls Try.prog 6 #[.agg #[.string X.m,.bool X.b1,.bool X.b2,.bool X.b3,.bool X.b4,.bool X.b5,.bool X.b6,.slice Y.A7 X.us.length Y.c7,.slice Y.A8 X.ms.length Y.c8,.bool X.b9,.slice Y.A10 X.vs.length Y.c10,.int .i64 X.p,.int .i64 X.mx,.bool X.on,.int .i64 X.kn,.slice Y.A X.tab.length Y.c,.string X.key,.int .i64 X.df],.agg #[.int .i64 O.n,.int .i64 O.v,.int .i64 O.p,.bool O.on,.slice T.A4 O.us.length T.c4,.slice T.A5 O.ms.length T.c5,.string O.m,.int .i64 O.kn,.slice T.A8 O.tab.length T.c8,.string O.key,.int .i64 O.df]] w fun e w'=>e=.returned (.bool true)∧Below w.heap.size w w' :=
 sets_c (toC X) (toS Y) O T w hx.cv ho (by omega) (by omega) hl.2.2.2.1
end Go.Proofs.Ytkgbhlcbjflnlaa.Hand
