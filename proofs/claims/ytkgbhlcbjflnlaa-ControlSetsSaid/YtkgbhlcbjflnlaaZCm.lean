/- Commands and settings: contracts by hand, and the laws over them. -/
import Derived.Test.YtkgbhlcbjflnlaaZOwn
import Derived.Test.YtkgbhlcbjflnlaaZFixd
namespace Go.Proofs.Ytkgbhlcbjflnlaa.Fl
open Go Go.RowKit Go.Proofs.YtkgbhlcbjflnlaaW.PrintWords Go.Proofs.YtkgbhlcbjflnlaaW.PrintLast Go.Proofs.YtkgbhlcbjflnlaaW.PrintMore Go.Proofs.Ytkgbhlcbjflnlaa.Mth Go.Proofs.Ytkgbhlcbjflnlaa.P Go.Proofs.Ytkgbhlcbjflnlaa.Own Go.Proofs
set_option linter.unusedVariables false
set_option linter.unusedSimpArgs false
/-! ### The arguments of the laws, as the row tells them -/
structure CfgX where
 m:ByteArray
 b1:Bool
 b2:Bool
 b3:Bool
 b4:Bool
 b5:Bool
 b6:Bool
 us:List ByteArray
 ms:List ByteArray
 b9:Bool
 vs:List Int
 p:Int
 mx:Int
 on:Bool
 kn:Int
 tab:List Int
 key:ByteArray
 df:Int
structure SlX where
 A7:Option Addr
 c7:Nat
 A8:Option Addr
 c8:Nat
 A10:Option Addr
 c10:Nat
 A:Option Addr
 c:Nat
structure CVX (w:World) (X:CfgX) (Y:SlX):Prop where
 r7:ReadsOf Value.string ByteArray.empty w Y.A7 X.us.length X.us
 r8:ReadsOf Value.string ByteArray.empty w Y.A8 X.ms.length X.ms
 r10:ReadsOf (Value.int .i64) 0 w Y.A10 X.vs.length X.vs
 r:ReadsOf (Value.int .i64) 0 w Y.A X.tab.length X.tab
 l7:X.us.length≤Y.c7
 l8:X.ms.length≤Y.c8
 l10:X.vs.length≤Y.c10
 l:X.tab.length≤Y.c
abbrev toC (X:CfgX):Cfg:=⟨⟨X.m,X.b1,X.b2,X.b3,X.b4,X.b5,X.b6,X.us,X.ms,X.b9,X.vs⟩,X.p,X.mx,X.on,X.kn,X.tab,X.key,X.df⟩
abbrev toS (Y:SlX):SlC:=⟨⟨Y.A7,Y.c7,Y.A8,Y.c8,Y.A10,Y.c10⟩,Y.A,Y.c⟩
theorem CVX.cv {w:World} {X:CfgX} {Y:SlX} (h:CVX w X Y):CV w (toC X) (toS Y):=⟨⟨h.r7,h.r8,h.r10,h.l7,h.l8,h.l10⟩,h.r,h.l⟩
/-- A command's parts. -/
structure Cm where
 n:Int
 v:Int
 p:Int
 on:Bool
 us:List ByteArray
 ms:List ByteArray
 m:ByteArray
 kn:Int
 tab:List Int
 key:ByteArray
 df:Int
structure SlM where
 A4:Option Addr
 c4:Nat
 A5:Option Addr
 c5:Nat
 A8:Option Addr
 c8:Nat
abbrev cellsM (O:Cm) (T:SlM):Array Value:=#[.int .i64 O.n,.int .i64 O.v,.int .i64 O.p,.bool O.on,.slice T.A4 O.us.length T.c4,.slice T.A5 O.ms.length T.c5,.string O.m,.int .i64 O.kn,.slice T.A8 O.tab.length T.c8,.string O.key,.int .i64 O.df]
structure MV (w:World) (O:Cm) (T:SlM):Prop where
 r4:ReadsOf Value.string ByteArray.empty w T.A4 O.us.length O.us
 r5:ReadsOf Value.string ByteArray.empty w T.A5 O.ms.length O.ms
 r8:ReadsOf (Value.int .i64) 0 w T.A8 O.tab.length O.tab
 l4:O.us.length≤T.c4
 l5:O.ms.length≤T.c5
 l8:O.tab.length≤T.c8
theorem MV.below {w w':World} {O:Cm} {T:SlM} (h:MV w O T) (hb:Below w.heap.size w w'):MV w' O T:=⟨h.r4.below hb,h.r5.below hb,h.r8.below hb,h.l4,h.l5,h.l8⟩
/-- A number's lowest bits. -/
theorem and_nat (x:Int) (i:Nat) (hi:i < 63):∃ n:Nat,Go.bits .and .i64 x ((2 ^ i - 1:Nat):Int)=(n:Int)∧n < 2 ^ i:=by
 rw [and_i64 x i hi]
 have h0:=Int.emod_nonneg x (b:=((2 ^ i:Nat):Int)) (by have:=Nat.pow_pos (n:=i) (show 0 < 2 by decide);omega)
 have h1:=Int.emod_lt_of_pos x (b:=((2 ^ i:Nat):Int)) (by have:=Nat.pow_pos (n:=i) (show 0 < 2 by decide);omega)
 exact ⟨(x % ((2 ^ i:Nat):Int)).toNat,by omega,by omega⟩
/-! ### ControlApart, plainly -/
/-! ### ControlCuts, plainly -/
end Go.Proofs.Ytkgbhlcbjflnlaa.Fl
