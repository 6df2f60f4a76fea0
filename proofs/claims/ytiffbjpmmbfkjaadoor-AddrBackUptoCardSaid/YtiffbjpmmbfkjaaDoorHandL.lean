/- The laws of addresses: each one's walk, and its plain law, joined: it returns true and leaves old memory as it was. -/
import Derived.Test.YtiffbjpmmbfkjaaDoorWd3
namespace Go.Proofs.YtiffbjpmmbfkjaaDoor.HandL
open Go Go.RowKit Go.Proofs.YtiffbjpmmbfkjaaDoor.P Go.Proofs.YtiffbjpmmbfkjaaDoorW.PrintWords Go.Proofs.YtiffbjpmmbfkjaaDoorW.PrintLast Go.Proofs.YtiffbjpmmbfkjaaDoorW.PrintMore Go.Proofs.YtiffbjpmmbfkjaaDoor.Mth Go.Proofs.YtiffbjpmmbfkjaaDoor.Wd
theorem AddrBits (a : ByteArray) (w : World) :
    Calls Tryd.prog 7 #[.string a] w fun e w' => e = .returned (.bool true) ∧ Below w.heap.size w w' :=
  aqueductlaw05_AddrBits.calls a true w (bits_pure a) rfl
theorem AddrPorts (a b : Int) (w : World) :
    Calls Tryd.prog 6 #[.int .i64 a, .int .i64 b] w fun e w' => e = .returned (.bool true) ∧ Below w.heap.size w w' :=
  aqueductlaw05_AddrPorts.calls a b true w (ports_pure a b) rfl
theorem AddrKinds (a : ByteArray) (n : Int) (w : World) :
    Calls Tryd.prog 4 #[.string a, .int .i64 n] w fun e w' => e = .returned (.bool true) ∧ Below w.heap.size w w' :=
  aqueductlaw05_AddrKinds.calls 17 a n true w (kinds_pure a n) rfl
theorem AddrTexts (a s : ByteArray) (w : World) (h : s.size ≤ 1048576) :
    Calls Tryd.prog 3 #[.string a, .string s] w fun e w' => e = .returned (.bool true) ∧ Below w.heap.size w w' :=
  aqueductlaw05_AddrTexts.calls 30 a s true w (texts_pure a s (by omega)) rfl
theorem AddrBack (a b s : ByteArray) (w : World) (h : s.size ≤ 1048576) :
    Calls Tryd.prog 5 #[.string a, .string b, .string s] w fun e w' => e = .returned (.bool true) ∧ Below w.heap.size w w' :=
  aqueductlaw05_AddrBack.calls 1 a b s true w (back_pure a b s (by omega)) rfl
end Go.Proofs.YtiffbjpmmbfkjaaDoor.HandL
