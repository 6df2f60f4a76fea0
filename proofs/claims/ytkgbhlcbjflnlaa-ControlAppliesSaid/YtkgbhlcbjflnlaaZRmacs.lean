/- Commands and settings: contracts by hand, and the laws over them. -/
import Derived.Test.YtkgbhlcbjflnlaaZG1
import Derived.Test.YtkgbhlcbjflnlaaZRnum
import Derived.Test.YtkgbhlcbjflnlaaZG19
namespace Go.Proofs.Ytkgbhlcbjflnlaa.Fl
open Go Go.RowKit Go.Proofs.YtkgbhlcbjflnlaaW.PrintWords Go.Proofs.YtkgbhlcbjflnlaaW.PrintLast Go.Proofs.YtkgbhlcbjflnlaaW.PrintMore Go.Proofs.Ytkgbhlcbjflnlaa.Mth Go.Proofs.Ytkgbhlcbjflnlaa.P Go.Proofs.Ytkgbhlcbjflnlaa.Own Go.Proofs
set_option linter.unusedVariables false
set_option linter.unusedSimpArgs false
/-- So many addresses, one behind the other. -/
def chunks (s:ByteArray):Nat→List ByteArray
 | 0=>[]
 | n+1=>chunks s n ++ [s.extract (6 * n) (6 * n+6)]
def rmacsS (s:ByteArray):List ByteArray × ByteArray × Bool :=
 if s.size < 4∨(s.size - 4) / 6 < nat s 0 4 then ([],⟨#[]⟩,false)
 else (chunks (s.extract 4 s.size) (nat s 0 4),(s.extract 4 s.size).extract (6 * nat s 0 4) (s.size - 4),true)
theorem chunks_length (s:ByteArray):∀ n,(chunks s n).length=n
 | 0=>rfl
 | n+1=>by simp [chunks,chunks_length s n]
theorem rmacs_l0 (s:ByteArray) (n:Nat) (hs:6 * n≤s.size) (hb:s.size≤1099511627776):∀ (d i k:Nat),i≤n→n - i=d→d < k →
  aqueductref17_macs.l0 k s (chunks s i) (n:Int) (i:Int)=some (chunks s n,s.extract (6 * n) s.size,true):=by
 intro d
 induction d with
 | zero =>
  intro i k hi hd hk
  obtain ⟨k,rfl⟩:∃ m,k=m+1:=⟨k - 1,by omega⟩
  obtain rfl:i=n:=by omega
  rw [aqueductref17_macs.l0,if_neg (by omega),w64 (6 * (i:Int)) ((6 * i:Nat):Int) (by omega) (by omega) (by omega),if_pos (by omega),if_pos (by omega),Int.toNat_natCast]
 | succ d ih =>
  intro i k hi hd hk
  obtain ⟨k,rfl⟩:∃ m,k=m+1:=⟨k - 1,by omega⟩
  rw [aqueductref17_macs.l0,if_pos (by omega),w64 (6 * (i:Int)) ((6 * i:Nat):Int) (by omega) (by omega) (by omega),w64 (((6 * i:Nat):Int)+6) ((6 * i+6:Nat):Int) (by omega) (by omega) (by omega),
   w64 ((i:Int)+1) ((i+1:Nat):Int) (by omega) (by omega) (by omega),if_pos (by omega),if_pos (by omega),if_pos (by omega),if_pos (by rw [chunks_length];omega),Int.toNat_natCast,Int.toNat_natCast]
  exact ih (i+1) k (by omega) (by omega) (by omega)
theorem rmacs_spec (s:ByteArray) (hb:s.size≤1099511627776):aqueductref17_macs.f (s.size+20) s=some (rmacsS s):=by
 unfold aqueductref17_macs.f rmacsS
 rw [Option.bind_some]
 by_cases h:s.size < 4
 ·rw [if_pos (by omega),if_pos (Or.inl h)]
 ·rw [if_neg (by omega),show (0:Int)=((0:Nat):Int) from rfl,show (4:Int)=((4:Nat):Int) from rfl,rnum_spec s 0 4 (by decide) (by omega) hb _ (by omega),Option.bind_some,if_pos (by omega)]
  have he:(s.extract 4 s.size).size=s.size - 4:=by simp
  obtain ⟨n,hn⟩:∃ n,nat s 0 4=n:=⟨_,rfl⟩
  rw [hn,he,w64 (((s.size - 4:Nat):Int) / 6) (((s.size - 4) / 6:Nat):Int) (by omega) (by omega) (by omega)]
  by_cases h2:(s.size - 4) / 6 < n
  ·rw [if_pos (by omega),if_pos (Or.inr h2)]
  ·rw [if_neg (by omega),if_neg (by rintro (q | q) <;> omega)]
   have:=rmacs_l0 (s.extract 4 s.size) n (by rw [he];omega) (by rw [he];omega) n 0 (s.size+20) (by omega) (by omega) (by omega)
   rw [he] at this
   exact this
theorem rmacs_c (s:ByteArray) (w:World) (hb:s.size≤1099511627776) :
  Calls Try.prog 46 #[.string s] w fun e w'=>∃ A c,e=.returned (.tuple #[.slice A (rmacsS s).1.length c,.string (rmacsS s).2.1,.bool (rmacsS s).2.2])∧w'.ownsRow w.heap.size 9 1 (.slice A (rmacsS s).1.length c) (rmacsS s).1.length (encs Value.string (rmacsS s).1)∧Below w.heap.size w w':=by
 refine (aqueductref17_macs.calls _ s _ _ _ w (rmacs_spec s hb)).mono ?_
 rintro e w' ⟨v,rfl,hr,hb⟩
 obtain ⟨A,c,rfl,o⟩:=rd_own hr
 exact ⟨A,c,rfl,o,hb⟩
end Go.Proofs.Ytkgbhlcbjflnlaa.Fl
