/- Commands and settings: contracts by hand, and the laws over them. -/
import Derived.Test.YtkgbhlcbjflnlaaZOwn
import Derived.Test.YtkgbhlcbjflnlaaZLow
import Derived.Test.YtkgbhlcbjflnlaaZPx7
import Derived.Test.YtkgbhlcbjflnlaaZPx8
namespace Go.Proofs.Ytkgbhlcbjflnlaa.Fl
open Go Go.RowKit Go.Proofs.YtkgbhlcbjflnlaaW.PrintWords Go.Proofs.YtkgbhlcbjflnlaaW.PrintLast Go.Proofs.YtkgbhlcbjflnlaaW.PrintMore Go.Proofs.Ytkgbhlcbjflnlaa.Mth Go.Proofs.Ytkgbhlcbjflnlaa.P Go.Proofs.Ytkgbhlcbjflnlaa.Own Go.Proofs
set_option linter.unusedVariables false
set_option linter.unusedSimpArgs false
open Go.Proofs.Ytkgbhlcbjflnlaa.Wd
/-! ### The bytes of the greater commands -/
def macB (m:ByteArray):ByteArray:=mk (comB 1 1 (B m))
def tableB (us ms:List ByteArray):ByteArray:=mk (comB 1 0 (lo 4 us.length ++ (B (cat us) ++ (lo 4 ms.length ++ B (cat ms)))))
theorem cat_size (l:List ByteArray):(cat l).size=(B (cat l)).length:=(B_length _).symm
theorem com_cat (c n:Nat) (hc:c < 9223372036854775808) (hn:n < 9223372036854775808) (l:List ByteArray) (h:(cat l).size≤140737488355328) (hl:l.length≤140737488355328) :
  Ev (fun k=>control_cmd.f k (c:Int) (n:Int) l) (mk (comB c n (B (cat l)))):=by
 have q:=cmd_spec c n hc hn l h hl
 have e:mk (lo 1 c) ++ mk (lo 1 n) ++ cat l=mk (comB c n (B (cat l))):=by
  rw [← com_mk _ _ _ (B_bt _),mk_B]
 rw [e] at q
 exact q
theorem mac_cmd (m:ByteArray) (hm:m.size≤140737488355328) (w:World):Calls Try.prog 21 #[.string m] w fun e w'=>e=.returned (.string (macB m))∧Below w.heap.size w w':=by
 obtain ⟨k,hk⟩:=com_cat 1 1 (by decide) (by decide) [m] (by rw [cat_one];exact hm) (by simp)
 rw [cat_one] at hk
 have e:=hk k (Nat.le_refl _)
 refine control_Mac.calls k m _ w ?_
 unfold control_Mac.f
 dsimp only at e
 rw [show (1:Int)=((1:Nat):Int) from rfl,e]
 rfl
theorem cat_four (a b:List Nat) (us ms:List ByteArray) (ha:Bt a) (hb:Bt b):B (cat [mk a,cat us,mk b,cat ms])=a ++ (B (cat us) ++ (b ++ B (cat ms))):=by
 rw [B_cat]
 simp only [List.map_cons,List.map_nil,List.flatten_cons,List.flatten_nil,List.append_nil]
 rw [B_mk ha,B_mk hb]
theorem table_cmd (A:Option Addr) (c:Nat) (us:List ByteArray) (A2:Option Addr) (c2:Nat) (ms:List ByteArray) (w:World) (hr:ReadsOf Value.string ByteArray.empty w A us.length us) (hc:us.length≤c) (hr2:ReadsOf Value.string ByteArray.empty w A2 ms.length ms) (hc2:ms.length≤c2)
  (hz:(cat us).size+(cat ms).size+8≤140737488355328) (hu:us.length≤140737488355328) (hm:ms.length≤140737488355328) :
  Calls Try.prog 20 #[.slice A us.length c,.slice A2 ms.length c2] w fun e w'=>e=.returned (.string (tableB us ms))∧Below w.heap.size w w':=by
 obtain ⟨k0,h0⟩:=low_spec us.length 4 (by decide) (by decide) (by omega)
 obtain ⟨k1,h1⟩:=low_spec ms.length 4 (by decide) (by decide) (by omega)
 have e4:=cat_four (lo 4 us.length) (lo 4 ms.length) us ms (lo_bt _ _) (lo_bt _ _)
 obtain ⟨k2,h2⟩:=com_cat 1 0 (by decide) (by decide) [mk (lo 4 us.length),cat us,mk (lo 4 ms.length),cat ms] (by
  rw [cat_size,e4,List.length_append,List.length_append,List.length_append,lo_length,lo_length,← cat_size,← cat_size];omega) (by simp)
 have e0:=h0 (k0+k1+k2) (by omega)
 have e1:=h1 (k0+k1+k2) (by omega)
 have e2:=h2 (k0+k1+k2) (by omega)
 dsimp only at e0 e1 e2
 rw [e4] at e2
 refine control_Table.calls (k0+k1+k2) A c us A2 c2 ms _ w (Kd.C_of_reads hr) hc (Kd.C_of_reads hr2) hc2 ?_
 unfold control_Table.f
 rw [show (4:Int)=((4:Nat):Int) from rfl,e0,Option.bind_some,join_spec us (by omega) hu,Option.bind_some,e1,Option.bind_some,join_spec ms (by omega) hm,Option.bind_some,
  show (1:Int)=((1:Nat):Int) from rfl,show (0:Int)=((0:Nat):Int) from rfl,e2]
 rfl
end Go.Proofs.Ytkgbhlcbjflnlaa.Fl
