/- Commands and settings: contracts by hand, and the laws over them. -/
import Derived.Test.YtkgbhlcbjflnlaaZOwn
import Derived.Test.YtkgbhlcbjflnlaaZRd
import Derived.Test.YtkgbhlcbjflnlaaZJoin
import Derived.Test.YtkgbhlcbjflnlaaZPx6
import Derived.Test.YtkgbhlcbjflnlaaZPx7
namespace Go.Proofs.Ytkgbhlcbjflnlaa.Fl
open Go Go.RowKit Go.Proofs.YtkgbhlcbjflnlaaW.PrintWords Go.Proofs.YtkgbhlcbjflnlaaW.PrintLast Go.Proofs.YtkgbhlcbjflnlaaW.PrintMore Go.Proofs.Ytkgbhlcbjflnlaa.Mth Go.Proofs.Ytkgbhlcbjflnlaa.P Go.Proofs.Ytkgbhlcbjflnlaa.Own Go.Proofs
set_option linter.unusedVariables false
set_option linter.unusedSimpArgs false
open Go.Proofs.Ytkgbhlcbjflnlaa.Wd
/-! ### Numbers' lowest bytes, and the bytes of commands -/
def lo (n v:Nat):List Nat:=(dig n (v % 256 ^ n)).reverse
theorem lo_length (n v:Nat):(lo n v).length=n:=by unfold lo;rw [List.length_reverse,dig_length]
theorem lo_bt (n v:Nat):Bt (lo n v):=by unfold lo;exact (dig_bt _ _).reverse
theorem le_lo (n v:Nat):le (lo n v)=v % 256 ^ n:=by
 unfold le lo
 rw [List.reverse_reverse,val_dig_lt (Nat.mod_lt _ (pow_pos' n))]
theorem low_spec (v n:Nat) (h1:1≤n) (h4:n≤4) (hv:v < 9223372036854775808):Ev (fun k=>control_low.f k (v:Int) (n:Int)) (mk (lo n v)):=by
 have hm:v % 256 ^ n < 256 ^ n:=Nat.mod_lt _ (pow_pos' n)
 obtain ⟨k0,hk⟩:=Wd.put (v % 256 ^ n) (by have:v % 256 ^ n≤v:=Nat.mod_le _ _;omega) (n:Int) false
 refine ⟨k0,fun k hk2=>?_⟩
 have e:=hk k hk2
 dsimp only at e
 show control_low.f k (v:Int) (n:Int)=_
 unfold control_low.f
 rw [w64 (8 * (n:Int)) ((8 * n:Nat):Int) (by omega) (by omega) (by omega),if_pos (by omega),shl_one n (by omega),if_neg (by have:=pow_pos' n;omega),wraps_u64 (v:Int) (by omega) (by omega)]
 have et:Int.tmod (v:Int) ((256 ^ n:Nat):Int)=((v % 256 ^ n:Nat):Int):=by rw [Int.tmod_eq_emod_of_nonneg (by omega)];exact (Int.natCast_emod _ _).symm
 rw [et,e,Option.bind_some]
 unfold putS lo
 rw [Int.toNat_natCast,if_pos ⟨by omega,by omega,hm⟩]
 rfl
def cat (l:List ByteArray):ByteArray:=⟨(l.map (·.data.toList)).flatten.toArray⟩
theorem join_none (l:List ByteArray):joinOf l ⟨#[]⟩=(l.map (·.data.toList)).flatten:=by
 unfold joinOf
 generalize l.map (·.data.toList)=m
 show Lib.join m []=m.flatten
 induction m with
 | nil=>rfl
 | cons a r ih =>
  cases r with
  | nil=>simp [Lib.join]
  | cons b r=>simp only [Lib.join,List.intercalate,List.intersperse,List.flatten_cons,List.nil_append] at ih ⊢; rw [ih]
theorem B_cat (l:List ByteArray):B (cat l)=(l.map B).flatten:=by
 unfold B cat
 simp only [List.map_flatten,List.map_map]
 rfl
theorem join_spec (l:List ByteArray) (h:(cat l).size≤140737488355328) (hl:l.length≤140737488355328):strings_Join.f l (⟨#[]⟩:ByteArray)=some (cat l):=by
 unfold strings_Join.f
 rw [join_none]
 rw [if_pos ⟨by
  have:(cat l).size=((l.map (·.data.toList)).flatten).length:=by unfold cat;rw [ByteArray.size];simp
  omega,hl⟩]
 rfl
theorem cmd_spec (c n:Nat) (hc:c < 9223372036854775808) (hn:n < 9223372036854775808) (l:List ByteArray) (h:(cat l).size≤140737488355328) (hl:l.length≤140737488355328) :
  Ev (fun k=>control_cmd.f k (c:Int) (n:Int) l) (mk (lo 1 c) ++ mk (lo 1 n) ++ cat l):=by
 obtain ⟨k0,h0⟩:=low_spec c 1 (by decide) (by decide) hc
 obtain ⟨k1,h1⟩:=low_spec n 1 (by decide) (by decide) hn
 refine ⟨k0+k1,fun k hk=>?_⟩
 have e0:=h0 k (by omega)
 have e1:=h1 k (by omega)
 dsimp only at e0 e1
 show control_cmd.f k (c:Int) (n:Int) l=_
 unfold control_cmd.f
 rw [show (1:Int)=((1:Nat):Int) from rfl,e0,Option.bind_some,e1,Option.bind_some,join_spec l h hl,Option.bind_some]
 have z0:(mk (lo 1 c)).size=1:=by rw [mk_size,lo_length]
 have z1:(mk (lo 1 n)).size=1:=by rw [mk_size,lo_length]
 rw [if_pos (by rw [z0,z1];omega),if_pos (by rw [ByteArray.size_append,z0,z1];omega)]
theorem mk_append (l m:List Nat) (hl:Bt l) (hm:Bt m):mk l ++ mk m=mk (l ++ m):=by
 apply B_inj
 rw [B_append,B_mk hl,B_mk hm,B_mk (hl.append hm)]
theorem cat_one (s:ByteArray):cat [s]=s:=by
 apply B_inj
 rw [B_cat]
 simp
/-- A command's bytes. -/
def comB (c n:Nat) (l:List Nat):List Nat:=lo 1 c ++ (lo 1 n ++ l)
theorem com_mk (c n:Nat) (l:List Nat) (h:Bt l):mk (lo 1 c) ++ mk (lo 1 n) ++ mk l=mk (comB c n l):=by
 rw [mk_append _ _ (lo_bt _ _) (lo_bt _ _),mk_append _ _ ((lo_bt _ _).append (lo_bt _ _)) h,List.append_assoc]
 rfl
def rxB (n:Nat) (on:Bool):ByteArray:=mk (comB 0 n (lo 1 (if on then 1 else 0)))
def vlanB (v:Nat) (on:Bool):ByteArray:=mk (comB 2 (if on then 0 else 1) (lo 2 v))
def pairsB (v:Nat):ByteArray:=mk (comB 4 0 (lo 2 v))
theorem one_spec (c n v m:Nat) (hc:c < 9223372036854775808) (hn:n < 9223372036854775808) (hv:v < 9223372036854775808) (h1:1≤m) (h4:m≤4) :
  Ev (fun k=>(control_low.f k (v:Int) (m:Int)).bind fun t=>(control_cmd.f k (c:Int) (n:Int) ([t]:List ByteArray)).bind fun u=>some u) (mk (comB c n (lo m v))):=by
 obtain ⟨k0,h0⟩:=low_spec v m h1 h4 hv
 obtain ⟨k1,q1⟩:=cmd_spec c n hc hn [mk (lo m v)] (by rw [cat_one,mk_size,lo_length];omega) (by simp)
 refine ⟨k0+k1,fun k hk=>?_⟩
 have e0:=h0 k (by omega)
 have e1:=q1 k (by omega)
 dsimp only at e0 e1
 show (control_low.f k (v:Int) (m:Int)).bind _=_
 rw [e0,Option.bind_some,e1,Option.bind_some,cat_one,com_mk _ _ _ (lo_bt _ _)]
theorem rx_cmd (n:Nat) (on:Bool) (w:World) (hn:n < 9223372036854775808):Calls Try.prog 14 #[.int .i64 n,.bool on] w fun e w'=>e=.returned (.string (rxB n on))∧Below w.heap.size w w':=by
 cases on
 ·obtain ⟨k,hk⟩:=one_spec 0 n 0 1 (by decide) hn (by decide) (by decide) (by decide)
  have e:=hk k (Nat.le_refl _)
  exact control_Rx.calls k n false _ w (by unfold control_Rx.f;rw [if_neg Bool.false_ne_true];exact e)
 ·obtain ⟨k,hk⟩:=one_spec 0 n 1 1 (by decide) hn (by decide) (by decide) (by decide)
  have e:=hk k (Nat.le_refl _)
  exact control_Rx.calls k n true _ w (by unfold control_Rx.f;rw [if_pos rfl];exact e)
theorem vlan_cmd (v:Nat) (on:Bool) (w:World) (hv:v < 9223372036854775808):Calls Try.prog 15 #[.int .i64 v,.bool on] w fun e w'=>e=.returned (.string (vlanB v on))∧Below w.heap.size w w':=by
 cases on
 ·obtain ⟨k,hk⟩:=one_spec 2 1 v 2 (by decide) (by decide) hv (by decide) (by decide)
  have e:=hk k (Nat.le_refl _)
  exact control_Vlan.calls k v false _ w (by unfold control_Vlan.f;rw [if_neg Bool.false_ne_true];exact e)
 ·obtain ⟨k,hk⟩:=one_spec 2 0 v 2 (by decide) (by decide) hv (by decide) (by decide)
  have e:=hk k (Nat.le_refl _)
  exact control_Vlan.calls k v true _ w (by unfold control_Vlan.f;rw [if_pos rfl];exact e)
theorem pairs_cmd (v:Nat) (w:World) (hv:v < 9223372036854775808):Calls Try.prog 17 #[.int .i64 v] w fun e w'=>e=.returned (.string (pairsB v))∧Below w.heap.size w w':=by
 obtain ⟨k,hk⟩:=one_spec 4 0 v 2 (by decide) (by decide) hv (by decide) (by decide)
 exact control_Pairs.calls k v _ w (hk k (Nat.le_refl _))
end Go.Proofs.Ytkgbhlcbjflnlaa.Fl
