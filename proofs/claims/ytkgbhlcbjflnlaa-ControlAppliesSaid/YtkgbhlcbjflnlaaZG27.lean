/- Commands and settings: contracts by hand, and the laws over them. -/
import Derived.Test.YtkgbhlcbjflnlaaZG1
import Derived.Test.YtkgbhlcbjflnlaaZG19
import Derived.Test.YtkgbhlcbjflnlaaZJoin
import Derived.Test.YtkgbhlcbjflnlaaZPx6
import Derived.Test.YtkgbhlcbjflnlaaZPx7
import Derived.Test.YtkgbhlcbjflnlaaZApp
import Derived.Test.YtkgbhlcbjflnlaaZG8
section
namespace Go.Proofs.Ytkgbhlcbjflnlaa.Fl
open Go Go.RowKit Go.Proofs.YtkgbhlcbjflnlaaW.PrintWords Go.Proofs.YtkgbhlcbjflnlaaW.PrintLast Go.Proofs.YtkgbhlcbjflnlaaW.PrintMore Go.Proofs.Ytkgbhlcbjflnlaa.Mth Go.Proofs.Ytkgbhlcbjflnlaa.P Go.Proofs.Ytkgbhlcbjflnlaa.Own Go.Proofs
set_option linter.unusedVariables false
set_option linter.unusedSimpArgs false
open Go.Proofs.Ytkgbhlcbjflnlaa.Wd
/-! ### Numbers' lowest bytes, and the bytes of commands -/
def lo (n v:Nat):List Nat:=(dig n (v % 256 ^ n)).reverse
theorem lo_length (n v:Nat):(lo n v).length=n:=by unfold lo;rw [List.length_reverse,dig_length]
theorem lo_bt (n v:Nat):Bt (lo n v):=by unfold lo;exact (dig_bt _ _).reverse
theorem le_lo (n v:Nat):le (lo n v)=v % 256 ^ n:=by
 unfold le lo
 rw [List.reverse_reverse,val_dig_lt (Nat.mod_lt _ (pow_pos' n))]
theorem lo_le {l:List Nat} (h:Bt l):lo l.length (le l)=l:=by
 unfold lo le
 have q:=dig_val h.reverse
 rw [List.length_reverse] at q
 rw [Nat.mod_eq_of_lt (by have:=val_lt h.reverse;rwa [List.length_reverse] at this),q,List.reverse_reverse]
theorem low_spec (v n:Nat) (h1:1≤n) (h4:n≤4) (hv:v < 9223372036854775808):Ev (fun k=>control_low.f k (v:Int) (n:Int)) (mk (lo n v)):=by
 have hm:v % 256 ^ n < 256 ^ n:=Nat.mod_lt _ (pow_pos' n)
 obtain ⟨k0,hk⟩:=Wd.put (v % 256 ^ n) (by have:v % 256 ^ n≤v:=Nat.mod_le _ _;omega) (n:Int) false
 refine ⟨k0,fun k hk2=>?_⟩
 have e:=hk k hk2
 dsimp only at e
 show control_low.f k (v:Int) (n:Int)=_
 unfold control_low.f
 rw [w64 (8 * (n:Int)) ((8 * n:Nat):Int) (by omega) (by omega) (by omega),if_pos (by omega),shl_one n (by omega),if_neg (by have:=pow_pos' n;omega),wraps_u64 (v:Int) (by omega) (by omega)]
 have et:Int.tmod (v:Int) ((256 ^ n:Nat):Int)=((v % 256 ^ n:Nat):Int):=by rw [Int.tmod_eq_emod_of_nonneg (by omega)];exact (Int.natCast_emod _ _).symm
 rw [et,e,Option.bind_some]
 unfold putS lo
 rw [Int.toNat_natCast,if_pos ⟨by omega,by omega,hm⟩]
 rfl
def cat (l:List ByteArray):ByteArray:=⟨(l.map (·.data.toList)).flatten.toArray⟩
theorem join_none (l:List ByteArray):joinOf l ⟨#[]⟩=(l.map (·.data.toList)).flatten:=by
 unfold joinOf
 generalize l.map (·.data.toList)=m
 show Lib.join m []=m.flatten
 induction m with
 | nil=>rfl
 | cons a r ih =>
  cases r with
  | nil=>simp [Lib.join]
  | cons b r=>simp only [Lib.join,List.intercalate,List.intersperse,List.flatten_cons,List.nil_append] at ih ⊢; rw [ih]
theorem B_cat (l:List ByteArray):B (cat l)=(l.map B).flatten:=by
 unfold B cat
 simp only [List.map_flatten,List.map_map]
 rfl
theorem join_spec (l:List ByteArray) (h:(cat l).size≤140737488355328) (hl:l.length≤140737488355328):strings_Join.f l (⟨#[]⟩:ByteArray)=some (cat l):=by
 unfold strings_Join.f
 rw [join_none]
 rw [if_pos ⟨by
  have:(cat l).size=((l.map (·.data.toList)).flatten).length:=by unfold cat;rw [ByteArray.size];simp
  omega,hl⟩]
 rfl
theorem cmd_spec (c n:Nat) (hc:c < 9223372036854775808) (hn:n < 9223372036854775808) (l:List ByteArray) (h:(cat l).size≤140737488355328) (hl:l.length≤140737488355328) :
  Ev (fun k=>control_cmd.f k (c:Int) (n:Int) l) (mk (lo 1 c) ++ mk (lo 1 n) ++ cat l):=by
 obtain ⟨k0,h0⟩:=low_spec c 1 (by decide) (by decide) hc
 obtain ⟨k1,h1⟩:=low_spec n 1 (by decide) (by decide) hn
 refine ⟨k0+k1,fun k hk=>?_⟩
 have e0:=h0 k (by omega)
 have e1:=h1 k (by omega)
 dsimp only at e0 e1
 show control_cmd.f k (c:Int) (n:Int) l=_
 unfold control_cmd.f
 rw [show (1:Int)=((1:Nat):Int) from rfl,e0,Option.bind_some,e1,Option.bind_some,join_spec l h hl,Option.bind_some]
 have z0:(mk (lo 1 c)).size=1:=by rw [mk_size,lo_length]
 have z1:(mk (lo 1 n)).size=1:=by rw [mk_size,lo_length]
 rw [if_pos (by rw [z0,z1];omega),if_pos (by rw [ByteArray.size_append,z0,z1];omega)]
theorem mk_append (l m:List Nat) (hl:Bt l) (hm:Bt m):mk l ++ mk m=mk (l ++ m):=by
 apply B_inj
 rw [B_append,B_mk hl,B_mk hm,B_mk (hl.append hm)]
theorem cat_one (s:ByteArray):cat [s]=s:=by
 apply B_inj
 rw [B_cat]
 simp
/-- A command's bytes. -/
def comB (c n:Nat) (l:List Nat):List Nat:=lo 1 c ++ (lo 1 n ++ l)
theorem com_mk (c n:Nat) (l:List Nat) (h:Bt l):mk (lo 1 c) ++ mk (lo 1 n) ++ mk l=mk (comB c n l):=by
 rw [mk_append _ _ (lo_bt _ _) (lo_bt _ _),mk_append _ _ ((lo_bt _ _).append (lo_bt _ _)) h,List.append_assoc]
 rfl
def rxB (n:Nat) (on:Bool):ByteArray:=mk (comB 0 n (lo 1 (if on then 1 else 0)))
def vlanB (v:Nat) (on:Bool):ByteArray:=mk (comB 2 (if on then 0 else 1) (lo 2 v))
def pairsB (v:Nat):ByteArray:=mk (comB 4 0 (lo 2 v))
theorem one_spec (c n v m:Nat) (hc:c < 9223372036854775808) (hn:n < 9223372036854775808) (hv:v < 9223372036854775808) (h1:1≤m) (h4:m≤4) :
  Ev (fun k=>(control_low.f k (v:Int) (m:Int)).bind fun t=>(control_cmd.f k (c:Int) (n:Int) ([t]:List ByteArray)).bind fun u=>some u) (mk (comB c n (lo m v))):=by
 obtain ⟨k0,h0⟩:=low_spec v m h1 h4 hv
 obtain ⟨k1,q1⟩:=cmd_spec c n hc hn [mk (lo m v)] (by rw [cat_one,mk_size,lo_length];omega) (by simp)
 refine ⟨k0+k1,fun k hk=>?_⟩
 have e0:=h0 k (by omega)
 have e1:=q1 k (by omega)
 dsimp only at e0 e1
 show (control_low.f k (v:Int) (m:Int)).bind _=_
 rw [e0,Option.bind_some,e1,Option.bind_some,cat_one,com_mk _ _ _ (lo_bt _ _)]
theorem rx_cmd (n:Nat) (on:Bool) (w:World) (hn:n < 9223372036854775808):Calls Try.prog 14 #[.int .i64 n,.bool on] w fun e w'=>e=.returned (.string (rxB n on))∧Below w.heap.size w w':=by
 cases on
 ·obtain ⟨k,hk⟩:=one_spec 0 n 0 1 (by decide) hn (by decide) (by decide) (by decide)
  have e:=hk k (Nat.le_refl _)
  exact control_Rx.calls k n false _ w (by unfold control_Rx.f;rw [if_neg Bool.false_ne_true];exact e)
 ·obtain ⟨k,hk⟩:=one_spec 0 n 1 1 (by decide) hn (by decide) (by decide) (by decide)
  have e:=hk k (Nat.le_refl _)
  exact control_Rx.calls k n true _ w (by unfold control_Rx.f;rw [if_pos rfl];exact e)
theorem vlan_cmd (v:Nat) (on:Bool) (w:World) (hv:v < 9223372036854775808):Calls Try.prog 15 #[.int .i64 v,.bool on] w fun e w'=>e=.returned (.string (vlanB v on))∧Below w.heap.size w w':=by
 cases on
 ·obtain ⟨k,hk⟩:=one_spec 2 1 v 2 (by decide) (by decide) hv (by decide) (by decide)
  have e:=hk k (Nat.le_refl _)
  exact control_Vlan.calls k v false _ w (by unfold control_Vlan.f;rw [if_neg Bool.false_ne_true];exact e)
 ·obtain ⟨k,hk⟩:=one_spec 2 0 v 2 (by decide) (by decide) hv (by decide) (by decide)
  have e:=hk k (Nat.le_refl _)
  exact control_Vlan.calls k v true _ w (by unfold control_Vlan.f;rw [if_pos rfl];exact e)
theorem pairs_cmd (v:Nat) (w:World) (hv:v < 9223372036854775808):Calls Try.prog 17 #[.int .i64 v] w fun e w'=>e=.returned (.string (pairsB v))∧Below w.heap.size w w':=by
 obtain ⟨k,hk⟩:=one_spec 4 0 v 2 (by decide) (by decide) hv (by decide) (by decide)
 exact control_Pairs.calls k v _ w (hk k (Nat.le_refl _))
end Go.Proofs.Ytkgbhlcbjflnlaa.Fl
end
section
/- Commands and settings: contracts by hand, and the laws over them. -/
namespace Go.Proofs.Ytkgbhlcbjflnlaa.Fl
open Go Go.RowKit Go.Proofs.YtkgbhlcbjflnlaaW.PrintWords Go.Proofs.YtkgbhlcbjflnlaaW.PrintLast Go.Proofs.YtkgbhlcbjflnlaaW.PrintMore Go.Proofs.Ytkgbhlcbjflnlaa.Mth Go.Proofs.Ytkgbhlcbjflnlaa.P Go.Proofs.Ytkgbhlcbjflnlaa.Own Go.Proofs
set_option linter.unusedVariables false
set_option linter.unusedSimpArgs false
/-! ### What the reader makes of the bytes of commands -/
theorem takeS_app (l m:List Nat) (hl:Bt l) (hm:Bt m) (b:Bool) (n:Nat) (hn:n=l.length):takeS (mk (l ++ m),b) n=(mk l,(mk m,b)):=by
 subst hn
 unfold takeS
 rw [if_neg (by rw [mk_size,List.length_append];omega)]
 have e1:(mk (l ++ m)).extract 0 l.length=mk l:=by
  apply B_inj
  rw [B_extract,B_mk (hl.append hm),B_mk hl]
  simp
 have e2:(mk (l ++ m)).extract l.length (mk (l ++ m)).size=mk m:=by
  apply B_inj
  rw [B_extract,B_mk (hl.append hm),B_mk hm,mk_size,List.take_length]
  simp
 dsimp only
 rw [e1,e2]
theorem numS_app (l m:List Nat) (hl:Bt l) (hm:Bt m) (b:Bool) (n:Nat) (hn:n=l.length):numS (mk (l ++ m),b) n=(((le l:Nat):Int),(mk m,b)):=by
 unfold numS
 rw [takeS_app l m hl hm b n hn,if_pos (by rw [mk_size,hn])]
 dsimp only
 rw [B_mk hl]
theorem numS_lo (n v:Nat) (m:List Nat) (hm:Bt m) (b:Bool):numS (mk (lo n v ++ m),b) n=(((v % 256 ^ n:Nat):Int),(mk m,b)):=by
 rw [numS_app _ _ (lo_bt _ _) hm b n (lo_length _ _).symm,le_lo]
theorem numS_lo0 (n v:Nat) (b:Bool):numS (mk (lo n v),b) n=(((v % 256 ^ n:Nat):Int),(mk [],b)):=by
 have q:=numS_lo n v [] Bt.nil b
 rwa [List.append_nil] at q
theorem numS_short (s:ByteArray) (b:Bool) (n:Nat) (h1:1≤n) (h:s.size < n):numS (s,b) n=(0,(s,true)):=by
 unfold numS takeS
 dsimp only
 rw [if_pos h]
 rw [if_neg (by show ¬ (0=n);omega)]
theorem nil_empty:(mk []).toList.isEmpty=true:=by rw [toList_eq];rfl
theorem doesS_com (C:Cfg) (c n:Nat) (l:List Nat) (h:Bt l):doesS C (mk (comB c n l),false)=doneS (swS (onS C ((c % 256:Nat):Int)) ((c % 256:Nat):Int) ((n % 256:Nat):Int) (mk l,false)):=by
 unfold doesS comB
 rw [numS_lo 1 c _ ((lo_bt _ _).append h)]
 dsimp only
 rw [numS_lo 1 n _ h]
theorem doneS_ok (C:Cfg) (b:Bool):doneS (C,b,(mk [],false))=(C,b):=by
 unfold doneS
 dsimp only
 rw [nil_empty]
 simp
theorem onS_ne (C:Cfg) (c:Int) (h:c ≠ 4):onS C c=C:=by
 unfold onS
 rw [bne_iff_ne.2 h,Bool.and_true]
theorem onS_four (C:Cfg):onS C 4={ C with on:=false }:=by
 unfold onS
 rw [show ((4:Int) != 4)=false from rfl,Bool.and_false]
theorem does_rx (C:Cfg) (n:Nat) (on:Bool):doesS C (rxB n on,false)=({ C with F:=(rxS C.F ((n % 256:Nat):Int) (if on then 1 else 0)).1 },(rxS C.F ((n % 256:Nat):Int) (if on then 1 else 0)).2):=by
 unfold rxB
 rw [doesS_com _ _ _ _ (lo_bt _ _)]
 rw [show ((0 % 256:Nat):Int)=0 from rfl,onS_ne _ _ (by decide)]
 unfold swS
 rw [if_pos rfl,numS_lo0]
 have e:((((if on=true then 1 else 0) % 256 ^ 1:Nat)):Int)=if on=true then 1 else 0:=by cases on <;> rfl
 rw [e]
 exact doneS_ok _ _
theorem does_vlan (C:Cfg) (v:Nat) (on:Bool):doesS C (vlanB v on,false)=({ C with F:=(netS C.F (if on then 0 else 1) ((v % 65536:Nat):Int)).1 },(netS C.F (if on then 0 else 1) ((v % 65536:Nat):Int)).2):=by
 unfold vlanB
 rw [doesS_com _ _ _ _ (lo_bt _ _)]
 rw [show ((2 % 256:Nat):Int)=2 from rfl,onS_ne _ _ (by decide)]
 unfold swS
 rw [if_neg (by decide),if_neg (by decide),if_pos rfl,numS_lo0]
 have e:((((if on=true then 0 else 1) % 256:Nat)):Int)=if on=true then 0 else 1:=by cases on <;> rfl
 rw [e]
 exact doneS_ok _ _
theorem does_pairs (C:Cfg) (v:Nat):doesS C (pairsB v,false)=({ C with p:=((v % 65536:Nat):Int),on:=false },decide (((v % 65536:Nat):Int) ≥ 1) && decide (((v % 65536:Nat):Int)≤C.mx)):=by
 unfold pairsB
 rw [doesS_com _ _ _ _ (lo_bt _ _)]
 rw [show ((4 % 256:Nat):Int)=4 from rfl,show ((0 % 256:Nat):Int)=0 from rfl,onS_four]
 unfold swS
 rw [if_neg (by decide),if_neg (by decide),if_neg (by decide),if_pos rfl]
 unfold pairS
 rw [if_pos rfl,numS_lo0]
 dsimp only
 rw [doneS_ok,Bool.true_and]
/-- What a command that is not right makes. -/
theorem appS_no (C:Cfg) (s:ByteArray) (h:(doesS C (s,false)).2=false):appS C s=(C,1):=by
 unfold appS
 rw [if_neg (by rintro ⟨a,_⟩;rw [h] at a;cases a)]
/-! ### How many bytes a command has -/
theorem numS_size (r:RS) (n:Nat) (h1:1≤n) (h:(numS r n).2.2=false):r.2=false∧r.1.size=n+(numS r n).2.1.size∧(numS r n)=(((le (B (r.1.extract 0 n)):Nat):Int),(r.1.extract n r.1.size,false)):=by
 unfold numS takeS at h ⊢
 by_cases hs:r.1.size < n
 ·rw [if_pos hs,if_neg (by show ¬ (0=n);omega)] at h
  cases h
 ·rw [if_neg hs,if_pos (by simp;omega)] at h ⊢
  dsimp only at h ⊢
  refine ⟨h,by simp;omega,?_⟩
  rw [h]
theorem rest_nil {s:ByteArray} (h:s.toList.isEmpty=true):s.size=0:=by
 rw [toList_eq] at h
 have e:s.data=#[]:=by simpa using h
 show s.data.size=0
 rw [e]
 rfl
theorem num_end (r:RS) (n:Nat) (h1:1≤n) (h:r.1.size ≠ n):(!(numS r n).2.2 && (numS r n).2.1.toList.isEmpty)=false:=by
 cases q:(numS r n).2.2
 ·have:=(numS_size r n h1 q).2.1
  cases z:(numS r n).2.1.toList.isEmpty
  ·rfl
  ·have:=rest_nil z;omega
 ·rfl
/-! ### A reader that is too short stays it -/
theorem bad_take (r:RS) (n:Nat) (h:r.2=true):(takeS r n).2.2=true:=by
 unfold takeS
 split
 ·rfl
 ·exact h
theorem bad_num (r:RS) (n:Nat) (h:r.2=true):(numS r n).2.2=true:=by
 unfold numS
 split
 ·exact bad_take r n h
 ·rfl
theorem bad_macsL:∀ (k:Nat) (r:RS),r.2=true→(macsL k r).2.2=true
 | 0,r,h=>h
 | k+1,r,h=>by unfold macsL;rw [if_pos h];exact h
theorem bad_macs (r:RS) (h:r.2=true):(macsS r).2.2=true:=by
 unfold macsS
 exact bad_macsL _ _ (by dsimp only;rw [bad_num r 4 h];rfl)
theorem bad_tabL:∀ (k:Nat) (r:RS),r.2=true→(tabL k r).2.2=true
 | 0,r,h=>h
 | k+1,r,h=>by unfold tabL;rw [if_pos h];exact h
theorem bad_rules (r:RS) (h:r.2=true):(rulesS r).r.2=true:=by
 unfold rulesS rulesT
 exact bad_tabL _ _ (by dsimp only;rw [bad_num _ 2 (bad_num _ 2 (bad_num r 4 h))];rfl)
theorem bad_pair (C:Cfg) (cmd:Int) (r:RS) (h:r.2=true):(pairS C cmd r).2.2.2=true:=by
 unfold pairS
 split
 ·exact bad_num r 2 h
 ·split
  ·dsimp only
   exact bad_take _ _ (bad_num _ 1 (bad_num _ 2 (bad_rules r h)))
  ·exact h
theorem bad_sw (C:Cfg) (cl cmd:Int) (r:RS) (h:r.2=true):(swS C cl cmd r).2.2.2=true:=by
 unfold swS
 split
 ·dsimp only;exact bad_num r 1 h
 ·split
  ·split
   ·dsimp only;exact bad_macs _ (bad_macs r h)
   ·split
    ·dsimp only;exact bad_take r 6 h
    ·exact h
  ·split
   ·dsimp only;exact bad_num r 2 h
   ·split
    ·dsimp only;exact bad_pair C cmd r h
    ·exact h
theorem done_bad (x:Cfg × Bool × RS) (h:x.2.2.2=true):(doneS x).2=false:=by
 unfold doneS
 dsimp only
 rw [h]
 simp
/-! ### Commands that are too short or too long -/
theorem does_short (C:Cfg) (s:ByteArray) (h:s.size < 2):(doesS C (s,false)).2=false:=by
 unfold doesS
 refine done_bad _ (bad_sw _ _ _ _ ?_)
 cases q:(numS (s,false) 1).2.2
 ·have e:=(numS_size (s,false) 1 (by decide) q).2.1
  obtain ⟨⟨v,t,b⟩,ex⟩:∃ x,numS (s,false) 1=x:=⟨_,rfl⟩
  rw [ex] at e q ⊢
  dsimp only at e q ⊢
  rw [numS_short t b 1 (by decide) (by omega)]
 ·exact bad_num _ 1 q
theorem does_len0 (C:Cfg) (n:Nat) (l:List Nat) (h:Bt l) (hl:l.length ≠ 1):(doesS C (mk (comB 0 n l),false)).2=false:=by
 rw [doesS_com _ _ _ _ h,show ((0 % 256:Nat):Int)=0 from rfl]
 unfold swS doneS
 rw [if_pos rfl]
 dsimp only
 rw [Bool.and_assoc,num_end (mk l,false) 1 (by decide) (by rw [mk_size];exact hl),Bool.and_false]
theorem does_len2 (C:Cfg) (n:Nat) (l:List Nat) (h:Bt l) (hl:l.length ≠ 2):(doesS C (mk (comB 2 n l),false)).2=false:=by
 rw [doesS_com _ _ _ _ h,show ((2 % 256:Nat):Int)=2 from rfl]
 unfold swS doneS
 rw [if_neg (by decide),if_neg (by decide),if_pos rfl]
 dsimp only
 rw [Bool.and_assoc,num_end (mk l,false) 2 (by decide) (by rw [mk_size];exact hl),Bool.and_false]
theorem does_len4 (C:Cfg) (l:List Nat) (h:Bt l) (hl:l.length ≠ 2):(doesS C (mk (comB 4 0 l),false)).2=false:=by
 rw [doesS_com _ _ _ _ h,show ((4 % 256:Nat):Int)=4 from rfl,show ((0 % 256:Nat):Int)=0 from rfl]
 unfold swS doneS
 rw [if_neg (by decide),if_neg (by decide),if_neg (by decide),if_pos rfl]
 unfold pairS
 rw [if_pos rfl]
 dsimp only
 rw [Bool.and_assoc,num_end (mk l,false) 2 (by decide) (by rw [mk_size];exact hl),Bool.and_false]
end Go.Proofs.Ytkgbhlcbjflnlaa.Fl
end
section
/- Commands and settings: contracts by hand, and the laws over them. -/
namespace Go.Proofs.Ytkgbhlcbjflnlaa.Fl
open Go Go.RowKit Go.Proofs.YtkgbhlcbjflnlaaW.PrintWords Go.Proofs.YtkgbhlcbjflnlaaW.PrintLast Go.Proofs.YtkgbhlcbjflnlaaW.PrintMore Go.Proofs.Ytkgbhlcbjflnlaa.Mth Go.Proofs.Ytkgbhlcbjflnlaa.P Go.Proofs.Ytkgbhlcbjflnlaa.Own Go.Proofs
set_option linter.unusedVariables false
set_option linter.unusedSimpArgs false
theorem w1 {i n:Nat} (h:i < n) (hn:n≤1099511627776):wrap64 ((i:Int)+1)=((i+1:Nat):Int):=by rw [wrap64_in (by omega) (by omega)];omega
/-! ### Networks as the document has them -/
theorem sorted_ext:∀ {l1 l2:List Int},l1.Pairwise (· < ·)→l2.Pairwise (· < ·)→(∀ x,x∈l1 ↔ x∈l2)→l1=l2
 | [],[],_,_,_=>rfl
 | [],b :: r,_,_,h=>absurd ((h b).2 (by simp)) (by simp)
 | a :: r,[],_,_,h=>absurd ((h a).1 (by simp)) (by simp)
 | a :: r,b :: s,h1,h2,h=>by
  obtain ⟨k1,k2⟩:=List.pairwise_cons.1 h1
  obtain ⟨m1,m2⟩:=List.pairwise_cons.1 h2
  have e:a=b:=by
   rcases List.mem_cons.1 ((h a).1 (by simp)) with q | q
   ·exact q
   ·rcases List.mem_cons.1 ((h b).2 (by simp)) with p | p
    ·exact p.symm
    ·have:=m1 a q;have:=k1 b p;omega
  subst e
  rw [sorted_ext k2 m2 fun x=>by
   constructor
   ·intro hx
    rcases List.mem_cons.1 ((h x).1 (List.mem_cons_of_mem _ hx)) with q | q
    ·have:=k1 x hx;omega
    ·exact q
   ·intro hx
    rcases List.mem_cons.1 ((h x).2 (List.mem_cons_of_mem _ hx)) with q | q
    ·have:=m1 x hx;omega
    ·exact q]
def keepS (vs:List Int) (n:Int) (is:Bool) (i:Nat):Bool:=((i:Int) == n && is) || (!((i:Int) == n) && vs.contains (i:Int))
def setL (vs:List Int) (n:Int) (is:Bool) (k:Nat):List Int:=((List.range k).filter (keepS vs n is)).map fun (i:Nat)=>(i:Int)
theorem setL_yes {vs:List Int} {n:Int} {is:Bool} {k:Nat} (h:keepS vs n is k=true):setL vs n is (k+1)=setL vs n is k ++ [(k:Int)]:=by
 unfold setL
 rw [List.range_succ,List.filter_append,List.map_append]
 simp [h]
theorem setL_no {vs:List Int} {n:Int} {is:Bool} {k:Nat} (h:keepS vs n is k=false):setL vs n is (k+1)=setL vs n is k:=by
 unfold setL
 rw [List.range_succ,List.filter_append,List.map_append]
 simp [h]
theorem setL_len (vs:List Int) (n:Int) (is:Bool) (k:Nat):(setL vs n is k).length≤k:=by
 unfold setL
 rw [List.length_map]
 exact Nat.le_trans (List.length_filter_le _ _) (by rw [List.length_range];exact Nat.le_refl _)
theorem setL_rise (vs:List Int) (n:Int) (is:Bool):∀ k,(setL vs n is k).Pairwise (· < ·)∧∀ x∈setL vs n is k,x < (k:Int)
 | 0=>⟨.nil,by simp [setL]⟩
 | k+1=>by
  obtain ⟨h1,h2⟩:=setL_rise vs n is k
  cases hk:keepS vs n is k with
  | false =>
   rw [setL_no hk]
   exact ⟨h1,fun x hx=>by have:=h2 x hx;omega⟩
  | true =>
   rw [setL_yes hk]
   refine ⟨List.pairwise_append.2 ⟨h1,by simp,fun a ha b hb=>?_⟩,fun x hx=>?_⟩
   ·rw [List.mem_singleton.1 hb];exact h2 a ha
   ·rcases List.mem_append.1 hx with q | q
    ·have:=h2 x q;omega
    ·rw [List.mem_singleton.1 q];omega
theorem setL_mem {vs:List Int} {n:Int} {is:Bool} {k:Nat} {x:Int}:x∈setL vs n is k ↔ 0≤x∧x < (k:Int)∧keepS vs n is x.toNat=true:=by
 unfold setL
 simp only [List.mem_map,List.mem_filter,List.mem_range]
 constructor
 ·rintro ⟨i,⟨h1,h2⟩,rfl⟩
  exact ⟨by omega,by omega,by simpa using h2⟩
 ·rintro ⟨h1,h2,h3⟩
  exact ⟨x.toNat,⟨by omega,h3⟩,by omega⟩
theorem ins_mem {n x:Int}:∀ {l:List Int},x∈insS n l ↔ x=n∨x∈l
 | []=>by simp [insS]
 | a :: r=>by
  unfold insS
  by_cases h1:a < n
  ·rw [if_pos h1,List.mem_cons,ins_mem (l:=r),List.mem_cons]
   constructor
   ·rintro (h | h | h)
    ·exact .inr (.inl h)
    ·exact .inl h
    ·exact .inr (.inr h)
   ·rintro (h | h | h)
    ·exact .inr (.inl h)
    ·exact .inl h
    ·exact .inr (.inr h)
  ·rw [if_neg h1]
   by_cases h2:a=n
   ·rw [if_pos h2,List.mem_cons,h2]
    constructor
    ·rintro (h | h)
     ·exact .inl h
     ·exact .inr (.inr h)
    ·rintro (h | h | h)
     ·exact .inl h
     ·exact .inl h
     ·exact .inr h
   ·rw [if_neg h2,List.mem_cons]
theorem ins_rise {n:Int}:∀ {l:List Int},l.Pairwise (· < ·)→(insS n l).Pairwise (· < ·)
 | [],_=>by simp [insS]
 | a :: r,h=>by
  obtain ⟨k1,k2⟩:=List.pairwise_cons.1 h
  unfold insS
  by_cases h1:a < n
  ·rw [if_pos h1]
   refine List.pairwise_cons.2 ⟨fun x hx=>?_,ins_rise k2⟩
   rcases ins_mem.1 hx with q | q
   ·omega
   ·exact k1 x q
  ·rw [if_neg h1]
   by_cases h2:a=n
   ·rw [if_pos h2];exact h
   ·rw [if_neg h2]
    refine List.pairwise_cons.2 ⟨fun x hx=>?_,h⟩
    rcases List.mem_cons.1 hx with q | q
    ·omega
    ·have:=k1 x q;omega
theorem del_mem {n x:Int} {l:List Int}:x∈delS n l ↔ x∈l∧x ≠ n:=by
 unfold delS
 rw [List.mem_filter]
 simp
theorem set_ins {vs:List Int} {n:Int} (h:argS vs n=true):setL vs n true 4095=insS n vs:=by
 unfold argS at h
 simp only [Bool.and_eq_true,decide_eq_true_eq] at h
 obtain ⟨h1,h2⟩:=nets_iff.1 h.2
 refine sorted_ext (setL_rise _ _ _ _).1 (ins_rise h1) fun x=>?_
 rw [setL_mem,ins_mem]
 constructor
 ·rintro ⟨a,b,c⟩
  unfold keepS at c
  rw [Int.toNat_of_nonneg a] at c
  by_cases e:x=n
  ·exact .inl e
  ·rw [show (x == n)=false from beq_eq_false_iff_ne.2 e] at c
   exact .inr (by simpa using c)
 ·intro hx
  have hb:0≤x∧x≤4094:=by
   rcases hx with q | q
   ·omega
   ·exact h2 x q
  refine ⟨hb.1,by omega,?_⟩
  unfold keepS
  rw [Int.toNat_of_nonneg hb.1]
  by_cases e:x=n
  ·rw [show (x == n)=true from beq_iff_eq.2 e];rfl
  ·rw [show (x == n)=false from beq_eq_false_iff_ne.2 e]
   rcases hx with q | q
   ·exact absurd q e
   ·simpa using q
theorem set_del {vs:List Int} {n:Int} (h:argS vs n=true):setL vs n false 4095=delS n vs:=by
 unfold argS at h
 simp only [Bool.and_eq_true,decide_eq_true_eq] at h
 obtain ⟨h1,h2⟩:=nets_iff.1 h.2
 refine sorted_ext (setL_rise _ _ _ _).1 (h1.filter _) fun x=>?_
 rw [setL_mem,del_mem]
 constructor
 ·rintro ⟨a,b,c⟩
  unfold keepS at c
  rw [Int.toNat_of_nonneg a] at c
  by_cases e:x=n
  ·rw [show (x == n)=true from beq_iff_eq.2 e] at c
   simp at c
  ·rw [show (x == n)=false from beq_eq_false_iff_ne.2 e] at c
   exact ⟨by simpa using c,e⟩
 ·rintro ⟨hx,e⟩
  have hb:=h2 x hx
  refine ⟨hb.1,by omega,?_⟩
  unfold keepS
  rw [Int.toNat_of_nonneg hb.1,show (x == n)=false from beq_eq_false_iff_ne.2 e]
  simpa using hx
end Go.Proofs.Ytkgbhlcbjflnlaa.Fl
end
