/- Commands and settings: contracts by hand, and the laws over them. -/
import Derived.Test.YtkgbhlcbjflnlaaZOwn
import Derived.Test.YtkgbhlcbjflnlaaZApp
import Derived.Test.YtkgbhlcbjflnlaaZLow
namespace Go.Proofs.Ytkgbhlcbjflnlaa.Fl
open Go Go.RowKit Go.Proofs.YtkgbhlcbjflnlaaW.PrintWords Go.Proofs.YtkgbhlcbjflnlaaW.PrintLast Go.Proofs.YtkgbhlcbjflnlaaW.PrintMore Go.Proofs.Ytkgbhlcbjflnlaa.Mth Go.Proofs.Ytkgbhlcbjflnlaa.P Go.Proofs.Ytkgbhlcbjflnlaa.Own Go.Proofs
set_option linter.unusedVariables false
set_option linter.unusedSimpArgs false
/-! ### What the reader makes of the bytes of commands -/
theorem takeS_app (l m:List Nat) (hl:Bt l) (hm:Bt m) (b:Bool) (n:Nat) (hn:n=l.length):takeS (mk (l ++ m),b) n=(mk l,(mk m,b)):=by
 subst hn
 unfold takeS
 rw [if_neg (by rw [mk_size,List.length_append];omega)]
 have e1:(mk (l ++ m)).extract 0 l.length=mk l:=by
  apply B_inj
  rw [B_extract,B_mk (hl.append hm),B_mk hl]
  simp
 have e2:(mk (l ++ m)).extract l.length (mk (l ++ m)).size=mk m:=by
  apply B_inj
  rw [B_extract,B_mk (hl.append hm),B_mk hm,mk_size,List.take_length]
  simp
 dsimp only
 rw [e1,e2]
theorem numS_app (l m:List Nat) (hl:Bt l) (hm:Bt m) (b:Bool) (n:Nat) (hn:n=l.length):numS (mk (l ++ m),b) n=(((le l:Nat):Int),(mk m,b)):=by
 unfold numS
 rw [takeS_app l m hl hm b n hn,if_pos (by rw [mk_size,hn])]
 dsimp only
 rw [B_mk hl]
theorem numS_lo (n v:Nat) (m:List Nat) (hm:Bt m) (b:Bool):numS (mk (lo n v ++ m),b) n=(((v % 256 ^ n:Nat):Int),(mk m,b)):=by
 rw [numS_app _ _ (lo_bt _ _) hm b n (lo_length _ _).symm,le_lo]
theorem numS_lo0 (n v:Nat) (b:Bool):numS (mk (lo n v),b) n=(((v % 256 ^ n:Nat):Int),(mk [],b)):=by
 have q:=numS_lo n v [] Bt.nil b
 rwa [List.append_nil] at q
theorem numS_short (s:ByteArray) (b:Bool) (n:Nat) (h1:1≤n) (h:s.size < n):numS (s,b) n=(0,(s,true)):=by
 unfold numS takeS
 dsimp only
 rw [if_pos h]
 rw [if_neg (by show ¬ (0=n);omega)]
theorem nil_empty:(mk []).toList.isEmpty=true:=by rw [toList_eq];rfl
theorem doesS_com (C:Cfg) (c n:Nat) (l:List Nat) (h:Bt l):doesS C (mk (comB c n l),false)=doneS (swS (onS C ((c % 256:Nat):Int)) ((c % 256:Nat):Int) ((n % 256:Nat):Int) (mk l,false)):=by
 unfold doesS comB
 rw [numS_lo 1 c _ ((lo_bt _ _).append h)]
 dsimp only
 rw [numS_lo 1 n _ h]
theorem doneS_ok (C:Cfg) (b:Bool):doneS (C,b,(mk [],false))=(C,b):=by
 unfold doneS
 dsimp only
 rw [nil_empty]
 simp
theorem onS_ne (C:Cfg) (c:Int) (h:c ≠ 4):onS C c=C:=by
 unfold onS
 rw [bne_iff_ne.2 h,Bool.and_true]
theorem onS_four (C:Cfg):onS C 4={ C with on:=false }:=by
 unfold onS
 rw [show ((4:Int) != 4)=false from rfl,Bool.and_false]
theorem does_rx (C:Cfg) (n:Nat) (on:Bool):doesS C (rxB n on,false)=({ C with F:=(rxS C.F ((n % 256:Nat):Int) (if on then 1 else 0)).1 },(rxS C.F ((n % 256:Nat):Int) (if on then 1 else 0)).2):=by
 unfold rxB
 rw [doesS_com _ _ _ _ (lo_bt _ _)]
 rw [show ((0 % 256:Nat):Int)=0 from rfl,onS_ne _ _ (by decide)]
 unfold swS
 rw [if_pos rfl,numS_lo0]
 have e:((((if on=true then 1 else 0) % 256 ^ 1:Nat)):Int)=if on=true then 1 else 0:=by cases on <;> rfl
 rw [e]
 exact doneS_ok _ _
theorem does_vlan (C:Cfg) (v:Nat) (on:Bool):doesS C (vlanB v on,false)=({ C with F:=(netS C.F (if on then 0 else 1) ((v % 65536:Nat):Int)).1 },(netS C.F (if on then 0 else 1) ((v % 65536:Nat):Int)).2):=by
 unfold vlanB
 rw [doesS_com _ _ _ _ (lo_bt _ _)]
 rw [show ((2 % 256:Nat):Int)=2 from rfl,onS_ne _ _ (by decide)]
 unfold swS
 rw [if_neg (by decide),if_neg (by decide),if_pos rfl,numS_lo0]
 have e:((((if on=true then 0 else 1) % 256:Nat)):Int)=if on=true then 0 else 1:=by cases on <;> rfl
 rw [e]
 exact doneS_ok _ _
theorem does_pairs (C:Cfg) (v:Nat):doesS C (pairsB v,false)=({ C with p:=((v % 65536:Nat):Int),on:=false },decide (((v % 65536:Nat):Int) ≥ 1) && decide (((v % 65536:Nat):Int)≤C.mx)):=by
 unfold pairsB
 rw [doesS_com _ _ _ _ (lo_bt _ _)]
 rw [show ((4 % 256:Nat):Int)=4 from rfl,show ((0 % 256:Nat):Int)=0 from rfl,onS_four]
 unfold swS
 rw [if_neg (by decide),if_neg (by decide),if_neg (by decide),if_pos rfl]
 unfold pairS
 rw [if_pos rfl,numS_lo0]
 dsimp only
 rw [doneS_ok,Bool.true_and]
/-- What a command that is not right makes. -/
theorem appS_no (C:Cfg) (s:ByteArray) (h:(doesS C (s,false)).2=false):appS C s=(C,1):=by
 unfold appS
 rw [if_neg (by rintro ⟨a,_⟩;rw [h] at a;cases a)]
/-! ### How many bytes a command has -/
theorem numS_size (r:RS) (n:Nat) (h1:1≤n) (h:(numS r n).2.2=false):r.2=false∧r.1.size=n+(numS r n).2.1.size∧(numS r n)=(((le (B (r.1.extract 0 n)):Nat):Int),(r.1.extract n r.1.size,false)):=by
 unfold numS takeS at h ⊢
 by_cases hs:r.1.size < n
 ·rw [if_pos hs,if_neg (by show ¬ (0=n);omega)] at h
  cases h
 ·rw [if_neg hs,if_pos (by simp;omega)] at h ⊢
  dsimp only at h ⊢
  refine ⟨h,by simp;omega,?_⟩
  rw [h]
theorem rest_nil {s:ByteArray} (h:s.toList.isEmpty=true):s.size=0:=by
 rw [toList_eq] at h
 have e:s.data=#[]:=by simpa using h
 show s.data.size=0
 rw [e]
 rfl
/-! ### A reader that is too short stays it -/
theorem bad_take (r:RS) (n:Nat) (h:r.2=true):(takeS r n).2.2=true:=by
 unfold takeS
 split
 ·rfl
 ·exact h
theorem bad_num (r:RS) (n:Nat) (h:r.2=true):(numS r n).2.2=true:=by
 unfold numS
 split
 ·exact bad_take r n h
 ·rfl
theorem bad_macsL:∀ (k:Nat) (r:RS),r.2=true→(macsL k r).2.2=true
 | 0,r,h=>h
 | k+1,r,h=>by unfold macsL;rw [if_pos h];exact h
theorem bad_macs (r:RS) (h:r.2=true):(macsS r).2.2=true:=by
 unfold macsS
 exact bad_macsL _ _ (by dsimp only;rw [bad_num r 4 h];rfl)
theorem bad_tabL:∀ (k:Nat) (r:RS),r.2=true→(tabL k r).2.2=true
 | 0,r,h=>h
 | k+1,r,h=>by unfold tabL;rw [if_pos h];exact h
theorem bad_rules (r:RS) (h:r.2=true):(rulesS r).r.2=true:=by
 unfold rulesS rulesT
 exact bad_tabL _ _ (by dsimp only;rw [bad_num _ 2 (bad_num _ 2 (bad_num r 4 h))];rfl)
theorem bad_pair (C:Cfg) (cmd:Int) (r:RS) (h:r.2=true):(pairS C cmd r).2.2.2=true:=by
 unfold pairS
 split
 ·exact bad_num r 2 h
 ·split
  ·dsimp only
   exact bad_take _ _ (bad_num _ 1 (bad_num _ 2 (bad_rules r h)))
  ·exact h
theorem bad_sw (C:Cfg) (cl cmd:Int) (r:RS) (h:r.2=true):(swS C cl cmd r).2.2.2=true:=by
 unfold swS
 split
 ·dsimp only;exact bad_num r 1 h
 ·split
  ·split
   ·dsimp only;exact bad_macs _ (bad_macs r h)
   ·split
    ·dsimp only;exact bad_take r 6 h
    ·exact h
  ·split
   ·dsimp only;exact bad_num r 2 h
   ·split
    ·dsimp only;exact bad_pair C cmd r h
    ·exact h
theorem done_bad (x:Cfg × Bool × RS) (h:x.2.2.2=true):(doneS x).2=false:=by
 unfold doneS
 dsimp only
 rw [h]
 simp
/-! ### Commands that are too short or too long -/
theorem does_short (C:Cfg) (s:ByteArray) (h:s.size < 2):(doesS C (s,false)).2=false:=by
 unfold doesS
 refine done_bad _ (bad_sw _ _ _ _ ?_)
 cases q:(numS (s,false) 1).2.2
 ·have e:=(numS_size (s,false) 1 (by decide) q).2.1
  obtain ⟨⟨v,t,b⟩,ex⟩:∃ x,numS (s,false) 1=x:=⟨_,rfl⟩
  rw [ex] at e q ⊢
  dsimp only at e q ⊢
  rw [numS_short t b 1 (by decide) (by omega)]
 ·exact bad_num _ 1 q
end Go.Proofs.Ytkgbhlcbjflnlaa.Fl
