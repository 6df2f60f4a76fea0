/- Commands and settings: contracts by hand, and the laws over them. -/
import Derived.Test.YtkgbhlcbjflnlaaZOwn
import Derived.Test.YtkgbhlcbjflnlaaZPl3
import Derived.Test.YtkgbhlcbjflnlaaZPx18
namespace Go.Proofs.Ytkgbhlcbjflnlaa.Fl
open Go Go.RowKit Go.Proofs.YtkgbhlcbjflnlaaW.PrintWords Go.Proofs.YtkgbhlcbjflnlaaW.PrintLast Go.Proofs.YtkgbhlcbjflnlaaW.PrintMore Go.Proofs.Ytkgbhlcbjflnlaa.Mth Go.Proofs.Ytkgbhlcbjflnlaa.P Go.Proofs.Ytkgbhlcbjflnlaa.Own Go.Proofs
set_option linter.unusedVariables false
set_option linter.unusedSimpArgs false
/-! ### ControlSets, plainly -/
theorem rx_idem (F:Flt) (cmd on:Int):rxS (rxS F cmd on).1 cmd on=rxS F cmd on:=by
 unfold rxS
 by_cases h0:cmd=0
 ·simp only [if_pos h0]
 ·simp only [if_neg h0]
  by_cases h1:cmd=1
  ·simp only [if_pos h1]
  ·simp only [if_neg h1]
   by_cases h2:cmd=2
   ·simp only [if_pos h2]
   ·simp only [if_neg h2]
    by_cases h3:cmd=3
    ·simp only [if_pos h3]
    ·simp only [if_neg h3]
     by_cases h4:cmd=4
     ·simp only [if_pos h4]
     ·simp only [if_neg h4]
      by_cases h5:cmd=5
      ·simp only [if_pos h5]
      ·simp only [if_neg h5]
theorem rx_lists (F:Flt) (cmd on:Int):(rxS F cmd on).1.us=F.us∧(rxS F cmd on).1.ms=F.ms∧(rxS F cmd on).1.vs=F.vs:=by
 unfold rxS
 split
 ·exact ⟨rfl,rfl,rfl⟩
 ·split
  ·exact ⟨rfl,rfl,rfl⟩
  ·split
   ·exact ⟨rfl,rfl,rfl⟩
   ·split
    ·exact ⟨rfl,rfl,rfl⟩
    ·split
     ·exact ⟨rfl,rfl,rfl⟩
     ·split
      ·exact ⟨rfl,rfl,rfl⟩
      ·exact ⟨rfl,rfl,rfl⟩
/-- What a right command leaves. -/
structure Left (C D:Cfg):Prop where
 mx:D.mx=C.mx
 tab:D.tab=C.tab
 vs:D.F.vs.length≤C.F.vs.length+1
structure SetP (C D:Cfg) (n:Int) (s:ByteArray) (Q:Cfg→Prop):Prop where
 once:appS C s=(D,n)
 twice:appS D s=(D,n)
 ack:n=0∨(n=1∧D=C)
 chk:chkF D.F=0
 left:Left C D
 said:n=0→Q D
theorem setP_of (C:Cfg) (s:ByteArray) (Q:Cfg→Prop) (hc:chkF C.F=0) (h:∀ D,doesS C (s,false)=(D,true)→doesS D (s,false)=(D,true)∧Left C D∧Q D):∃ D n,SetP C D n s Q:=by
 obtain ⟨⟨D,ok⟩,ed⟩:∃ x,doesS C (s,false)=x:=⟨_,rfl⟩
 have eC:Left C C:=⟨rfl,rfl,Nat.le_succ _⟩
 by_cases hk:ok=true∧chkF D.F=0
 ·obtain ⟨rfl,hz⟩:=hk
  obtain ⟨h1,h2,h3⟩:=h D ed
  exact ⟨D,0,appS_ok C D s ed hz,appS_ok D D s h1 hz,.inl rfl,hz,h2,fun _=>h3⟩
 ·have e:appS C s=(C,1):=by
   unfold appS
   rw [ed,if_neg hk]
  exact ⟨C,1,e,e,.inr ⟨rfl,rfl⟩,hc,eC,fun h=>by cases h⟩
theorem set_rx (C:Cfg) (n:Nat) (on:Bool) (hc:chkF C.F=0):∃ D m,SetP C D m (rxB n on) (fun D=>D.p=C.p∧D.on=C.on):=by
 refine setP_of C _ _ hc fun D hD=>?_
 rw [does_rx] at hD ⊢
 obtain ⟨o,ho⟩:∃ o:Int,(if on=true then (1:Int) else 0)=o:=⟨_,rfl⟩
 rw [ho] at hD ⊢
 obtain ⟨h1,h2⟩:=Prod.mk.inj hD
 subst h1
 dsimp only
 refine ⟨?_,⟨rfl,rfl,?_⟩,rfl,rfl⟩
 ·rw [rx_idem,h2]
 ·rw [(rx_lists _ _ _).2.2]
  exact Nat.le_succ _
theorem set_mac (C:Cfg) (m:ByteArray) (hc:chkF C.F=0):∃ D k,SetP C D k (macB m) (fun D=>D.F.m=m∧D.p=C.p∧D.on=C.on):=by
 refine setP_of C _ _ hc fun D hD=>?_
 by_cases h:m.size=6
 ·rw [does_mac C m h] at hD
  obtain ⟨h1,-⟩:=Prod.mk.inj hD
  subst h1
  rw [does_mac _ m h]
  exact ⟨rfl,⟨rfl,rfl,Nat.le_succ _⟩,rfl,rfl,rfl⟩
 ·have:=does_mac_no C m h
  rw [hD] at this
  cases this
theorem set_table (C:Cfg) (us ms:List ByteArray) (hu:∀ u∈us,u.size=6) (hm:∀ u∈ms,u.size=6) (hc:chkF C.F=0) :
  ∃ D k,SetP C D k (tableB us ms) (fun D=>D.F.us.length=us.length∧D.F.ms.length=ms.length∧D.p=C.p∧D.on=C.on):=by
 refine setP_of C _ _ hc fun D hD=>?_
 by_cases h:us.length≤16∧ms.length≤16
 ·rw [does_table C us ms hu hm h.1 h.2] at hD
  obtain ⟨h1,-⟩:=Prod.mk.inj hD
  subst h1
  rw [does_table _ us ms hu hm h.1 h.2]
  exact ⟨rfl,⟨rfl,rfl,Nat.le_succ _⟩,rfl,rfl,rfl,rfl⟩
 ·have:=does_table_no C us ms hu hm (by omega)
  rw [hD] at this
  cases this
theorem set_pairs (C:Cfg) (v:Nat) (hv:v < 65536) (hc:chkF C.F=0):∃ D k,SetP C D k (pairsB v) (fun D=>D.p=(v:Int)∧D.on=false∧D.F=C.F):=by
 refine setP_of C _ _ hc fun D hD=>?_
 rw [does_pairs,Nat.mod_eq_of_lt hv] at hD ⊢
 obtain ⟨h1,h2⟩:=Prod.mk.inj hD
 subst h1
 dsimp only
 exact ⟨by rw [h2],⟨rfl,rfl,Nat.le_succ _⟩,rfl,rfl,rfl⟩
theorem has_in {vs:List Int} {n:Int}:(insS n vs).contains n=true:=by
 rw [List.contains_iff_mem]
 exact ins_mem.2 (.inl rfl)
theorem has_out {vs:List Int} {n:Int}:(delS n vs).contains n=false:=by
 cases h:(delS n vs).contains n
 ·rfl
 ·rw [List.contains_iff_mem] at h
  exact absurd rfl (del_mem.1 h).2
theorem set_vlan (C:Cfg) (v:Nat) (on:Bool) (hv:v < 65536) (hc:chkF C.F=0):∃ D k,SetP C D k (vlanB v on) (fun D=>D.F.vs.contains (v:Int)=on∧D.p=C.p∧D.on=C.on):=by
 refine setP_of C _ _ hc fun D hD=>?_
 rw [does_vlan,Nat.mod_eq_of_lt hv] at hD ⊢
 obtain ⟨h1,h2⟩:=Prod.mk.inj hD
 subst h1
 dsimp only
 cases on
 ·have e:netS C.F (if false=true then 0 else 1) (v:Int)=if argS C.F.vs (v:Int)=true then ({ C.F with vs:=delS (v:Int) C.F.vs },true) else (zeroFlt,false):=rfl
  rw [e] at h2 ⊢
  by_cases ha:argS C.F.vs (v:Int)=true
  ·rw [if_pos ha] at h2 ⊢
   dsimp only
   have a2:argS (delS (v:Int) C.F.vs) (v:Int)=true:=argS_iff.2 ⟨(argS_iff.1 ha).1,nets_del (argS_iff.1 ha).2⟩
   have e2:netS { C.F with vs:=delS (v:Int) C.F.vs } (if false=true then 0 else 1) (v:Int)=if argS (delS (v:Int) C.F.vs) (v:Int)=true then ({ C.F with vs:=delS (v:Int) (delS (v:Int) C.F.vs) },true) else (zeroFlt,false):=rfl
   rw [e2,if_pos a2,del_del]
   exact ⟨rfl,⟨rfl,rfl,Nat.le_trans (del_le _ _) (Nat.le_succ _)⟩,has_out,rfl,rfl⟩
  ·rw [if_neg ha] at h2
   cases h2
 ·have e:netS C.F (if true=true then 0 else 1) (v:Int)=if argS C.F.vs (v:Int)=true then ({ C.F with vs:=insS (v:Int) C.F.vs },true) else (zeroFlt,false):=rfl
  rw [e] at h2 ⊢
  by_cases ha:argS C.F.vs (v:Int)=true
  ·rw [if_pos ha] at h2 ⊢
   dsimp only
   have a0:=argS_iff.1 ha
   have a2:argS (insS (v:Int) C.F.vs) (v:Int)=true:=argS_iff.2 ⟨a0.1,nets_ins a0.2 a0.1.1 a0.1.2⟩
   have e2:netS { C.F with vs:=insS (v:Int) C.F.vs } (if true=true then 0 else 1) (v:Int)=if argS (insS (v:Int) C.F.vs) (v:Int)=true then ({ C.F with vs:=insS (v:Int) (insS (v:Int) C.F.vs) },true) else (zeroFlt,false):=rfl
   rw [e2,if_pos a2,ins_ins a0.2]
   exact ⟨rfl,⟨rfl,rfl,ins_le _ _⟩,has_in,rfl,rfl⟩
  ·rw [if_neg ha] at h2
   cases h2
theorem chk_lens {F:Flt} (h:chkF F=0):F.us.length≤16∧F.ms.length≤16:=by
 unfold chkF checkS at h
 split at h
 ·rename_i q
  exact ⟨q.2.1,q.2.2.1⟩
 ·cases h
theorem SetP.small {C D:Cfg} {n:Int} {s:ByteArray} {Q:Cfg→Prop} (h:SetP C D n s Q) (hs:SmallC C) (hv:C.F.vs.length≤60):SmallC D:=by
 obtain ⟨h1,h2⟩:=chk_lens h.chk
 have h3:=h.left.vs
 have h4:=hs.2
 rw [← h.left.tab] at h4
 exact ⟨⟨by omega,by omega,by omega⟩,h4⟩
/-! ### Have all addresses six bytes? -/
def sixS (l:List ByteArray):Bool:=l.all fun s=>decide (s.size=6)
theorem six_l0 (l:List ByteArray) (hl:l.length≤9007199254740992):∀ (d i k:Nat),i≤l.length→l.length - i=d→d < k→aqueductlaw17_six.l0 k l (i:Int)=some (sixS (l.drop i)):=by
 intro d
 induction d with
 | zero =>
  intro i k hi hd hk
  obtain ⟨k,rfl⟩:∃ m,k=m+1:=⟨k - 1,by omega⟩
  rw [aqueductlaw17_six.l0,if_neg (by omega),List.drop_eq_nil_of_le (by omega)]
  rfl
 | succ d ih =>
  intro i k hi hd hk
  obtain ⟨k,rfl⟩:∃ m,k=m+1:=⟨k - 1,by omega⟩
  have hlt:i < l.length:=by omega
  have er:rdOf ByteArray.empty l (i:Int)=l[i]:=by simp [rdOf,List.getD_eq_getElem?_getD,List.getElem?_eq_getElem hlt]
  rw [aqueductlaw17_six.l0,if_pos (by omega),if_pos (by omega),er,List.drop_eq_getElem_cons hlt]
  unfold sixS
  rw [List.all_cons]
  by_cases h6:l[i].size=6
  ·rw [if_pos (by omega),decide_eq_true h6,Bool.true_and,w64 ((i:Int)+1) ((i+1:Nat):Int) (by omega) (by omega) (by omega)]
   exact ih (i+1) k (by omega) (by omega) (by omega)
  ·rw [if_neg (by omega),decide_eq_false h6]
   rfl
theorem six_c (A:Option Addr) (c:Nat) (l:List ByteArray) (w:World) (hr:ReadsOf Value.string ByteArray.empty w A l.length l) (hc:l.length≤c) (hl:l.length≤9007199254740992) :
  Calls Try.prog 19 #[.slice A l.length c] w fun e w'=>e=.returned (.bool (sixS l))∧Below w.heap.size w w':=by
 refine (aqueductlaw17_six.calls (l.length+1) A c l _ w (Kd.C_of_reads hr) hc (six_l0 l hl l.length 0 _ (by omega) (by omega) (by omega))).mono ?_
 rintro e w' ⟨rfl,hd⟩
 exact ⟨rfl,by first | exact hd.below | (obtain ⟨q,hq⟩:=hd.out;rw [hq];exact pwd (Below.refl _ _) q)⟩
theorem sixS_all {l:List ByteArray} (h:sixS l=true):∀ u∈l,u.size=6:=by
 intro u hu
 unfold sixS at h
 rw [List.all_eq_true] at h
 exact of_decide_eq_true (h u hu)
end Go.Proofs.Ytkgbhlcbjflnlaa.Fl
