/- Commands and settings: contracts by hand, and the laws over them. -/
import Derived.Test.YtkgbhlcbjflnlaaZOwn
import Derived.Test.YtkgbhlcbjflnlaaZPl
import Derived.Test.YtkgbhlcbjflnlaaZRsame
namespace Go.Proofs.Ytkgbhlcbjflnlaa.Fl
open Go Go.RowKit Go.Proofs.YtkgbhlcbjflnlaaW.PrintWords Go.Proofs.YtkgbhlcbjflnlaaW.PrintLast Go.Proofs.YtkgbhlcbjflnlaaW.PrintMore Go.Proofs.Ytkgbhlcbjflnlaa.Mth Go.Proofs.Ytkgbhlcbjflnlaa.P Go.Proofs.Ytkgbhlcbjflnlaa.Own Go.Proofs
set_option linter.unusedVariables false
set_option linter.unusedSimpArgs false
/-! ### The settings of 'fixed' -/
def ownM:ByteArray:=⟨#[2,97,113,0,0,5]⟩
def ownF:Flt:=⟨ownM,false,false,false,false,false,false,[],[],false,[]⟩
def ownC:Cfg:=⟨ownF,1,4,false,0,[],⟨#[]⟩,0⟩
def nilC:SlC:=⟨nilSl,none,0⟩
theorem own_oc (base:Nat) (w:World):OC base w ownC nilC:=⟨⟨own_nil _ _ _ _,own_nil _ _ _ _,own_nil _ _ _ _⟩,own_nil _ _ _ _⟩
theorem own_cv (w:World):CV w ownC nilC:=(own_oc 0 w).cv
theorem own_small:SmallC ownC:=⟨⟨Nat.zero_le _,Nat.zero_le _,Nat.zero_le _⟩,Nat.zero_le _⟩
theorem own_chk (F:Flt) (h:F.m=ownM) (h7:F.us=[]) (h8:F.ms=[]) (h10:netsS F.vs=true):chkF F=0:=by
 unfold chkF checkS
 rw [h,h7,h8,h10,if_pos (by decide)]
theorem appS_ok (C D:Cfg) (s:ByteArray) (h:doesS C (s,false)=(D,true)) (hc:chkF D.F=0):appS C s=(D,0):=by
 unfold appS
 rw [h,if_pos ⟨rfl,hc⟩]
theorem own_a:appS ownC ⟨#[0,0,1]⟩=({ ownC with F:={ ownF with b1:=true } },0):=by
 have e:(⟨#[0,0,1]⟩:ByteArray)=rxB 0 true:=B_inj (by decide)
 rw [e]
 refine appS_ok _ _ _ ?_ (own_chk _ rfl rfl rfl rfl)
 rw [does_rx]
 rfl
theorem own_b:appS ownC ⟨#[0,0,2]⟩=(ownC,1):=by
 have e:(⟨#[0,0,2]⟩:ByteArray)=mk (comB 0 0 (lo 1 2)):=B_inj (by decide)
 rw [e]
 refine appS_no _ _ ?_
 rw [doesS_com _ _ _ _ (lo_bt _ _),show ((0 % 256:Nat):Int)=0 from rfl]
 unfold swS
 rw [if_pos rfl,numS_lo0,doneS_ok]
 rfl
theorem own_d:appS ownC ⟨#[2,0,7,0]⟩=({ ownC with F:={ ownF with vs:=[7] } },0):=by
 have e:(⟨#[2,0,7,0]⟩:ByteArray)=vlanB 7 true:=B_inj (by decide)
 rw [e]
 refine appS_ok _ _ _ ?_ (own_chk _ rfl rfl rfl rfl)
 rw [does_vlan]
 rfl
theorem own_h:appS ownC (pairsB 4)=({ ownC with p:=4,on:=false },0):=by
 refine appS_ok _ _ _ ?_ (own_chk _ rfl rfl rfl rfl)
 rw [does_pairs]
 rfl
theorem own_j:appS ownC (pairsB 5)=(ownC,1):=by
 refine appS_no _ _ ?_
 rw [does_pairs]
 rfl
theorem own_k:appS ownC ⟨#[]⟩=(ownC,1):=appS_no _ _ (does_short _ _ (by decide))
theorem apply2_c (C D:Cfg) (S:SlC) (s:ByteArray) (n:Int) (e:appS C s=(D,n)) (w:World) (h:CV w C S) (hs:SmallC C):Calls Try.prog 11 #[.agg (cellsC C S),.string s] w fun e w'=>∃ S',e=.returned (.tuple #[.agg (cellsC D S'),.int .i64 n])∧OC w.heap.size w' D S'∧Below w.heap.size w w':=by
 have q:=apply_c C S s w h hs
 rw [e] at q
 exact q
end Go.Proofs.Ytkgbhlcbjflnlaa.Fl
