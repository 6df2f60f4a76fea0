/- Commands and settings: contracts by hand, and the laws over them. -/
import Derived.Test.YtkgbhlcbjflnlaaZG1
import Derived.Test.YtkgbhlcbjflnlaaZFN
import Derived.Test.YtkgbhlcbjflnlaaZPx14
import Derived.Test.YtkgbhlcbjflnlaaZG35
import Derived.Test.YtkgbhlcbjflnlaaZG2
section
namespace Go.Proofs.Ytkgbhlcbjflnlaa.Fl
open Go Go.RowKit Go.Proofs.YtkgbhlcbjflnlaaW.PrintWords Go.Proofs.YtkgbhlcbjflnlaaW.PrintLast Go.Proofs.YtkgbhlcbjflnlaaW.PrintMore Go.Proofs.Ytkgbhlcbjflnlaa.Mth Go.Proofs.Ytkgbhlcbjflnlaa.P Go.Proofs.Ytkgbhlcbjflnlaa.Own Go.Proofs
set_option linter.unusedVariables false
set_option linter.unusedSimpArgs false
theorem rdS_drop {l:List ByteArray} {i:Nat} (h:i < l.length):l.drop i=rdOf ByteArray.empty l (i:Int) :: l.drop (i+1):=by
 rw [List.drop_eq_getElem_cons h]
 simp [rdOf,List.getD_eq_getElem?_getD,List.getElem?_eq_getElem h]
theorem six {l:List Nat} (h:l.length=6):∃ b0 b1 b2 b3 b4 b5,l=[b0,b1,b2,b3,b4,b5]:=by
 match l,h with
 | [b0,b1,b2,b3,b4,b5],_=>exact ⟨b0,b1,b2,b3,b4,b5,rfl⟩
theorem bt_nat (a:ByteArray) {i b:Nat} (h:(B a).getD i 0=b):bt a (i:Int)=(b:Int)∧b < 256:=by
 subst h
 exact ⟨bt_eq a i,getD_lt (B_bt a) i⟩
theorem rk_step (k:Nat) (a:ByteArray) (x:Bool) (i:Nat) {b:Nat} (h6:a.size=6) (hi:i < 6) (hb:(B a).getD i 0=b) :
  aqueductref05_Kind.l0 (k+1) a x (i:Int)=aqueductref05_Kind.l0 k a (x && decide (b=255)) ((i+1:Nat):Int):=by
 obtain ⟨e,hlt⟩:=bt_nat a hb
 have eb:((b:Int) == 255)=decide (b=255):=by
  by_cases q:b=255
  ·rw [decide_eq_true q,q];rfl
  ·rw [decide_eq_false q];exact beq_eq_false_iff_ne.2 (by omega)
 rw [aqueductref05_Kind.l0,if_pos (by omega)]
 cases x with
 | true=>rw [if_pos rfl,if_pos (by omega),if_pos (by omega),e,eb,w64 ((i:Int)+1) ((i+1:Nat):Int) (by omega) (by omega) (by omega),Bool.true_and]
 | false=>rw [if_neg (by decide),w64 ((i:Int)+1) ((i+1:Nat):Int) (by omega) (by omega) (by omega),Bool.false_and]
theorem rounds {α:Type} {f:Nat→Option α} {r:α} (hm:∀ k,LeO (f k) (f (k+1))) {K:Nat} (h:f K=some r):∀ k,K≤k→f k=some r:=fun k hk=>at_rounds hm hk h
theorem rkindE (a:ByteArray):∀ k,7≤k→aqueductref05_Kind.f k a=some (kindB a):=by
 refine rounds (aqueductref05_Kind.mono a) (K:=7) ?_
 unfold aqueductref05_Kind.f kindB kindS
 rw [B_length]
 by_cases h:a.size=6
 ·rw [if_pos (by omega),if_pos h]
  obtain ⟨b0,b1,b2,b3,b4,b5,e⟩:=six (l:=B a) (by rw [B_length,h])
  obtain ⟨e0,k0⟩:=bt_nat a (i:=0) (b:=b0) (by rw [e];rfl)
  rw [show ((0:Nat):Int)=0 from rfl] at e0
  rw [show (0:Int)=((0:Nat):Int) from rfl,rk_step 6 a true 0 h (by decide) (b:=b0) (by rw [e];rfl),rk_step 5 a _ 1 h (by decide) (b:=b1) (by rw [e];rfl),rk_step 4 a _ 2 h (by decide) (b:=b2) (by rw [e];rfl),
   rk_step 3 a _ 3 h (by decide) (b:=b3) (by rw [e];rfl),rk_step 2 a _ 4 h (by decide) (b:=b4) (by rw [e];rfl),rk_step 1 a _ 5 h (by decide) (b:=b5) (by rw [e];rfl)]
  rw [aqueductref05_Kind.l0,if_neg (by decide),e]
  have q:([b0,b1,b2,b3,b4,b5]=[255,255,255,255,255,255]) ↔ (((((((true && decide (b0=255)) && decide (b1=255)) && decide (b2=255)) && decide (b3=255)) && decide (b4=255)) && decide (b5=255))=true):=by
   simp [and_assoc]
  by_cases h2:[b0,b1,b2,b3,b4,b5]=[255,255,255,255,255,255]
  ·rw [if_pos (q.1 h2),if_pos h2]
  ·rw [if_neg (fun z=>h2 (q.2 z)),if_neg h2,if_pos (by omega),e0,w64 (b0:Int) b0 rfl (by omega) (by omega)]
   have m:Int.tmod (b0:Int) 2=((b0 % 2:Nat):Int):=rfl
   rw [m,show [b0,b1,b2,b3,b4,b5].getD 0 0=b0 from rfl]
   by_cases h3:b0 % 2=1
   ·rw [if_pos (by omega),if_pos h3]
   ·rw [if_neg (by omega),if_neg h3]
 ·rw [if_neg (by omega),if_neg h]
theorem kindsE0 (l:List ByteArray) (x:Int) (hl:l.length≤1099511627776):∀ d i k,i≤l.length→l.length - i=d→d+7 < k→aqueductref16_kinds.l0 k l x (i:Int)=some (((l.drop i).all fun s=>kindB s == x) && decide (l.length≤16)):=by
 intro d
 induction d with
 | zero =>
  intro i k hi hd hk
  obtain ⟨k,rfl⟩:∃ m,k=m+1:=⟨k - 1,by omega⟩
  simp only [aqueductref16_kinds.l0]
  rw [if_neg (by omega),List.drop_of_length_le (by omega)]
  congr 1
  simp only [List.all_nil,Bool.true_and]
  rw [Bool.eq_iff_iff,decide_eq_true_eq,decide_eq_true_eq]
  omega
 | succ d ih =>
  intro i k hi hd hk
  obtain ⟨k,rfl⟩:∃ m,k=m+1:=⟨k - 1,by omega⟩
  simp only [aqueductref16_kinds.l0]
  rw [if_pos (by omega),if_pos (by omega),w1 (show i < l.length by omega) hl,rkindE _ _ (by omega),rdS_drop (show i < l.length by omega)]
  simp only [Option.bind_some,List.all_cons]
  by_cases e:kindB (rdOf ByteArray.empty l (i:Int))=x
  ·rw [if_pos e,e,ih (i+1) k (by omega) (by omega) (by omega)]
   simp
  ·rw [if_neg e,show (kindB (rdOf ByteArray.empty l (i:Int)) == x)=false from beq_eq_false_iff_ne.2 e]
   rfl
theorem kindsE (l:List ByteArray) (x:Int) (hl:l.length≤1099511627776) (k:Nat) (hk:l.length+7 < k):aqueductref16_kinds.f k l x=some ((l.all fun s=>kindB s == x) && decide (l.length≤16)) :=
 kindsE0 l x hl l.length 0 k (by omega) (by omega) hk
theorem rcheckE (m:ByteArray) (b1 b2 b3 b4 b5 b6:Bool) (us ms:List ByteArray) (b9:Bool) (vs:List Int) (h7:us.length≤1099511627776) (h8:ms.length≤1099511627776) (h10:vs.length≤1099511627776) (k:Nat) (hk:us.length+ms.length+vs.length+8 < k) :
  aqueductref16_Check.f k m b1 b2 b3 b4 b5 b6 us ms b9 vs=some (checkS m us ms vs):=by
 unfold aqueductref16_Check.f checkS
 rw [rkindE _ _ (by omega),kindsE _ _ h7 _ (by omega),kindsE _ _ h8 _ (by omega),rnetsE _ h10 _ (by omega)]
 simp only [Option.bind_some,Bool.and_eq_true,decide_eq_true_eq]
 by_cases c1:kindB m=1
 ·rw [if_pos c1]
  by_cases c2:(us.all (fun s=>kindB s == 1)=true∧us.length≤16)
  ·rw [if_pos c2]
   by_cases c3:(ms.all (fun s=>kindB s == 2)=true∧ms.length≤16)
   ·rw [if_pos c3]
    by_cases c4:netsS vs=true
    ·rw [if_pos c4,if_pos ⟨c1,c2.2,c3.2,c2.1,c3.1,c4⟩]
    ·rw [if_neg c4,if_neg (fun q=>c4 q.2.2.2.2.2)]
   ·rw [if_neg c3,if_neg (fun q=>c3 ⟨q.2.2.2.2.1,q.2.2.1⟩)]
  ·rw [if_neg c2,if_neg (fun q=>c2 ⟨q.2.2.2.1,q.2.1⟩)]
 ·rw [if_neg c1,if_neg (fun q=>c1 q.1)]
theorem rcheck_f (F:Flt) (S:Sl) (w:World) (h:FV w F S) (hs:Small F):Calls Try.prog 34 #[.agg (cellsF F S)] w fun e w'=>e=.returned (.int .i64 (checkS F.m F.us F.ms F.vs))∧Below w.heap.size w w' :=
 aqueductref16_Check.calls (F.us.length+F.ms.length+F.vs.length+9) F.m F.b1 F.b2 F.b3 F.b4 F.b5 F.b6 S.A7 S.c7 F.us S.A8 S.c8 F.ms F.b9 S.A10 S.c10 F.vs _ w (Kd.C_of_reads h.r7) h.l7 (Kd.C_of_reads h.r8) h.l8 (Kd.C_of_reads h.r10) h.l10
  (rcheckE _ _ _ _ _ _ _ _ _ _ _ (by have:=hs.1;omega) (by have:=hs.2.1;omega) (by have:=hs.2.2;omega) _ (by omega))
end Go.Proofs.Ytkgbhlcbjflnlaa.Fl
end
section
/- Commands and settings: contracts by hand, and the laws over them. -/
namespace Go.Proofs.Ytkgbhlcbjflnlaa.Fl
open Go Go.RowKit Go.Proofs.YtkgbhlcbjflnlaaW.PrintWords Go.Proofs.YtkgbhlcbjflnlaaW.PrintLast Go.Proofs.YtkgbhlcbjflnlaaW.PrintMore Go.Proofs.Ytkgbhlcbjflnlaa.Mth Go.Proofs.Ytkgbhlcbjflnlaa.P Go.Proofs.Ytkgbhlcbjflnlaa.Own Go.Proofs
set_option linter.unusedVariables false
set_option linter.unusedSimpArgs false
/-! ### ControlSets, plainly -/
theorem rx_lists (F:Flt) (cmd on:Int):(rxS F cmd on).1.us=F.us∧(rxS F cmd on).1.ms=F.ms∧(rxS F cmd on).1.vs=F.vs:=by
 unfold rxS
 split
 ·exact ⟨rfl,rfl,rfl⟩
 ·split
  ·exact ⟨rfl,rfl,rfl⟩
  ·split
   ·exact ⟨rfl,rfl,rfl⟩
   ·split
    ·exact ⟨rfl,rfl,rfl⟩
    ·split
     ·exact ⟨rfl,rfl,rfl⟩
     ·split
      ·exact ⟨rfl,rfl,rfl⟩
      ·exact ⟨rfl,rfl,rfl⟩
/-- What a right command leaves. -/
structure Left (C D:Cfg):Prop where
 mx:D.mx=C.mx
 tab:D.tab=C.tab
 vs:D.F.vs.length≤C.F.vs.length+1
structure SetP (C D:Cfg) (n:Int) (s:ByteArray) (Q:Cfg→Prop):Prop where
 once:appS C s=(D,n)
 twice:appS D s=(D,n)
 ack:n=0∨(n=1∧D=C)
 chk:chkF D.F=0
 left:Left C D
 said:n=0→Q D
theorem chk_lens {F:Flt} (h:chkF F=0):F.us.length≤16∧F.ms.length≤16:=by
 unfold chkF checkS at h
 split at h
 ·rename_i q
  exact ⟨q.2.1,q.2.2.1⟩
 ·cases h
theorem SetP.small {C D:Cfg} {n:Int} {s:ByteArray} {Q:Cfg→Prop} (h:SetP C D n s Q) (hs:SmallC C) (hv:C.F.vs.length≤60):SmallC D:=by
 obtain ⟨h1,h2⟩:=chk_lens h.chk
 have h3:=h.left.vs
 have h4:=hs.2
 rw [← h.left.tab] at h4
 exact ⟨⟨by omega,by omega,by omega⟩,h4⟩
/-! ### Have all addresses six bytes? -/
end Go.Proofs.Ytkgbhlcbjflnlaa.Fl
end
