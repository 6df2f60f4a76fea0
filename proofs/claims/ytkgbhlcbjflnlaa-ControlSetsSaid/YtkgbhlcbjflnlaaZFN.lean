/- Commands and settings: contracts by hand, and the laws over them. -/
import Derived.Test.YtkgbhlcbjflnlaaZOwn
import Derived.Test.YtkgbhlcbjflnlaaZFSl
import Derived.Test.YtkgbhlcbjflnlaaZPx13
namespace Go.Proofs.Ytkgbhlcbjflnlaa.Fl
open Go Go.RowKit Go.Proofs.YtkgbhlcbjflnlaaW.PrintWords Go.Proofs.YtkgbhlcbjflnlaaW.PrintLast Go.Proofs.YtkgbhlcbjflnlaaW.PrintMore Go.Proofs.Ytkgbhlcbjflnlaa.Mth Go.Proofs.Ytkgbhlcbjflnlaa.P Go.Proofs.Ytkgbhlcbjflnlaa.Own Go.Proofs
set_option linter.unusedVariables false
set_option linter.unusedSimpArgs false
theorem rd_drop {l:List Int} {i:Nat} (h:i < l.length):l.drop i=rd l (i:Int) :: l.drop (i+1):=by
 rw [List.drop_eq_getElem_cons h]
 simp [rd,List.getD_eq_getElem?_getD,List.getElem?_eq_getElem h]
/-! the document's -/
theorem netE0 (l:List Int) (x:Int) (hl:l.length≤1099511627776):∀ d i k,i≤l.length→l.length - i=d→d < k→aqueductref16_Net.l0 k l x (i:Int)=some ((l.drop i).contains x):=by
 intro d
 induction d with
 | zero =>
  intro i k hi hd hk
  obtain ⟨k,rfl⟩:∃ m,k=m+1:=⟨k - 1,by omega⟩
  simp only [aqueductref16_Net.l0]
  rw [if_neg (by omega),List.drop_of_length_le (by omega)]
  rfl
 | succ d ih =>
  intro i k hi hd hk
  obtain ⟨k,rfl⟩:∃ m,k=m+1:=⟨k - 1,by omega⟩
  simp only [aqueductref16_Net.l0]
  rw [if_pos (by omega),if_pos (by omega),w1 (show i < l.length by omega) hl,rd_drop (show i < l.length by omega),List.contains_cons]
  by_cases e:rd l (i:Int)=x
  ·rw [if_pos e,e]
   simp
  ·rw [if_neg e,show (x == rd l (i:Int))=false from beq_eq_false_iff_ne.2 (fun h=>e h.symm),Bool.false_or]
   exact ih (i+1) k (by omega) (by omega) (by omega)
theorem netE (l:List Int) (x:Int) (hl:l.length≤1099511627776) (k:Nat) (hk:l.length < k):aqueductref16_Net.f k l x=some (l.contains x) :=
 netE0 l x hl l.length 0 k (by omega) (by omega) hk
theorem netsE0 (l:List Int) (hl:l.length≤1099511627776):∀ d i k,i≤l.length→l.length - i=d→d < k → -1≤lastOf l i→aqueductref16_Nets.l0 k l (i:Int)=some (netsFrom (lastOf l i) (l.drop i)):=by
 intro d
 induction d with
 | zero =>
  intro i k hi hd hk hp
  obtain ⟨k,rfl⟩:∃ m,k=m+1:=⟨k - 1,by omega⟩
  simp only [aqueductref16_Nets.l0]
  rw [if_neg (by omega),List.drop_of_length_le (by omega)]
  rfl
 | succ d ih =>
  intro i k hi hd hk hp
  obtain ⟨k,rfl⟩:∃ m,k=m+1:=⟨k - 1,by omega⟩
  have hil:i < l.length:=by omega
  have nx:=ih (i+1) k (by omega) (by omega) (by omega)
  have hl1:lastOf l (i+1)=rd l (i:Int):=by unfold lastOf;rw [if_neg (by omega)];simp [rd]
  rw [hl1] at nx
  simp only [aqueductref16_Nets.l0]
  rw [if_pos (by omega),if_pos (by omega),w1 hil hl,rd_drop hil]
  obtain ⟨x,hx⟩:∃ x,rd l (i:Int)=x:=⟨_,rfl⟩
  rw [hx] at nx ⊢
  simp only [netsFrom,okN]
  cases i with
  | zero =>
   have e0:lastOf l 0 = -1:=rfl
   rw [e0,if_neg (show ¬ ((0:Nat):Int) > 0 by decide)]
   by_cases h1:x < 0
   ·rw [if_pos h1,decide_eq_false (by omega)];rfl
   ·rw [if_neg h1]
    by_cases h2:x > 4094
    ·rw [if_pos h2,decide_eq_false (by omega)];rfl
    ·rw [if_neg h2,nx (by omega),decide_eq_true (by omega)];rfl
  | succ i =>
   have e0:lastOf l (i+1)=rd l (i:Int):=by unfold lastOf;rw [if_neg (by omega)];simp [rd]
   have e1:wrap64 (((i+1:Nat):Int) - 1)=(i:Int):=by rw [wrap64_in (by omega) (by omega)];omega
   rw [e1,e0,if_pos (show ((i+1:Nat):Int) > 0 by omega),if_pos (show (0:Int)≤(i:Int) by omega),if_pos (show (i:Int) < (l.length:Int) by omega)]
   rw [e0] at hp
   obtain ⟨y,hy⟩:∃ y,rd l (i:Int)=y:=⟨_,rfl⟩
   rw [hy] at hp ⊢
   by_cases h1:x < 0
   ·rw [if_pos h1,decide_eq_false (by omega)];rfl
   ·rw [if_neg h1]
    by_cases h2:x > 4094
    ·rw [if_pos h2,decide_eq_false (by omega)];rfl
    ·rw [if_neg h2]
     by_cases h3:x≤y
     ·rw [if_pos h3,decide_eq_false (by omega)];rfl
     ·rw [if_neg h3,nx (by omega),decide_eq_true (by omega)];rfl
theorem rnetsE (l:List Int) (hl:l.length≤1099511627776) (k:Nat) (hk:l.length < k):aqueductref16_Nets.f k l=some (netsS l) :=
 netsE0 l hl l.length 0 k (by omega) (by omega) hk (show (-1:Int)≤lastOf l 0 from Int.le_refl _)
theorem rnets_at (A:Option Addr) (c:Nat) (l:List Int) (w:World) (hr:ReadsOf (Value.int .i64) 0 w A l.length l) (hc:l.length≤c) (hs:l.length≤100000) :
  Calls Try.prog 47 #[.slice A l.length c] w fun e w'=>e=.returned (.bool (netsS l))∧Below w.heap.size w w' :=
 (aqueductref16_Nets.calls (l.length+1) A c l _ w (Kd.C_of_reads hr) hc (rnetsE l (by omega) _ (by omega))).mono fun _ _ h=>⟨h.1,by obtain ⟨q,hq⟩:=h.2.out;rw [hq];exact pwd (Below.refl _ _) q⟩
theorem net_at (A:Option Addr) (c:Nat) (l:List Int) (x:Int) (w:World) (hr:ReadsOf (Value.int .i64) 0 w A l.length l) (hc:l.length≤c) (hs:l.length≤100000) :
  Calls Try.prog 22 #[.slice A l.length c,.int .i64 x] w fun e w'=>e=.returned (.bool (l.contains x))∧Below w.heap.size w w' :=
 (aqueductref16_Net.calls (l.length+1) A c l x _ w (Kd.C_of_reads hr) hc (netE l x (by omega) _ (by omega))).mono fun _ _ h=>⟨h.1,by obtain ⟨q,hq⟩:=h.2.out;rw [hq];exact pwd (Below.refl _ _) q⟩
end Go.Proofs.Ytkgbhlcbjflnlaa.Fl
