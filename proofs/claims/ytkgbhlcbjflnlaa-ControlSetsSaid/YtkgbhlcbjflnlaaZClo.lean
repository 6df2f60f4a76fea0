/- Commands and settings: contracts by hand, and the laws over them. -/
import Derived.Test.YtkgbhlcbjflnlaaZOwn
import Derived.Test.YtkgbhlcbjflnlaaZMth
import Derived.Test.YtkgbhlcbjflnlaaZPx18
import Derived.WalkLawsBesides
namespace Go.Proofs.Ytkgbhlcbjflnlaa.Fl
open Go Go.RowKit Go.Proofs.YtkgbhlcbjflnlaaW.PrintWords Go.Proofs.YtkgbhlcbjflnlaaW.PrintLast Go.Proofs.YtkgbhlcbjflnlaaW.PrintMore Go.Proofs.Ytkgbhlcbjflnlaa.Mth Go.Proofs.Ytkgbhlcbjflnlaa.P Go.Proofs.Ytkgbhlcbjflnlaa.Own Go.Proofs
set_option linter.unusedVariables false
set_option linter.unusedSimpArgs false
/-! ### Addresses' kinds and filters, plainly -/
def kindS (b:List Nat):Int:=if b.length=6 then (if b=[255,255,255,255,255,255] then 3 else if b.getD 0 0 % 2=1 then 2 else 1) else 0
def kindB (s:ByteArray):Int:=kindS (B s)
def okN (last n:Int):Bool:=decide (last < n∧n≤4094)
def netsFrom (last:Int):List Int→Bool
 | []=>true
 | n :: r=>okN last n && netsFrom n r
def netsS (l:List Int):Bool:=netsFrom (-1) l
def checkS (m:ByteArray) (us ms:List ByteArray) (vs:List Int):Int :=
 if kindB m=1∧us.length≤16∧ms.length≤16∧us.all (fun s=>kindB s == 1)=true∧ms.all (fun s=>kindB s == 2)=true∧netsS vs=true then 0 else 160
/-- networks: one more, one less. -/
def insS (n:Int):List Int→List Int
 | []=>[n]
 | a :: r=>if a < n then a :: insS n r else if a=n then a :: r else n :: a :: r
def delS (n:Int) (l:List Int):List Int:=l.filter fun a => !(a == n)
def argS (vs:List Int) (n:Int):Bool:=decide (0≤n) && decide (n≤4094) && netsS vs
theorem eqL (s t:ByteArray):(s.toList=t.toList) ↔ B s=B t:=⟨toList_B,fun h=>by rw [B_inj h]⟩
theorem kindE (a:ByteArray):addr_Kind.f a=some (kindB a):=by
 unfold addr_Kind.f kindB kindS
 rw [B_length]
 by_cases h:a.size=6
 ·rw [if_pos (by omega),if_pos h]
  have e:(a.toList=([255,255,255,255,255,255]:List UInt8)) ↔ B a=[255,255,255,255,255,255]:=by
   rw [show ([255,255,255,255,255,255]:List UInt8)=(⟨#[255,255,255,255,255,255]⟩:ByteArray).toList by rw [ByteArray.toList_eq],eqL]
   rfl
  have e2:Go.bits .and .u8 (bt a 0) 1=(((B a).getD 0 0 % 2:Nat):Int):=by
   rw [show (0:Int)=((0:Nat):Int) from rfl,bt_eq]
   have q:∀ b:Fin 256,Go.bits .and .u8 ((b.1:Nat):Int) 1=((b.1 % 2:Nat):Int):=by decide +kernel
   exact q ⟨_,getD_lt (B_bt a) 0⟩
  by_cases h2:B a=[255,255,255,255,255,255]
  ·rw [if_pos (e.2 h2),if_pos h2]
  ·rw [if_neg (fun q=>h2 (e.1 q)),if_neg h2,if_pos (by omega),e2]
   by_cases h3:(B a).getD 0 0 % 2=1
   ·rw [if_pos (by omega),if_pos h3]
   ·rw [if_neg (by omega),if_neg h3]
 ·rw [if_neg (by omega),if_neg h]
theorem kindCalls (a:ByteArray) (w:World):Calls Try.prog 41 #[.string a] w fun e w'=>e=.returned (.int .i64 (kindB a))∧Drawn0 w w':=addr_Kind.calls a _ w (kindE a)
/-! ### Closures: of, all, nets -/
theorem hmf:∀ (fn:Fn) (first cap:Array Value) (w:World),(Instr.makeFunc fn first cap).run Try.prog w=.ok (.func fn first cap) w:=fun _ _ _ _=>rfl
set_option maxHeartbeats 4000000 in
set_option maxRecDepth 100000 in
theorem of_calls (k:Int) (w:World):Calls Try.prog 43 #[.int .i64 k] w fun e w'=>e=.returned (.func (.func 62) #[] #[.pointer (some ⟨w.heap.size,0,none⟩)])∧w'=w.alloc (.cells #[.int .i64 k] 3):=by
 have hmf:=hmf
 go_enter Try.func43,Try.ntmps43
 go_wp2
 go_ret
 exact ⟨rfl,rfl⟩
set_option maxHeartbeats 4000000 in
set_option maxRecDepth 100000 in
theorem of1_calls (s:ByteArray) (k:Int) (g:Nat) (w:World) (hc:w.cell? ⟨g,0,none⟩=some (.int .i64 k)) :
  Calls Try.prog 62 #[.string s,.pointer (some ⟨g,0,none⟩)] w fun e w'=>e=.returned (.bool (kindB s == k))∧∃ n,w'=w.drewN n:=by
 go_enter Try.func62,Try.ntmps62
 go_wp2
 go_quiet ((go_at_call 41;exact Calls.quiet_of ((kindCalls s _).mono fun _ _ h=>⟨h.1,h.2.out⟩)))
 go_wp2
 go_ret
 exact ⟨rfl,_,rfl⟩
theorem all_take {α:Type} {p:α→Bool} {l:List α} {i:Nat} (d:α) (h:i < l.length) (ht:(l.take i).all p=true) (hx:p (l.getD i d)=true):(l.take (i+1)).all p=true:=by
 rw [List.take_succ_eq_append_getElem h,List.all_append,ht]
 simpa [List.getD_eq_getElem?_getD,List.getElem?_eq_getElem h] using hx
theorem all_no {α:Type} {p:α→Bool} {l:List α} {i:Nat} (d:α) (h:i < l.length) (hx:p (l.getD i d)=false):l.all p=false:=by
 rw [List.all_eq_false]
 refine ⟨l.getD i d,?_,by rw [hx];decide⟩
 rw [List.getD_eq_getElem?_getD,List.getElem?_eq_getElem h]
 exact List.getElem_mem h
set_option maxHeartbeats 4000000 in
set_option maxRecDepth 100000 in
theorem allS_calls (A:Option Addr) (c:Nat) (l:List ByteArray) (k:Int) (g:Nat) (w:World) (hr:ReadsOf Value.string ByteArray.empty w A l.length l) (hc:w.cell? ⟨g,0,none⟩=some (.int .i64 k)) :
  Calls Try.prog 42 #[.slice A l.length c,.func (.func 62) #[] #[.pointer (some ⟨g,0,none⟩)]] w fun e w'=>e=.returned (.bool (l.all fun s=>kindB s == k))∧∃ n,w'=w.drewN n:=by
 have hmx:=hr.2.1
 have HR:=amk hr
 have HC:=amk hc
 clear hr hc
 go_enter Try.func42,Try.ntmps42
 go_wp2_with fail
 go_loopg [9] l.length (fun gk v9 w'=>∃ i:Nat,v9=.int .i64 (i:Int)∧Aside0 (i+gk=l.length)∧Aside0 ((l.take i).all (fun s=>kindB s == k)=true)∧∃ m,w'=w.drewN m)
 case atStart=>exact ⟨0,rfl,⟨by omega⟩,⟨rfl⟩,0,rfl⟩
 case round =>
  obtain ⟨i,rfl,hk,hp,m,rfl⟩:=hrel
  have hkk:=hk.out
  by_cases hi:i < l.length
  ·have wi:IntKind.i64.wrap ((i:Int)+1)=((i+1:Nat):Int):=by rw [IntKind.wrap_i64];omega
   have c1:decide ((i:Int) < (l.length:Int))=true:=decide_eq_true (by omega)
   have i0:decide (0≤(i:Int))=true:=decide_eq_true (by omega)
   obtain ⟨ad,rfl,hcell⟩:=(HR.out.drewN m).at_ (i:Int) (by omega) (by omega)
   rw [Int.toNat_natCast] at hcell
   obtain ⟨kk,rfl⟩:∃ m,gk=m+1:=⟨gk - 1,by omega⟩
   have hN:=amk (all_no (p:=fun s=>kindB s == k) (l:=l) (i:=i) ByteArray.empty hi)
   have hY:=amk (all_take (p:=fun s=>kindB s == k) (l:=l) (i:=i) ByteArray.empty hi hp.out)
   obtain ⟨x,hx⟩:∃ x,l.getD i ByteArray.empty=x:=⟨_,rfl⟩
   rw [show rdOf ByteArray.empty l (i:Int)=x from hx] at hcell
   rw [hx] at hN hY
   clear hx
   have C1:=amk (of1_calls x k g (w.drewN m) HC.out)
   go_wp2_with fail
   refine C1.out.mono ?_
   rintro e w1 ⟨rfl,q,hw1⟩
   rw [World.drewN_drewN] at hw1
   subst hw1
   cases hb:(kindB x == k) with
   | true =>
    have HY:=amk (hY.out hb)
    clear hb hN hY C1
    go_wp2_with fail
    try rw [wi]
    go_roundg kk
    case measure=>omega
    case rel=>exact ⟨i+1,rfl,⟨by omega⟩,HY,_,rfl⟩
   | false =>
    have HN:=amk (hN.out hb)
    clear hb hN hY C1
    go_wp2_with fail
    go_ret
    exact ⟨by rw [HN.out];rfl,_,rfl⟩
  ·have c1:decide ((i:Int) < (l.length:Int))=false:=decide_eq_false (by omega)
   have HY:Aside0 ((l.all fun s=>kindB s == k)=true):=⟨by have:=hp.out;rwa [List.take_of_length_le (by omega)] at this⟩
   go_wp2_with fail
   go_ret
   exact ⟨by rw [HY.out];rfl,_,rfl⟩
/-! the networks' closure: last is what it remembers -/
set_option maxHeartbeats 4000000 in
set_option maxRecDepth 100000 in
theorem nets1_calls (n last:Int) (g:Nat) (w:World) (hb:w.heap[g]?=some (.cells #[.int .i64 last] 3 (0,0))) :
  Calls Try.prog 64 #[.int .i64 n,.pointer (some ⟨g,0,none⟩)] w fun e w'=>e=.returned (.bool (okN last n))∧w'=w.setCell ⟨g,0,none⟩ (.int .i64 n):=by
 have hc:w.cell? ⟨g,0,none⟩=some (.int .i64 last):=(bkc hb 0).trans rfl
 have hf:=bkf hb 0
 clear hb
 by_cases h1:last < n
 ·have b1:decide (last < n)=true:=decide_eq_true h1
  by_cases h2:n≤4094
  ·have b2:decide (n≤4094)=true:=decide_eq_true h2
   have R:=amk (show okN last n=true from decide_eq_true ⟨h1,h2⟩)
   go_enter Try.func64,Try.ntmps64
   go_wp2
   go_ret
   exact ⟨by rw [R.out];rfl,rfl⟩
  ·have b2:decide (n≤4094)=false:=decide_eq_false h2
   have R:=amk (show okN last n=false from decide_eq_false fun h=>h2 h.2)
   go_enter Try.func64,Try.ntmps64
   go_wp2
   go_ret
   exact ⟨by rw [R.out];rfl,rfl⟩
 ·have b1:decide (last < n)=false:=decide_eq_false h1
  have R:=amk (show okN last n=false from decide_eq_false fun h=>h1 h.1)
  go_enter Try.func64,Try.ntmps64
  go_wp2
  go_ret
  exact ⟨by rw [R.out];rfl,rfl⟩
/-- Only block g was written. -/
theorem below_put {w0 w:World} (h:Below w0.heap.size w0 w) {g:Nat} (hg:w0.heap.size≤g) (u:Value):Below w0.heap.size w0 (w.setCell ⟨g,0,none⟩ u):=bwt h hg
/-- The last of the first i numbers; -1 ahead of all. -/
def lastOf (l:List Int) (i:Nat):Int:=if i=0 then -1 else l.getD (i - 1) 0
theorem netsFrom_take {l:List Int}:∀ {i:Nat},i≤l.length→∀ last,netsFrom last l=(netsFrom last (l.take i) && netsFrom (if i=0 then last else l.getD (i - 1) 0) (l.drop i)):=by
 intro i
 induction l generalizing i with
 | nil=>intro h last;cases i with | zero=>rfl | succ i=>simp at h
 | cons a r ih =>
  intro h last
  cases i with
  | zero=>simp [netsFrom]
  | succ i =>
   have e:=ih (i:=i) (by simpa using h) a
   simp only [netsFrom,List.take_succ_cons,List.drop_succ_cons,e,Bool.and_assoc]
   cases i with
   | zero=>simp
   | succ i=>simp
theorem nets_next {l:List Int} {i:Nat} (h:i < l.length) (hp:netsS (l.take i)=true):netsS (l.take (i+1))=okN (lastOf l i) (l.getD i 0):=by
 have e:=netsFrom_take (l:=l.take (i+1)) (i:=i) (by rw [List.length_take];omega) (-1)
 have t:(l.take (i+1)).take i=l.take i:=by rw [List.take_take];congr 1;omega
 have d:(l.take (i+1)).drop i=[l.getD i 0]:=by
  rw [List.drop_take,show i+1 - i=1 from by omega,List.drop_eq_getElem_cons h,List.take_succ_cons,List.take_zero,List.getD_eq_getElem?_getD,List.getElem?_eq_getElem h]
  rfl
 rw [t,d] at e
 unfold netsS at hp ⊢
 rw [e,hp]
 simp only [netsFrom,Bool.and_true,Bool.true_and]
 congr 1
 unfold lastOf
 by_cases hi:i=0
 ·simp [hi]
 ·rw [if_neg hi,if_neg hi]
  simp [List.getD_eq_getElem?_getD,List.getElem?_take,show i - 1 < i+1 by omega]
theorem nets_no {l:List Int} {i:Nat} (h:i≤l.length) (hp:netsS (l.take i)=false):netsS l=false:=by
 unfold netsS at hp ⊢
 rw [netsFrom_take h (-1),hp]
 rfl
set_option maxHeartbeats 4000000 in
set_option maxRecDepth 100000 in
theorem allI_calls (A:Option Addr) (c:Nat) (l:List Int) (g:Nat) (w0 w:World) (hr:ReadsOf (Value.int .i64) 0 w A l.length l) (hg:w.heap[g]?=some (.cells #[.int .i64 (-1)] 3 (0,0))) (hB:Below w0.heap.size w0 w) (hr0:ReadsOf (Value.int .i64) 0 w0 A l.length l) (hg0:w0.heap.size≤g) :
  Calls Try.prog 63 #[.slice A l.length c,.func (.func 64) #[] #[.pointer (some ⟨g,0,none⟩)]] w fun e w'=>e=.returned (.bool (netsS l))∧Below w0.heap.size w0 w':=by
 have hmx:=hr.2.1
 have HR:=amk hr0
 have HG:=amk hg
 have HB:=amk hB
 clear hr hr0 hg hB
 have HG0:=amk hg0
 clear hg0
 go_enter Try.func63,Try.ntmps63
 go_wp2_with fail
 go_loopg [9] l.length (fun gk v9 w'=>∃ i:Nat,v9=.int .i64 (i:Int)∧Aside0 (i+gk=l.length)∧Aside0 (netsS (l.take i)=true)∧Aside0 (Below w0.heap.size w0 w')∧Aside0 (w'.heap[g]?=some (.cells #[.int .i64 (lastOf l i)] 3 (0,0))))
 case atStart=>exact ⟨0,rfl,⟨by omega⟩,⟨rfl⟩,HB,HG⟩
 case round =>
  clear HB HG
  obtain ⟨i,rfl,hk,hp,HB,HG⟩:=hrel
  have hkk:=hk.out
  by_cases hi:i < l.length
  ·have wi:IntKind.i64.wrap ((i:Int)+1)=((i+1:Nat):Int):=by rw [IntKind.wrap_i64];omega
   have c1:decide ((i:Int) < (l.length:Int))=true:=decide_eq_true (by omega)
   have i0:decide (0≤(i:Int))=true:=decide_eq_true (by omega)
   obtain ⟨ad,rfl,hcell⟩:=(HR.out.below HB.out).at_ (i:Int) (by omega) (by omega)
   rw [Int.toNat_natCast] at hcell
   obtain ⟨kk,rfl⟩:∃ m,gk=m+1:=⟨gk - 1,by omega⟩
   have hN:=amk (nets_next hi hp.out)
   have hl:lastOf l (i+1)=l.getD i 0:=by unfold lastOf;rw [if_neg (by omega)];rfl
   have HL:=amk hl
   clear hl
   obtain ⟨x,hx⟩:∃ x,l.getD i 0=x:=⟨_,rfl⟩
   rw [show rdOf 0 l (i:Int)=x from hx] at hcell
   rw [hx] at hN HL
   clear hx
   have C1:=amk (nets1_calls x (lastOf l i) g wr HG.out)
   go_wp2_with fail
   refine C1.out.mono ?_
   rintro e w1 ⟨rfl,hw1⟩
   have HB1:Aside0 (Below w0.heap.size w0 w1):=⟨by rw [hw1];exact below_put HB.out HG0.out _⟩
   have HG1:Aside0 (w1.heap[g]?=some (.cells #[.int .i64 (lastOf l (i+1))] 3 (0,0))):=⟨by rw [hw1,HL.out];exact blk_put HG.out 0 _ rfl⟩
   clear hw1 C1 HG HB HL hcell
   cases hb:okN (lastOf l i) x with
   | true =>
    have HY:Aside0 (netsS (l.take (i+1))=true):=⟨hN.out.trans hb⟩
    clear hb hN
    go_wp2_with fail
    try rw [wi]
    go_roundg kk
    case measure=>omega
    case rel=>exact ⟨i+1,rfl,⟨by omega⟩,HY,HB1,HG1⟩
   | false =>
    have HN:Aside0 (netsS l=false):=⟨nets_no (by omega) (hN.out.trans hb)⟩
    clear hb hN
    go_wp2_with fail
    go_ret
    exact ⟨by rw [HN.out];rfl,HB1.out⟩
  ·have c1:decide ((i:Int) < (l.length:Int))=false:=decide_eq_false (by omega)
   have HY:Aside0 (netsS l=true):=⟨by have:=hp.out;rwa [List.take_of_length_le (by omega)] at this⟩
   go_wp2_with fail
   go_ret
   exact ⟨by rw [HY.out];rfl,HB.out⟩
set_option maxHeartbeats 4000000 in
set_option maxRecDepth 100000 in
theorem nets_calls (A:Option Addr) (c:Nat) (l:List Int) (w:World) (hr:ReadsOf (Value.int .i64) 0 w A l.length l) :
  Calls Try.prog 44 #[.slice A l.length c] w fun e w'=>e=.returned (.bool (netsS l))∧Below w.heap.size w w':=by
 have hmf:=hmf
 have C:=amk (allI_calls A c l w.heap.size w (w.alloc (.cells #[.int .i64 (-1)] 3)) (hr.below (bwa (Below.refl _ _) _)) (blk_new _ _) (bwa (Below.refl _ _) _) hr (Nat.le_refl _))
 clear hr
 go_enter Try.func44,Try.ntmps44
 go_wp2_with fail
 refine C.out.mono ?_
 rintro e w1 ⟨rfl,hb⟩
 have HB:=amk hb
 clear hb C
 go_wp2_with fail
 go_ret
 exact ⟨rfl,HB.out⟩
end Go.Proofs.Ytkgbhlcbjflnlaa.Fl
