/- Commands and settings: contracts by hand, and the laws over them. -/
import Derived.Test.YtkgbhlcbjflnlaaZOwn
import Derived.Test.YtkgbhlcbjflnlaaZBnd
import Derived.Test.YtkgbhlcbjflnlaaZCop
import Derived.Test.YtkgbhlcbjflnlaaZRx
import Derived.Test.YtkgbhlcbjflnlaaZNts
import Derived.Test.YtkgbhlcbjflnlaaZRdc
import Derived.Test.YtkgbhlcbjflnlaaZPart
import Derived.Test.YtkgbhlcbjflnlaaZBelow
import Derived.Test.YtkgbhlcbjflnlaaZRss
namespace Go.Proofs.Ytkgbhlcbjflnlaa.Fl
open Go Go.RowKit Go.Proofs.YtkgbhlcbjflnlaaW.PrintWords Go.Proofs.YtkgbhlcbjflnlaaW.PrintLast Go.Proofs.YtkgbhlcbjflnlaaW.PrintMore Go.Proofs.Ytkgbhlcbjflnlaa.Mth Go.Proofs.Ytkgbhlcbjflnlaa.P Go.Proofs.Ytkgbhlcbjflnlaa.Own Go.Proofs
set_option linter.unusedVariables false
set_option linter.unusedSimpArgs false
/-! ### What a command does to settings -/
theorem num1_c (g:Nat) (r:RS) (v:Int) (r':RS) (h:numS r 1=(v,r')) (w:World) (hI:w.heap[g]?=RdB r) :
  Calls Try.prog 51 #[.pointer (some ⟨g,0,none⟩),.int .i64 1] w fun e w'=>e=.returned (.int .i64 v)∧w'.heap[g]?=RdB r'∧Upd w w' (fun k=>k=g):=by
 have q:=num_c g r 1 w (by decide) (by decide) hI
 rw [h] at q
 exact q
theorem num2_c (g:Nat) (r:RS) (v:Int) (r':RS) (h:numS r 2=(v,r')) (w:World) (hI:w.heap[g]?=RdB r) :
  Calls Try.prog 51 #[.pointer (some ⟨g,0,none⟩),.int .i64 2] w fun e w'=>e=.returned (.int .i64 v)∧w'.heap[g]?=RdB r'∧Upd w w' (fun k=>k=g):=by
 have q:=num_c g r 2 w (by decide) (by decide) hI
 rw [h] at q
 exact q
theorem take6_c (g:Nat) (r:RS) (v:ByteArray) (r':RS) (h:takeS r 6=(v,r')) (w:World) (hI:w.heap[g]?=RdB r) :
  Calls Try.prog 54 #[.pointer (some ⟨g,0,none⟩),.int .i64 6] w fun e w'=>e=.returned (.string v)∧w'.heap[g]?=RdB r'∧Upd w w' (fun k=>k=g):=by
 have q:=take_c g r 6 w hI
 rw [h] at q
 exact q
theorem taken_c (g:Nat) (r:RS) (n:Int) (h0:0≤n) (v:ByteArray) (r':RS) (h:takeS r n.toNat=(v,r')) (w:World) (hI:w.heap[g]?=RdB r) :
  Calls Try.prog 54 #[.pointer (some ⟨g,0,none⟩),.int .i64 n] w fun e w'=>e=.returned (.string v)∧w'.heap[g]?=RdB r'∧Upd w w' (fun k=>k=g):=by
 have q:=take_c g r n.toNat w hI
 rw [h,Int.toNat_of_nonneg h0] at q
 exact q
theorem macs2_c (g:Nat) (r:RS) (l:List ByteArray) (r':RS) (h:macsS r=(l,r')) (w:World) (hI:w.heap[g]?=RdB r) :
  Calls Try.prog 53 #[.pointer (some ⟨g,0,none⟩)] w fun e w'=>∃ A c,e=.returned (.slice A l.length c)∧w'.ownsRow w.heap.size 9 1 (.slice A l.length c) l.length (encs Value.string l)∧w'.heap[g]?=RdB r'∧Upd w w' (fun k=>k=g):=by
 have q:=macs_c g r w hI
 rw [h] at q
 exact q
theorem rules2_c (g:Nat) (r:RS) (u:Ru) (h:rulesS r=u) (w:World) (hI:w.heap[g]?=RdB r) :
  Calls Try.prog 56 #[.pointer (some ⟨g,0,none⟩)] w fun e w'=>∃ A c,e=.returned (.agg #[.int .i64 u.kn,.slice A u.tab.length c,.string ⟨#[]⟩,.int .i64 u.df])∧w'.ownsRow w.heap.size 3 1 (.slice A u.tab.length c) u.tab.length (encs (Value.int .i64) u.tab)∧w'.heap[g]?=RdB u.r∧Upd w w' (fun k=>k=g):=by
 subst h
 exact rules_c g r w hI
theorem rx2_c (F F':Flt) (S:Sl) (cmd on:Int) (ok:Bool) (h:rxS F cmd on=(F',ok)) (w:World):Calls Try.prog 52 #[.agg (cellsF F S),.int .i64 cmd,.int .i64 on] w fun e w'=>e=.returned (.tuple #[.agg (cellsF F' S),.bool ok])∧Below w.heap.size w w':=by
 have q:=rx_c F S cmd on w
 rw [h] at q
 exact q
theorem nets2_c (F F':Flt) (S:Sl) (cmd v:Int) (ok:Bool) (hn:netS F cmd v=(F',ok)) (w:World) (h:FV w F S) (hs:Small F):Calls Try.prog 55 #[.agg (cellsF F S),.int .i64 cmd,.int .i64 v] w fun e w'=>∃ S',e=.returned (.tuple #[.agg (cellsF F' S'),.bool ok])∧((S'=S∧F'=F)∨OV w.heap.size w' F' S')∧Below w.heap.size w w':=by
 have q:=nets_c F S cmd v w h hs
 rw [hn] at q
 exact q
theorem rx_ov {base:Nat} {w:World} {F F':Flt} {S:Sl} {cmd on:Int} {ok:Bool} (e:rxS F cmd on=(F',ok)) (h:OV base w F S):OV base w F' S:=by
 obtain rfl:(rxS F cmd on).1=F':=by rw [e]
 unfold rxS
 repeat' split
 all_goals exact ⟨h.o7,h.o8,h.o10⟩
def onS (C:Cfg) (cl:Int):Cfg:={ C with on:=C.on && (cl != 4) }
/-- A command of pairs, ahead of the last test. -/
def pairS (C:Cfg) (cmd:Int) (r:RS):Cfg × Bool × RS :=
 if cmd=0 then ({ C with p:=(numS r 2).1 },true,(numS r 2).2) else
 if cmd=1 then
  (let u:=rulesS r
   let p:=numS u.r 2
   let n:=numS p.2 1
   let t:=takeS n.2 n.1.toNat
   ({ C with kn:=u.kn,tab:=u.tab,df:=u.df,key:=t.1,on:=true,p:=p.1 },rssS u.kn u.tab t.1 u.df == 0 && belowS u.df C.mx u.tab,t.2))
 else (C,false,r)
def swS (C:Cfg) (cl cmd:Int) (r:RS):Cfg × Bool × RS :=
 if cl=0 then ({ C with F:=(rxS C.F cmd (numS r 1).1).1 },(rxS C.F cmd (numS r 1).1).2,(numS r 1).2) else
 if cl=1 then
  (if cmd=0 then ({ C with F:={ C.F with us:=(macsS r).1,ms:=(macsS (macsS r).2).1 } },true,(macsS (macsS r).2).2) else
   if cmd=1 then ({ C with F:={ C.F with m:=(takeS r 6).1 } },true,(takeS r 6).2) else (C,false,r)) else
 if cl=2 then ({ C with F:=(netS C.F cmd (numS r 2).1).1 },(netS C.F cmd (numS r 2).1).2,(numS r 2).2) else
 if cl=4 then ((pairS C cmd r).1,(pairS C cmd r).2.1 && decide ((pairS C cmd r).1.p ≥ 1) && decide ((pairS C cmd r).1.p≤(pairS C cmd r).1.mx),(pairS C cmd r).2.2)
 else (C,false,r)
def doneS (s:Cfg × Bool × RS):Cfg × Bool:=(s.1,s.2.1 && !s.2.2.2 && s.2.2.1.toList.isEmpty)
def doesS (C:Cfg) (r:RS):Cfg × Bool :=
 doneS (swS (onS C (numS r 1).1) (numS r 1).1 (numS (numS r 1).2 1).1 (numS (numS r 1).2 1).2)
/-- What holds while a command is done. -/
structure DoesI (W0:World) (g g1 g2:Nat) (C:Cfg) (S:SlC) (r:RS) (W:World):Prop where
 b:Below W0.heap.size W0 W
 kg:W.heap[g]?=RdB r
 k1:W.heap[g1]?=some (.cells (cellsC C S) 29 (0,0))
 k2:W.heap[g2]?=some (.cells zeroC 29 (0,0))
 o:OC W0.heap.size W C S
/-- Where its blocks lie. -/
structure DoesG (W0:World) (g g1 g2:Nat):Prop where
 p0:W0.heap.size≤g
 p1:g < g1
 p2:g1 < g2
section
variable {W0 W W':World} {g g1 g2:Nat} {C C':Cfg} {S S':SlC} {r r':RS}
theorem DoesI.drew (h:DoesI W0 g g1 g2 C S r W):DoesI W0 g g1 g2 C S r W.drew:=⟨bwd h.b,h.kg,h.k1,h.k2,h.o.below (bwd (Below.refl _ _))⟩
theorem DoesI.below (h:DoesI W0 g g1 g2 C S r W) (hb:Below W.heap.size W W'):DoesI W0 g g1 g2 C S r W':=⟨bws h.b hb,bkb h.kg hb,bkb h.k1 hb,bkb h.k2 hb,h.o.below hb⟩
theorem DoesI.rd (h:DoesI W0 g g1 g2 C S r W) (G:DoesG W0 g g1 g2) (hi:W'.heap[g]?=RdB r') (hu:Upd W W' (fun k=>k=g)):DoesI W0 g g1 g2 C S r' W':=by
 have a0:=G.p0
 have a1:=G.p1
 have a2:=G.p2
 exact ⟨h.b.trans (hu.toBelow (B:=W0.heap.size) (fun k hk=>by rw [hk];exact a0) h.b.size),hi,hu.blk h.k1 (by omega),hu.blk h.k2 (by omega),h.o.boxT h.kg (by decide) (by decide) hu⟩
theorem DoesI.upd (h:DoesI W0 g g1 g2 C S r W) (G:DoesG W0 g g1 g2) (hk:W'.heap[g1]?=some (.cells (cellsC C' S') 29 (0,0))) (hu:Upd W W' (fun k=>k=g1)) (ho:OC W0.heap.size W' C' S'):DoesI W0 g g1 g2 C' S' r W':=by
 have a0:=G.p0
 have a1:=G.p1
 have a2:=G.p2
 exact ⟨h.b.trans (hu.toBelow (B:=W0.heap.size) (fun k hk=>by rw [hk];omega) h.b.size),hu.blk h.kg (by omega),hk,hu.blk h.k2 (by omega),ho⟩
theorem DoesI.put (h:DoesI W0 g g1 g2 C S r W) (G:DoesG W0 g g1 g2) (j:Nat) (v:Value) (e:(cellsC C S).setIfInBounds j v=cellsC C' S') (ho:OC W0.heap.size W C' S'):DoesI W0 g g1 g2 C' S' r (W.setCell ⟨g1,j,none⟩ v) :=
 h.upd G (blk_put h.k1 j v e) (Upd.set (Upd.refl W (fun k=>k=g1)) (p:=⟨g1,j,none⟩) (.inl rfl) v) (ho.boxT h.k1 (by decide) (by decide) (Upd.set (Upd.refl W (fun k=>k=g1)) (p:=⟨g1,j,none⟩) (.inl rfl) v))
theorem DoesI.row (h:DoesI W0 g g1 g2 C S r W) (G:DoesG W0 g g1 g2) (cs:Array Value) (e:cs=cellsC C' S') (ho:OC W0.heap.size W C' S'):DoesI W0 g g1 g2 C' S' r (W.setRow g1 cs):=by
 subst e
 exact h.upd G (setRow_heap W g1 _ _ 29 (0,0) h.k1) (Upd.setRow (Upd.refl W (fun k=>k=g1)) (.inl rfl) _) (ho.boxT h.k1 (by decide) (by decide) (Upd.setRow (Upd.refl W (fun k=>k=g1)) (.inl rfl) _))
end
theorem tab_len:∀ (n:Nat) (r:RS),(tabL n r).1.length≤n
 | 0,_=>Nat.le_refl _
 | n+1,r=>by
  unfold tabL
  split
  ·exact Nat.zero_le _
  ·have:=tab_len n (numS r 2).2
   simp only [List.length_cons]
   omega
theorem rules_len (r:RS):(rulesS r).tab.length≤65536:=by
 have h:=tab_len ((numS (numS r 4).2 2).1+1).toNat ((numS (numS (numS r 4).2 2).2 2).2.1,(numS (numS (numS r 4).2 2).2 2).2.2 || decide ((numS (numS r 4).2 2).1+1 > 128))
 have q:=(num_range (numS r 4).2 2 (by decide)).2
 rw [show ((256 ^ 2:Nat):Int)=65536 by decide] at q
 show (tabL _ _).1.length≤65536
 refine Nat.le_trans h ?_
 omega
theorem rules_kn (r:RS):0≤(rulesS r).kn∧(rulesS r).kn < 4294967296:=by
 have q:=num_range r 4 (by decide)
 rw [show ((256 ^ 4:Nat):Int)=4294967296 by decide] at q
 exact q
theorem DoesI.fin {W0 W:World} {g g1 g2:Nat} {C:Cfg} {S:SlC} {r:RS} (h:DoesI W0 g g1 g2 C S r W) (G:DoesG W0 g g1 g2) :
  (W.setRow g2 (cellsC C S)).heap[g2]?=some (.cells (cellsC C S) 29 (0,0))∧OC W0.heap.size (W.setRow g2 (cellsC C S)) C S∧Below W0.heap.size W0 (W.setRow g2 (cellsC C S))∧(W.setRow g2 (cellsC C S)).heap[g1]?=some (.cells (cellsC C S) 29 (0,0))∧(W.setRow g2 (cellsC C S)).heap[g]?=RdB r:=by
 have a0:=G.p0
 have a1:=G.p1
 have a2:=G.p2
 have hu:Upd W (W.setRow g2 (cellsC C S)) (fun k=>k=g2):=Upd.setRow (Upd.refl W (fun k=>k=g2)) (.inl rfl) _
 exact ⟨setRow_heap W g2 _ _ 29 (0,0) h.k2,h.o.boxT h.k2 (by decide) (by decide) hu,h.b.trans (hu.toBelow (B:=W0.heap.size) (fun k hk=>by rw [hk];omega) h.b.size),hu.blk h.k1 (by omega),hu.blk h.kg (by omega)⟩
theorem rssc2_c (kn:Int) (A:Option Addr) (c:Nat) (tab:List Int) (key:ByteArray) (df:Int) (w:World) (hk0:0≤kn) (hk:kn < 9223372036854775808) (hr:ReadsOf (Value.int .i64) 0 w A tab.length tab) (hc:tab.length≤c) (hl:tab.length≤1000000) :
  Calls Try.prog 57 #[.agg #[.int .i64 kn,.slice A tab.length c,.string key,.int .i64 df]] w fun e w'=>e=.returned (.int .i64 (rssS kn tab key df))∧Below w.heap.size w w':=by
 obtain ⟨n,rfl⟩:∃ n:Nat,kn=(n:Int):=⟨kn.toNat,by omega⟩
 exact rssc_c n A c tab key df w (by omega) hr hc hl
end Go.Proofs.Ytkgbhlcbjflnlaa.Fl
