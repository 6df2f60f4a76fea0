/- Objects in memory with rows of their own: what a call on one of them keeps. -/
import Derived.Test.YtkgbhlcbjflnlaaZG0
namespace Go.Proofs.Ytkgbhlcbjflnlaa.Own
open Go Go.RowKit Go.Proofs.YtkgbhlcbjflnlaaW.PrintWords
/-- From w to w' only the blocks of S and what is new since were written; nothing went out. -/
structure Upd (w w':World) (S:Nat→Prop):Prop where
 os:w'.os=w.os
 tape:w'.tape=w.tape
 output:w'.output=w.output
 kept:Kept w w' S
section
variable {w w' w1 w2 W:World} {S S' S2:Nat→Prop}
theorem Upd.refl (w:World) (S:Nat→Prop):Upd w w S:=⟨rfl,rfl,rfl,Kept.refl w S⟩
theorem Upd.size (h:Upd w w' S):w.heap.size≤w'.heap.size:=h.kept.1
theorem Upd.mono (h:Upd w w' S) (hs:∀ k,S k→S' k):Upd w w' S':=⟨h.os,h.tape,h.output,h.kept.mono hs⟩
theorem Upd.then_ (h:Upd w w1 S) (k:Upd w1 w2 S2) (hs:∀ k,S2 k→S k∨w.heap.size≤k):Upd w w2 S :=
 ⟨k.os.trans h.os,k.tape.trans h.tape,k.output.trans h.output,h.kept.then_ k.kept hs⟩
theorem Upd.trans (h:Upd w w1 S) (k:Upd w1 w2 S):Upd w w2 S:=h.then_ k fun _ h=>.inl h
theorem Upd.of_below (h:Below w.heap.size w w') (S:Nat→Prop):Upd w w' S:=⟨h.os,h.tape,h.output,Kept.of_below h S⟩
theorem Upd.below (h:Upd w w1 S) (hb:Below w1.heap.size w1 w2):Upd w w2 S:=h.then_ (Upd.of_below hb (fun _=>False)) fun _ h=>h.elim
theorem Upd.set (h:Upd w w' S) {p:Addr} (hp:S p.block∨w.heap.size≤p.block) (u:Value):Upd w (w'.setCell p u) S :=
 ⟨h.os,h.tape,h.output,h.kept.setCell hp u⟩
theorem Upd.alloc (h:Upd w w' S) (o:Obj):Upd w (w'.alloc o) S:=⟨h.os,h.tape,h.output,h.kept.alloc o⟩
theorem Upd.drew (h:Upd w w' S):Upd w w'.drew S:=⟨h.os,h.tape,h.output,h.kept.drew⟩
theorem Upd.drewN (h:Upd w w' S) (n:Nat):Upd w (w'.drewN n) S:=⟨h.os,h.tape,h.output,h.kept.drewN n⟩
theorem Upd.grown {row:Option Nat} (h:Upd w w1 S) (hg:w1.grownBy w2 row) (hr:∀ k,row=some k→S k∨w.heap.size≤k):Upd w w2 S :=
 ⟨hg.os.trans h.os,hg.tape.trans h.tape,hg.output.trans h.output,Kept.of_grown hg h.kept hr⟩
/-- What was below stays. -/
theorem Upd.toBelow {B:Nat} (h:Upd w w' S) (hs:∀ k,S k→B≤k) (hB:B≤w.heap.size):Below B w w' :=
 ⟨h.os,h.tape,h.output,h.kept.1,fun k hk=>h.kept.2 k (by omega) (fun hS=>by have:=hs k hS;omega)⟩
theorem Upd.blk {g:Nat} {o:Obj} (h:Upd w w' S) (hb:w.heap[g]?=some o) (hne : ¬ S g):w'.heap[g]?=some o:=blk_kept hb h.kept hne
theorem Upd.own {base n size:Nat} {e:TypeId} {v:Value} {xs:List Value} (h:Upd w w' S) (ho:w.ownsRow base e size v n xs) (hne:∀ k,v.ownBlock=some k → ¬ S k):w'.ownsRow base e size v n xs :=
 own_move ho fun k hk=>h.kept.2 k (own_lt ho k hk) (hne k hk)
end
end Go.Proofs.Ytkgbhlcbjflnlaa.Own
