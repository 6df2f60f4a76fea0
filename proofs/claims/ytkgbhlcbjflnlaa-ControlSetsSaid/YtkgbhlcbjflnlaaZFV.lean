/- Commands and settings: contracts by hand, and the laws over them. -/
import Derived.Test.YtkgbhlcbjflnlaaZOwn
import Derived.Test.YtkgbhlcbjflnlaaZAdd
import Derived.Test.YtkgbhlcbjflnlaaZPx18
import Derived.WalkLawsBesides
import Derived.Laws.Rows
namespace Go.Proofs.Ytkgbhlcbjflnlaa.Fl
open Go Go.RowKit Go.Proofs.YtkgbhlcbjflnlaaW.PrintWords Go.Proofs.YtkgbhlcbjflnlaaW.PrintLast Go.Proofs.YtkgbhlcbjflnlaaW.PrintMore Go.Proofs.Ytkgbhlcbjflnlaa.Mth Go.Proofs.Ytkgbhlcbjflnlaa.P Go.Proofs.Ytkgbhlcbjflnlaa.Own Go.Proofs
set_option linter.unusedVariables false
set_option linter.unusedSimpArgs false
-- out of the filter's fv0.p, without admission
/-! ### Filters as data -/
structure Flt where
 m:ByteArray
 b1:Bool
 b2:Bool
 b3:Bool
 b4:Bool
 b5:Bool
 b6:Bool
 us:List ByteArray
 ms:List ByteArray
 b9:Bool
 vs:List Int
/-- Where its lists lie, and their room. -/
structure Sl where
 A7:Option Addr
 c7:Nat
 A8:Option Addr
 c8:Nat
 A10:Option Addr
 c10:Nat
abbrev cellsF (F:Flt) (S:Sl):Array Value:=#[.string F.m,.bool F.b1,.bool F.b2,.bool F.b3,.bool F.b4,.bool F.b5,.bool F.b6,.slice S.A7 F.us.length S.c7,.slice S.A8 F.ms.length S.c8,.bool F.b9,.slice S.A10 F.vs.length S.c10]
abbrev zeroF:Array Value:=#[.string ⟨#[]⟩,.bool false,.bool false,.bool false,.bool false,.bool false,.bool false,.slice none 0 0,.slice none 0 0,.bool false,.slice none 0 0]
structure FV (w:World) (F:Flt) (S:Sl):Prop where
 r7:ReadsOf Value.string ByteArray.empty w S.A7 F.us.length F.us
 r8:ReadsOf Value.string ByteArray.empty w S.A8 F.ms.length F.ms
 r10:ReadsOf (Value.int .i64) 0 w S.A10 F.vs.length F.vs
 l7:F.us.length≤S.c7
 l8:F.ms.length≤S.c8
 l10:F.vs.length≤S.c10
theorem FV.below {w w':World} {F:Flt} {S:Sl} (h:FV w F S) (hb:Below w.heap.size w w'):FV w' F S:=⟨h.r7.below hb,h.r8.below hb,h.r10.below hb,h.l7,h.l8,h.l10⟩
/-- A filter with lists of its own. -/
structure OV (base:Nat) (w:World) (F:Flt) (S:Sl):Prop where
 o7:w.ownsRow base 9 1 (.slice S.A7 F.us.length S.c7) F.us.length (encs Value.string F.us)
 o8:w.ownsRow base 9 1 (.slice S.A8 F.ms.length S.c8) F.ms.length (encs Value.string F.ms)
 o10:w.ownsRow base 3 1 (.slice S.A10 F.vs.length S.c10) F.vs.length (encs (Value.int .i64) F.vs)
theorem OV.fv {base:Nat} {w:World} {F:Flt} {S:Sl} (h:OV base w F S):FV w F S:=⟨own_reads_of' h.o7,own_reads_of' h.o8,own_reads_of' h.o10,own_cap h.o7,own_cap h.o8,own_cap h.o10⟩
theorem OV.below {base:Nat} {w w':World} {F:Flt} {S:Sl} (h:OV base w F S) (hb:Below w.heap.size w w'):OV base w' F S:=⟨pw_own_below h.o7 hb,pw_own_below h.o8 hb,pw_own_below h.o10 hb⟩
theorem OV.weaken {base base':Nat} {w:World} {F:Flt} {S:Sl} (h:OV base w F S) (hb:base'≤base):OV base' w F S:=⟨own_weaken h.o7 hb,own_weaken h.o8 hb,own_weaken h.o10 hb⟩
/-- A struct's block has been written. -/
theorem OV.box {base g:Nat} {w w':World} {F:Flt} {S:Sl} {cs:Array Value} (h:OV base w F S) (hg:w.heap[g]?=some (.cells cs 25 (0,0))) (u:Upd w w' (fun k=>k=g)):OV base w' F S :=
 ⟨u.own h.o7 (fun k hk e=>own_ne h.o7 hg (by decide) (by rw [hk,← e])),u.own h.o8 (fun k hk e=>own_ne h.o8 hg (by decide) (by rw [hk,← e])),u.own h.o10 (fun k hk e=>own_ne h.o10 hg (by decide) (by rw [hk,← e]))⟩
def Small (F:Flt):Prop:=F.us.length≤100000∧F.ms.length≤100000∧F.vs.length≤100000
theorem check_f (F:Flt) (S:Sl) (w:World) (h:FV w F S):Calls Try.prog 18 #[.agg (cellsF F S)] w fun e w'=>e=.returned (.int .i64 (checkS F.m F.us F.ms F.vs))∧Below w.heap.size w w' :=
 check_calls F.m F.b1 F.b2 F.b3 F.b4 F.b5 F.b6 S.A7 S.c7 F.us S.A8 S.c8 F.ms F.b9 S.A10 S.c10 F.vs w h.r7 h.r8 h.r10
theorem add_f (F:Flt) (S:Sl) (n:Int) (w:World) (h:FV w F S) (hs:Small F) (ha:argS F.vs n=true) :
  Calls Try.prog 69 #[.agg (cellsF F S),.int .i64 n] w fun e w'=>∃ S',e=.returned (.tuple #[.agg (cellsF { F with vs:=insS n F.vs } S'),.int .i64 0])∧OV w.heap.size w' { F with vs:=insS n F.vs } S'∧Below w.heap.size w w':=by
 unfold argS at ha
 simp only [Bool.and_eq_true,decide_eq_true_eq] at ha
 refine (add_ok F.m F.b1 F.b2 F.b3 F.b4 F.b5 F.b6 S.A7 S.c7 F.us S.A8 S.c8 F.ms F.b9 S.A10 S.c10 F.vs n w h.r7 h.r8 h.r10 hs.1 hs.2.1 hs.2.2 ha.1.1 ha.1.2 ha.2).mono ?_
 rintro e w' ⟨X7,y7,X8,y8,X,y,rfl,l7,l8,l10,o7,o8,o10,hb⟩
 exact ⟨⟨X7,y7,X8,y8,X,y⟩,rfl,⟨o7,o8,o10⟩,hb⟩
theorem add_no (F:Flt) (S:Sl) (n:Int) (w:World) (h:FV w F S) (ha:argS F.vs n=false) :
  Calls Try.prog 69 #[.agg (cellsF F S),.int .i64 n] w fun e w'=>e=.returned (.tuple #[.agg zeroF,.int .i64 1])∧Below w.heap.size w w':=by
 unfold argS at ha
 by_cases h0:n < 0
 ·exact add_n1 F.m F.b1 F.b2 F.b3 F.b4 F.b5 F.b6 S.A7 S.c7 F.us S.A8 S.c8 F.ms F.b9 S.A10 S.c10 F.vs n w h.r7 h.r8 h.r10 h0
 ·by_cases h1:4094 < n
  ·exact add_n2 F.m F.b1 F.b2 F.b3 F.b4 F.b5 F.b6 S.A7 S.c7 F.us S.A8 S.c8 F.ms F.b9 S.A10 S.c10 F.vs n w h.r7 h.r8 h.r10 (by omega) h1
  ·rw [decide_eq_true (by omega),decide_eq_true (by omega)] at ha
   exact add_n3 F.m F.b1 F.b2 F.b3 F.b4 F.b5 F.b6 S.A7 S.c7 F.us S.A8 S.c8 F.ms F.b9 S.A10 S.c10 F.vs n w h.r7 h.r8 h.r10 (by omega) (by omega) (by simpa using ha)
theorem del_f (F:Flt) (S:Sl) (n:Int) (w:World) (h:FV w F S) (hs:Small F) (ha:argS F.vs n=true) :
  Calls Try.prog 70 #[.agg (cellsF F S),.int .i64 n] w fun e w'=>∃ S',e=.returned (.tuple #[.agg (cellsF { F with vs:=delS n F.vs } S'),.int .i64 0])∧OV w.heap.size w' { F with vs:=delS n F.vs } S'∧Below w.heap.size w w':=by
 unfold argS at ha
 simp only [Bool.and_eq_true,decide_eq_true_eq] at ha
 refine (del_ok F.m F.b1 F.b2 F.b3 F.b4 F.b5 F.b6 S.A7 S.c7 F.us S.A8 S.c8 F.ms F.b9 S.A10 S.c10 F.vs n w h.r7 h.r8 h.r10 hs.1 hs.2.1 hs.2.2 ha.1.1 ha.1.2 ha.2).mono ?_
 rintro e w' ⟨X7,y7,X8,y8,X,y,rfl,l7,l8,l10,o7,o8,o10,hb⟩
 exact ⟨⟨X7,y7,X8,y8,X,y⟩,rfl,⟨o7,o8,o10⟩,hb⟩
theorem del_no (F:Flt) (S:Sl) (n:Int) (w:World) (h:FV w F S) (ha:argS F.vs n=false) :
  Calls Try.prog 70 #[.agg (cellsF F S),.int .i64 n] w fun e w'=>e=.returned (.tuple #[.agg zeroF,.int .i64 1])∧Below w.heap.size w w':=by
 unfold argS at ha
 by_cases h0:n < 0
 ·exact del_n1 F.m F.b1 F.b2 F.b3 F.b4 F.b5 F.b6 S.A7 S.c7 F.us S.A8 S.c8 F.ms F.b9 S.A10 S.c10 F.vs n w h.r7 h.r8 h.r10 h0
 ·by_cases h1:4094 < n
  ·exact del_n2 F.m F.b1 F.b2 F.b3 F.b4 F.b5 F.b6 S.A7 S.c7 F.us S.A8 S.c8 F.ms F.b9 S.A10 S.c10 F.vs n w h.r7 h.r8 h.r10 (by omega) h1
  ·rw [decide_eq_true (by omega),decide_eq_true (by omega)] at ha
   exact del_n3 F.m F.b1 F.b2 F.b3 F.b4 F.b5 F.b6 S.A7 S.c7 F.us S.A8 S.c8 F.ms F.b9 S.A10 S.c10 F.vs n w h.r7 h.r8 h.r10 (by omega) (by omega) (by simpa using ha)
/-! ### Settings as data -/
structure Cfg where
 F:Flt
 p:Int
 mx:Int
 on:Bool
 kn:Int
 tab:List Int
 key:ByteArray
 df:Int
structure SlC where
 S:Sl
 A:Option Addr
 c:Nat
abbrev cellsC (C:Cfg) (S:SlC):Array Value:=#[.string C.F.m,.bool C.F.b1,.bool C.F.b2,.bool C.F.b3,.bool C.F.b4,.bool C.F.b5,.bool C.F.b6,.slice S.S.A7 C.F.us.length S.S.c7,.slice S.S.A8 C.F.ms.length S.S.c8,.bool C.F.b9,.slice S.S.A10 C.F.vs.length S.S.c10,.int .i64 C.p,.int .i64 C.mx,.bool C.on,.int .i64 C.kn,.slice S.A C.tab.length S.c,.string C.key,.int .i64 C.df]
abbrev zeroC:Array Value:=#[.string ⟨#[]⟩,.bool false,.bool false,.bool false,.bool false,.bool false,.bool false,.slice none 0 0,.slice none 0 0,.bool false,.slice none 0 0,.int .i64 0,.int .i64 0,.bool false,.int .i64 0,.slice none 0 0,.string ⟨#[]⟩,.int .i64 0]
structure CV (w:World) (C:Cfg) (S:SlC):Prop where
 f:FV w C.F S.S
 r:ReadsOf (Value.int .i64) 0 w S.A C.tab.length C.tab
 l:C.tab.length≤S.c
theorem CV.below {w w':World} {C:Cfg} {S:SlC} (h:CV w C S) (hb:Below w.heap.size w w'):CV w' C S:=⟨h.f.below hb,h.r.below hb,h.l⟩
/-- Settings with lists of their own. -/
structure OC (base:Nat) (w:World) (C:Cfg) (S:SlC):Prop where
 f:OV base w C.F S.S
 r:w.ownsRow base 3 1 (.slice S.A C.tab.length S.c) C.tab.length (encs (Value.int .i64) C.tab)
theorem OC.cv {base:Nat} {w:World} {C:Cfg} {S:SlC} (h:OC base w C S):CV w C S:=⟨h.f.fv,own_reads_of' h.r,own_cap h.r⟩
theorem OC.below {base:Nat} {w w':World} {C:Cfg} {S:SlC} (h:OC base w C S) (hb:Below w.heap.size w w'):OC base w' C S:=⟨h.f.below hb,pw_own_below h.r hb⟩
theorem OC.weaken {base base':Nat} {w:World} {C:Cfg} {S:SlC} (h:OC base w C S) (hb:base'≤base):OC base' w C S:=⟨h.f.weaken hb,own_weaken h.r hb⟩
/-- A block that is no list has been written. -/
theorem OV.boxT {base g t:Nat} {w w':World} {F:Flt} {S:Sl} {cs:Array Value} (h:OV base w F S) (hg:w.heap[g]?=some (.cells cs t (0,0))) (h9:(9:Nat) ≠ t) (h3:(3:Nat) ≠ t) (u:Upd w w' (fun k=>k=g)):OV base w' F S :=
 ⟨u.own h.o7 (fun k hk e=>own_ne h.o7 hg h9 (by rw [hk,← e])),u.own h.o8 (fun k hk e=>own_ne h.o8 hg h9 (by rw [hk,← e])),u.own h.o10 (fun k hk e=>own_ne h.o10 hg h3 (by rw [hk,← e]))⟩
theorem OC.boxT {base g t:Nat} {w w':World} {C:Cfg} {S:SlC} {cs:Array Value} (h:OC base w C S) (hg:w.heap[g]?=some (.cells cs t (0,0))) (h9:(9:Nat) ≠ t) (h3:(3:Nat) ≠ t) (u:Upd w w' (fun k=>k=g)):OC base w' C S :=
 ⟨h.f.boxT hg h9 h3 u,u.own h.r (fun k hk e=>own_ne h.r hg h3 (by rw [hk,← e]))⟩
def SmallC (C:Cfg):Prop:=Small C.F∧C.tab.length≤100000
theorem Upd.setRow {w w':World} {S:Nat→Prop} (h:Upd w w' S) {g:Nat} (hg:S g∨w.heap.size≤g) (cs:Array Value):Upd w (w'.setRow g cs) S :=
 ⟨h.os,h.tape,h.output,⟨by simpa [World.setRow] using h.kept.1,fun i hi hn=>by
  have hne:i ≠ g:=fun e=>by subst e;rcases hg with q | q;exact hn q;omega
  exact (setRow_other w' g i cs hne).trans (h.kept.2 i hi hn)⟩⟩
/-- One list of its own. -/
structure OR (base:Nat) (w:World) (e:Nat) (A:Option Addr) (n c:Nat) (xs:List Value):Prop where
 h:w.ownsRow base e 1 (.slice A n c) n xs
 e:e=9∨e=3
theorem OR.below {base e n c:Nat} {w w':World} {A:Option Addr} {xs:List Value} (h:OR base w e A n c xs) (hb:Below w.heap.size w w'):OR base w' e A n c xs:=⟨pw_own_below h.h hb,h.e⟩
theorem OR.boxT {base e n c g t:Nat} {w w':World} {A:Option Addr} {xs:List Value} {cs:Array Value} (h:OR base w e A n c xs) (hg:w.heap[g]?=some (.cells cs t (0,0))) (h9:(9:Nat) ≠ t) (h3:(3:Nat) ≠ t) (u:Upd w w' (fun k=>k=g)):OR base w' e A n c xs :=
 ⟨u.own h.h (fun k hk q=>own_ne h.h hg (by rcases h.e with r | r <;> rw [r] <;> assumption) (by rw [hk,← q])),h.e⟩
end Go.Proofs.Ytkgbhlcbjflnlaa.Fl
