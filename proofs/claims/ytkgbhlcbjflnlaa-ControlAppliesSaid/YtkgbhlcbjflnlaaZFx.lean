/- Commands and settings: contracts by hand, and the laws over them. -/
import Derived.Test.YtkgbhlcbjflnlaaZG1
import Derived.Test.YtkgbhlcbjflnlaaZG8
namespace Go.Proofs.Ytkgbhlcbjflnlaa.Fl
open Go Go.RowKit Go.Proofs.YtkgbhlcbjflnlaaW.PrintWords Go.Proofs.YtkgbhlcbjflnlaaW.PrintLast Go.Proofs.YtkgbhlcbjflnlaaW.PrintMore Go.Proofs.Ytkgbhlcbjflnlaa.Mth Go.Proofs.Ytkgbhlcbjflnlaa.P Go.Proofs.Ytkgbhlcbjflnlaa.Own Go.Proofs
set_option linter.unusedVariables false
set_option linter.unusedSimpArgs false
/-! ### Filters and settings whose lists are the argument's, or of the call's own -/
structure FX (base:Nat) (F:Flt) (S:Sl) (w':World) (F':Flt) (S':Sl):Prop where
 x7:(S'.A7=S.A7∧S'.c7=S.c7∧F'.us=F.us)∨w'.ownsRow base 9 1 (.slice S'.A7 F'.us.length S'.c7) F'.us.length (encs Value.string F'.us)
 x8:(S'.A8=S.A8∧S'.c8=S.c8∧F'.ms=F.ms)∨w'.ownsRow base 9 1 (.slice S'.A8 F'.ms.length S'.c8) F'.ms.length (encs Value.string F'.ms)
 x10:(S'.A10=S.A10∧S'.c10=S.c10∧F'.vs=F.vs)∨w'.ownsRow base 3 1 (.slice S'.A10 F'.vs.length S'.c10) F'.vs.length (encs (Value.int .i64) F'.vs)
theorem FX.refl (base:Nat) (F F':Flt) (S:Sl) (w':World) (h7:F'.us=F.us) (h8:F'.ms=F.ms) (h10:F'.vs=F.vs):FX base F S w' F' S:=⟨.inl ⟨rfl,rfl,h7⟩,.inl ⟨rfl,rfl,h8⟩,.inl ⟨rfl,rfl,h10⟩⟩
section
variable {base base' g:Nat} {F F':Flt} {S S':Sl} {w w' w'':World}
theorem FX.below (h:FX base F S w' F' S') (hb:Below w'.heap.size w' w''):FX base F S w'' F' S':=⟨h.x7.imp id fun o=>pw_own_below o hb,h.x8.imp id fun o=>pw_own_below o hb,h.x10.imp id fun o=>pw_own_below o hb⟩
theorem FX.weaken (h:FX base F S w' F' S') (hb:base'≤base):FX base' F S w' F' S':=⟨h.x7.imp id fun o=>own_weaken o hb,h.x8.imp id fun o=>own_weaken o hb,h.x10.imp id fun o=>own_weaken o hb⟩
theorem FX.boxT {t:TypeId} {cs:Array Value} (h:FX base F S w' F' S') (hg:w'.heap[g]?=some (.cells cs t (0,0))) (h9:(9:Nat) ≠ t) (h3:(3:Nat) ≠ t) (u:Upd w' w'' (fun k=>k=g)):FX base F S w'' F' S' :=
 ⟨h.x7.imp id fun o=>u.own o (fun k hk e=>own_ne o hg h9 (by rw [hk,← e])),h.x8.imp id fun o=>u.own o (fun k hk e=>own_ne o hg h9 (by rw [hk,← e])),h.x10.imp id fun o=>u.own o (fun k hk e=>own_ne o hg h3 (by rw [hk,← e]))⟩
theorem FX.fv (x:FX base F S w' F' S') (h:FV w F S) (hb:Below w.heap.size w w'):FV w' F' S':=by
 obtain ⟨r7,r8,r10,l7,l8,l10⟩:=h.below hb
 refine ⟨?_,?_,?_,?_,?_,?_⟩
 ·rcases x.x7 with ⟨a,_,c⟩ | o
  ·rw [a,c];exact r7
  ·exact own_reads_of' o
 ·rcases x.x8 with ⟨a,_,c⟩ | o
  ·rw [a,c];exact r8
  ·exact own_reads_of' o
 ·rcases x.x10 with ⟨a,_,c⟩ | o
  ·rw [a,c];exact r10
  ·exact own_reads_of' o
 ·rcases x.x7 with ⟨_,b,c⟩ | o
  ·rw [b,c];exact l7
  ·exact own_cap o
 ·rcases x.x8 with ⟨_,b,c⟩ | o
  ·rw [b,c];exact l8
  ·exact own_cap o
 ·rcases x.x10 with ⟨_,b,c⟩ | o
  ·rw [b,c];exact l10
  ·exact own_cap o
end
structure CX (base:Nat) (C:Cfg) (S:SlC) (w':World) (D:Cfg) (SD:SlC):Prop where
 f:FX base C.F S.S w' D.F SD.S
 x:(SD.A=S.A∧SD.c=S.c∧D.tab=C.tab)∨w'.ownsRow base 3 1 (.slice SD.A D.tab.length SD.c) D.tab.length (encs (Value.int .i64) D.tab)
section
variable {base base' g:Nat} {C D:Cfg} {S SD:SlC} {w w' w'':World}
theorem CX.below (h:CX base C S w' D SD) (hb:Below w'.heap.size w' w''):CX base C S w'' D SD:=⟨h.f.below hb,h.x.imp id fun o=>pw_own_below o hb⟩
theorem CX.weaken (h:CX base C S w' D SD) (hb:base'≤base):CX base' C S w' D SD:=⟨h.f.weaken hb,h.x.imp id fun o=>own_weaken o hb⟩
theorem CX.boxT {t:TypeId} {cs:Array Value} (h:CX base C S w' D SD) (hg:w'.heap[g]?=some (.cells cs t (0,0))) (h9:(9:Nat) ≠ t) (h3:(3:Nat) ≠ t) (u:Upd w' w'' (fun k=>k=g)):CX base C S w'' D SD :=
 ⟨h.f.boxT hg h9 h3 u,h.x.imp id fun o=>u.own o (fun k hk e=>own_ne o hg h3 (by rw [hk,← e]))⟩
theorem CX.cv (x:CX base C S w' D SD) (h:CV w C S) (hb:Below w.heap.size w w'):CV w' D SD:=by
 obtain ⟨hf,r,l⟩:=h.below hb
 refine ⟨x.f.fv h.f hb,?_,?_⟩
 ·rcases x.x with ⟨a,_,c⟩ | o
  ·rw [a,c];exact r
  ·exact own_reads_of' o
 ·rcases x.x with ⟨_,b,c⟩ | o
  ·rw [b,c];exact l
  ·exact own_cap o
theorem CX.refl (base:Nat) (C:Cfg) (S:SlC) (w':World):CX base C S w' C S:=⟨FX.refl base C.F C.F S.S w' rfl rfl rfl,.inl ⟨rfl,rfl,rfl⟩⟩
end
end Go.Proofs.Ytkgbhlcbjflnlaa.Fl
