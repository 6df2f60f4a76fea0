/- Commands and settings: contracts by hand, and the laws over them. -/
import Derived.Test.YtkgbhlcbjflnlaaZG1
import Derived.Test.YtkgbhlcbjflnlaaZFS
import Derived.Test.YtkgbhlcbjflnlaaZFx
namespace Go.Proofs.Ytkgbhlcbjflnlaa.Fl
open Go Go.RowKit Go.Proofs.YtkgbhlcbjflnlaaW.PrintWords Go.Proofs.YtkgbhlcbjflnlaaW.PrintLast Go.Proofs.YtkgbhlcbjflnlaaW.PrintMore Go.Proofs.Ytkgbhlcbjflnlaa.Mth Go.Proofs.Ytkgbhlcbjflnlaa.P Go.Proofs.Ytkgbhlcbjflnlaa.Own Go.Proofs
set_option linter.unusedVariables false
set_option linter.unusedSimpArgs false
theorem set_addx (F:Flt) (S:Sl) (n:Int) (w:World) (h:FV w F S) (hs:Small F) (ha:argS F.vs n=true) :
  Calls Try.prog 31 #[.agg (cellsF F S),.int .i64 n,.bool true] w fun e w'=>∃ S',e=.returned (.tuple #[.agg (cellsF { F with vs:=insS n F.vs } S'),.int .i64 0])∧FX w.heap.size F S w' { F with vs:=insS n F.vs } S'∧Below w.heap.size w w':=by
 have hp:=ha
 unfold argS at hp
 simp only [Bool.and_eq_true,decide_eq_true_eq] at hp
 refine (set_ok_true F.m F.b1 F.b2 F.b3 F.b4 F.b5 F.b6 S.A7 S.c7 F.us S.A8 S.c8 F.ms F.b9 S.A10 S.c10 F.vs n w h.r10 h.l10 hs.2.2 hp.1.1 hp.1.2 hp.2 _ (set_ins ha)).mono ?_
 rintro e w' ⟨A,c,rfl,ho,hb⟩
 exact ⟨⟨S.A7,S.c7,S.A8,S.c8,A,c⟩,rfl,⟨.inl ⟨rfl,rfl,rfl⟩,.inl ⟨rfl,rfl,rfl⟩,.inr ho⟩,hb⟩
theorem set_subx (F:Flt) (S:Sl) (n:Int) (w:World) (h:FV w F S) (hs:Small F) (ha:argS F.vs n=true) :
  Calls Try.prog 31 #[.agg (cellsF F S),.int .i64 n,.bool false] w fun e w'=>∃ S',e=.returned (.tuple #[.agg (cellsF { F with vs:=delS n F.vs } S'),.int .i64 0])∧FX w.heap.size F S w' { F with vs:=delS n F.vs } S'∧Below w.heap.size w w':=by
 have hp:=ha
 unfold argS at hp
 simp only [Bool.and_eq_true,decide_eq_true_eq] at hp
 refine (set_ok_false F.m F.b1 F.b2 F.b3 F.b4 F.b5 F.b6 S.A7 S.c7 F.us S.A8 S.c8 F.ms F.b9 S.A10 S.c10 F.vs n w h.r10 h.l10 hs.2.2 hp.1.1 hp.1.2 hp.2 _ (set_del ha)).mono ?_
 rintro e w' ⟨A,c,rfl,ho,hb⟩
 exact ⟨⟨S.A7,S.c7,S.A8,S.c8,A,c⟩,rfl,⟨.inl ⟨rfl,rfl,rfl⟩,.inl ⟨rfl,rfl,rfl⟩,.inr ho⟩,hb⟩
end Go.Proofs.Ytkgbhlcbjflnlaa.Fl
