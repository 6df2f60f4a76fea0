/- Commands and settings: contracts by hand, and the laws over them. -/
import Derived.Test.YtkgbhlcbjflnlaaZOwn
import Derived.Test.YtkgbhlcbjflnlaaZPx0
import Derived.Test.YtkgbhlcbjflnlaaZShelf
import Derived.Test.YtkgbhlcbjflnlaaZMth
namespace Go.Proofs.Ytkgbhlcbjflnlaa.P
open Go Go.RowKit Go.Proofs.YtkgbhlcbjflnlaaW.PrintWords Go.Proofs.YtkgbhlcbjflnlaaW.PrintLast Go.Proofs.YtkgbhlcbjflnlaaW.PrintMore Go.Proofs.Ytkgbhlcbjflnlaa.Mth Go.Proofs.Ytkgbhlcbjflnlaa.P Go.Proofs.Ytkgbhlcbjflnlaa.Own Go.Proofs
set_option linter.unusedVariables false
set_option linter.unusedSimpArgs false
/-! ### strings.Join, in the print's form -/
def joinOf (l:List ByteArray) (sep:ByteArray):List UInt8:=Lib.join (l.map (·.data.toList)) sep.data.toList
def strings_Join.f (l:List ByteArray) (sep:ByteArray):Option ByteArray:=if (joinOf l sep).length≤140737488355328∧l.length≤140737488355328 then some ⟨(joinOf l sep).toArray⟩ else none
theorem strings_Join.calls (A:Option Addr) (c:Nat) (l:List ByteArray) (sep:ByteArray) (r:ByteArray) (w:World) (hr:Kd.C Kd.string w A l.length l) (hc:l.length≤c) (h:strings_Join.f l sep=some r) :
  Calls Try.prog 45 #[.slice A l.length c,.string sep] w fun e w'=>e=.returned (.string r)∧Below w.heap.size w w':=by
 have hr':ReadsOf Value.string ByteArray.empty w A l.length l:=Kd.reads_of_C hr
 unfold strings_Join.f at h
 by_cases hl:(joinOf l sep).length≤140737488355328∧l.length≤140737488355328
 ·rw [if_pos hl] at h
  obtain rfl:=Option.some.inj h
  rcases Nat.eq_zero_or_pos l.length with h0 | h0
  ·obtain rfl:=List.eq_nil_of_length_eq_zero h0
   refine (Try.strings_Join_none A c sep w).mono ?_
   rintro e w' ⟨rfl,rfl⟩
   exact ⟨rfl,Below.refl _ _⟩
  ·obtain ⟨ad,rfl,hcl⟩:=hr'.2.2 h0
   have e0:ad.spot=none:=by
    have q:=hcl 0 h0
    rw [show ad.add 0=ad by simp [Addr.add]] at q
    unfold World.cell? at q
    split at q
    ·split at q
     ·cases q
     ·next z=>simpa using z
    ·cases q
   obtain ⟨bk,o,sp⟩:=ad
   obtain rfl:sp=none:=e0
   have hcells:∀ (j:Nat) x,l[j]?=some x→w.cell? ⟨bk,o+j,none⟩=some (.string x):=fun j x hx=>by
    have hj:=(List.getElem?_eq_some_iff.1 hx).1
    have q:=hcl j hj
    rw [List.getD_eq_getElem?_getD,hx] at q
    have e:(⟨bk,o,none⟩:Addr).add j=⟨bk,o+j,none⟩:=by
     unfold Addr.add
     by_cases z:j=0
     ·simp [z]
     ·simp [z]
    rw [e] at q
    exact q
   exact Try.strings_Join bk o c l sep w hcells (World.block_lt_of_cell? w _ (hcells 0 _ (List.getElem?_eq_getElem h0))) hl.2 hc hl.1
 ·rw [if_neg hl] at h;cases h
end Go.Proofs.Ytkgbhlcbjflnlaa.P
