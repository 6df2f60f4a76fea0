/- Slices that came in as arguments: what their cells hold. -/
import Derived.Test.YtkgbhlcbjflnlaaZG0
import Derived.ChangeArms
import Derived.ChangeSlices
import Derived.ChangeSame
namespace Go.Proofs.Ytkgbhlcbjflnlaa.RowSl
open Go Go.RowKit Go.ChangeShapes Go.WideShapes Go.Proofs.YtkgbhlcbjflnlaaW.PrintWords
section
variable {H:Type} {enc:TypeId × Value→H} {P:Program} {w:World} {base:Nat} {spare:Nat→Bool} {held:Bool} {t e:TypeId} {A:Option Addr} {n c fuel:Nat} {x:DataW H × List MemPlace}
theorem choose_list {α:Type} (p:Nat→α→Prop):∀ n,(∀ i,i < n→∃ a,p i a)→∃ xs:List α,xs.length=n∧∀ i (hi:i < xs.length),p i xs[i]
 | 0,_=>⟨[],rfl,fun i hi=>absurd hi (Nat.not_lt_zero i)⟩
 | n+1,h=>by
  obtain ⟨xs,hl,hx⟩:=choose_list p n fun i hi=>h i (by omega)
  obtain ⟨a,ha⟩:=h n (by omega)
  refine ⟨xs ++ [a],by simp [hl],fun i hi=>?_⟩
  by_cases q:i < xs.length
  ·rw [List.getElem_append_left q];exact hx i q
  ·have e:i=n:=by simp at hi;omega
   subst e
   rw [List.getElem_append_right (by omega)]
   simpa using ha
theorem readsK {α:Type} (k:Nat) (encv:α→List Value) (good:α→Prop) (ht:P.underlying t=some (.slice e)) (hc:P.cellsOf e=k)
  (ex:∀ n cs y,DataW.trod enc P w base spare held n e cs=some y→∃ a,cs=encv a∧good a)
  (h:DataW.trod enc P w base spare held fuel t [.slice A n c]=some x) :
  ∃ xs:List α,xs.length=n∧n≤c∧c≤9223372036854775807∧(∀ a∈xs,good a)∧(A=none→n=0) ∧
   ∀ ad,A=some ad→∀ i (hi:i < xs.length) j,j < k→w.cell? ((ad.add (i * k)).add j)=(encv xs[i])[j]?:=by
 rcases DataW.trod_slice ht h with ⟨h0,_⟩ | ⟨a,len,cap,elems,rest,m,_,h0,_,hb,hl,hm,hlen,hel,hsp,hns⟩
 ·simp only [List.cons.injEq,Value.slice.injEq,and_true] at h0
  obtain ⟨rfl,rfl,rfl⟩:=h0
  exact ⟨[],rfl,Nat.le_refl _,by omega,by simp,fun _=>rfl,fun ad had=>by cases had⟩
 ·simp only [List.cons.injEq,Value.slice.injEq,and_true] at h0
  obtain ⟨rfl,rfl,rfl⟩:=h0
  obtain ⟨xs,hxl,hx⟩:=choose_list (fun i y=>good y∧∀ j,j < k→w.cell? ((a.add (i * k)).add j)=(encv y)[j]?) n (by
   intro i hi
   have h1:=hel i hi
   rw [List.getElem?_eq_getElem (by omega),Option.bind_eq_some_iff,hc] at h1
   obtain ⟨cs',hcs,hy⟩:=h1
   obtain ⟨y,rfl,hg⟩:=ex _ _ _ hy
   exact ⟨y,hg,(World.cells?_some hcs).2.2⟩)
  refine ⟨xs,hxl,hl,by simpa [maxLen] using hm,?_,fun h=>(by cases h),?_⟩
  ·intro y hy
   obtain ⟨i,hi,rfl⟩:=List.getElem_of_mem hy
   exact (hx i hi).1
  ·intro ad had i hi j hj
   obtain rfl:=Option.some.inj had
   exact (hx i hi).2 j hj
theorem reads1 {α:Type} (encv:α→Value) (d:α) (good:α→Prop) (ht:P.underlying t=some (.slice e)) (hc:P.cellsOf e=1)
  (ex:∀ n cs y,DataW.trod enc P w base spare held n e cs=some y→∃ a,cs=[encv a]∧good a)
  (h:DataW.trod enc P w base spare held fuel t [.slice A n c]=some x) :
  ∃ xs:List α,n=xs.length∧xs.length≤c∧c≤9223372036854775807∧(∀ a∈xs,good a)∧ReadsOf encv d w A xs.length xs:=by
 obtain ⟨xs,rfl,h2,h3,h4,h5,h6⟩:=readsK 1 (fun a=>[encv a]) good ht hc ex h
 refine ⟨xs,rfl,h2,h3,h4,rfl,by omega,fun hn=>?_⟩
 cases A with
 | none=>have:=h5 rfl;omega
 | some ad =>
  refine ⟨ad,rfl,fun j hj=>?_⟩
  have q:=h6 ad rfl j hj 0 (by omega)
  rw [Nat.mul_one] at q
  have e0:(ad.add j).add 0=ad.add j:=by simp [Addr.add]
  rw [e0] at q
  rw [q,List.getD_eq_getElem?_getD,List.getElem?_eq_getElem hj]
  rfl
theorem isSlice {v:Value} (ht:P.underlying t=some (.slice e)) (h:DataW.trod enc P w base spare held fuel t [v]=some x):∃ A n c,v=.slice A n c:=by
 rcases DataW.trod_slice ht h with ⟨h0,_⟩ | ⟨a,len,cap,elems,rest,m,_,h0,_⟩
 ·exact ⟨none,0,0,List.singleton_inj.1 h0⟩
 ·exact ⟨some a,len,cap,List.singleton_inj.1 h0⟩
theorem strs (ht:P.underlying t=some (.slice e)) (he:P.underlying e=some .string) (hc:P.cellsOf e=1) (h:DataW.trod enc P w base spare held fuel t [.slice A n c]=some x) :
  ∃ xs:List ByteArray,n=xs.length∧xs.length≤c∧c≤9223372036854775807∧(∀ a∈xs,a.size≤maxLen)∧ReadsOf Value.string ByteArray.empty w A xs.length xs :=
 reads1 Value.string ByteArray.empty (fun a=>a.size≤maxLen) ht hc (fun n cs y hy=>by obtain ⟨b,rfl,_,hw⟩:=DataW.trod_string he hy;exact ⟨b,rfl,hw⟩) h
theorem ints {k:IntKind} (ht:P.underlying t=some (.slice e)) (he:P.underlying e=some (.int k)) (hc:P.cellsOf e=1) (h:DataW.trod enc P w base spare held fuel t [.slice A n c]=some x) :
  ∃ xs:List Int,n=xs.length∧xs.length≤c∧c≤9223372036854775807∧(∀ a∈xs,(Lit.int k a).wf=true)∧ReadsOf (Value.int k) 0 w A xs.length xs :=
 reads1 (Value.int k) 0 (fun a=>(Lit.int k a).wf=true) ht hc (fun n cs y hy=>by obtain ⟨b,rfl,_,hw⟩:=DataW.trod_int he hy;exact ⟨b,rfl,hw⟩) h
end
end Go.Proofs.Ytkgbhlcbjflnlaa.RowSl
