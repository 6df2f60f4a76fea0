/- Commands and settings: contracts by hand, and the laws over them. -/
import Derived.Test.YtkgbhlcbjflnlaaZOwn
import Derived.Test.YtkgbhlcbjflnlaaZFV
namespace Go.Proofs.Ytkgbhlcbjflnlaa.Fl
open Go Go.RowKit Go.Proofs.YtkgbhlcbjflnlaaW.PrintWords Go.Proofs.YtkgbhlcbjflnlaaW.PrintLast Go.Proofs.YtkgbhlcbjflnlaaW.PrintMore Go.Proofs.Ytkgbhlcbjflnlaa.Mth Go.Proofs.Ytkgbhlcbjflnlaa.P Go.Proofs.Ytkgbhlcbjflnlaa.Own Go.Proofs
set_option linter.unusedVariables false
set_option linter.unusedSimpArgs false
theorem w1 {i n:Nat} (h:i < n) (hn:n≤1099511627776):wrap64 ((i:Int)+1)=((i+1:Nat):Int):=by rw [wrap64_in (by omega) (by omega)];omega
/-! ### Networks as the document has them -/
theorem sorted_ext:∀ {l1 l2:List Int},l1.Pairwise (· < ·)→l2.Pairwise (· < ·)→(∀ x,x∈l1 ↔ x∈l2)→l1=l2
 | [],[],_,_,_=>rfl
 | [],b :: r,_,_,h=>absurd ((h b).2 (by simp)) (by simp)
 | a :: r,[],_,_,h=>absurd ((h a).1 (by simp)) (by simp)
 | a :: r,b :: s,h1,h2,h=>by
  obtain ⟨k1,k2⟩:=List.pairwise_cons.1 h1
  obtain ⟨m1,m2⟩:=List.pairwise_cons.1 h2
  have e:a=b:=by
   rcases List.mem_cons.1 ((h a).1 (by simp)) with q | q
   ·exact q
   ·rcases List.mem_cons.1 ((h b).2 (by simp)) with p | p
    ·exact p.symm
    ·have:=m1 a q;have:=k1 b p;omega
  subst e
  rw [sorted_ext k2 m2 fun x=>by
   constructor
   ·intro hx
    rcases List.mem_cons.1 ((h x).1 (List.mem_cons_of_mem _ hx)) with q | q
    ·have:=k1 x hx;omega
    ·exact q
   ·intro hx
    rcases List.mem_cons.1 ((h x).2 (List.mem_cons_of_mem _ hx)) with q | q
    ·have:=m1 x hx;omega
    ·exact q]
theorem ins_mem {n x:Int}:∀ {l:List Int},x∈insS n l ↔ x=n∨x∈l
 | []=>by simp [insS]
 | a :: r=>by
  unfold insS
  by_cases h1:a < n
  ·rw [if_pos h1,List.mem_cons,ins_mem (l:=r),List.mem_cons]
   constructor
   ·rintro (h | h | h)
    ·exact .inr (.inl h)
    ·exact .inl h
    ·exact .inr (.inr h)
   ·rintro (h | h | h)
    ·exact .inr (.inl h)
    ·exact .inl h
    ·exact .inr (.inr h)
  ·rw [if_neg h1]
   by_cases h2:a=n
   ·rw [if_pos h2,List.mem_cons,h2]
    constructor
    ·rintro (h | h)
     ·exact .inl h
     ·exact .inr (.inr h)
    ·rintro (h | h | h)
     ·exact .inl h
     ·exact .inl h
     ·exact .inr h
   ·rw [if_neg h2,List.mem_cons]
theorem ins_rise {n:Int}:∀ {l:List Int},l.Pairwise (· < ·)→(insS n l).Pairwise (· < ·)
 | [],_=>by simp [insS]
 | a :: r,h=>by
  obtain ⟨k1,k2⟩:=List.pairwise_cons.1 h
  unfold insS
  by_cases h1:a < n
  ·rw [if_pos h1]
   refine List.pairwise_cons.2 ⟨fun x hx=>?_,ins_rise k2⟩
   rcases ins_mem.1 hx with q | q
   ·omega
   ·exact k1 x q
  ·rw [if_neg h1]
   by_cases h2:a=n
   ·rw [if_pos h2];exact h
   ·rw [if_neg h2]
    refine List.pairwise_cons.2 ⟨fun x hx=>?_,h⟩
    rcases List.mem_cons.1 hx with q | q
    ·omega
    ·have:=k1 x q;omega
theorem del_mem {n x:Int} {l:List Int}:x∈delS n l ↔ x∈l∧x ≠ n:=by
 unfold delS
 rw [List.mem_filter]
 simp
end Go.Proofs.Ytkgbhlcbjflnlaa.Fl
