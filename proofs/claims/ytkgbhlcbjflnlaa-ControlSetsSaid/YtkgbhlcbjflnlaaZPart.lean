/- Commands and settings: contracts by hand, and the laws over them. -/
import Derived.Test.YtkgbhlcbjflnlaaZOwn
import Derived.Test.YtkgbhlcbjflnlaaZFV
import Derived.Laws.Tables
namespace Go.Proofs.Ytkgbhlcbjflnlaa.Fl
open Go Go.RowKit Go.Proofs.YtkgbhlcbjflnlaaW.PrintWords Go.Proofs.YtkgbhlcbjflnlaaW.PrintLast Go.Proofs.YtkgbhlcbjflnlaaW.PrintMore Go.Proofs.Ytkgbhlcbjflnlaa.Mth Go.Proofs.Ytkgbhlcbjflnlaa.P Go.Proofs.Ytkgbhlcbjflnlaa.Own Go.Proofs
set_option linter.unusedVariables false
set_option linter.unusedSimpArgs false
/-! ### Parts of a block, loaded and stored whole -/
theorem addr_add (g j i:Nat):(⟨g,j,none⟩:Addr).add i=⟨g,j+i,none⟩:=by
 unfold Addr.add
 split <;> simp_all
theorem run_load_part (w:World) (g j:Nat) (t ty:TypeId) (all cs:Array Value) (fr:Nat × Nat) (d:TypeDesc) (hg:w.heap[g]?=some (.cells all t fr))
  (hu:Try.prog.underlying ty=some d) (hd:(match d with | .struct _ | .array _ _=>true | _=>false)=true) (hi:(Try.prog.info? ty).map (·.size)=some cs.size) (hp:(all.toList.drop j).take cs.size=cs.toList) :
  (loadVar ty ⟨g,j,none⟩).run Try.prog w=.ok (.agg cs) w:=by
 have hl:(loadCells ⟨g,j,none⟩ cs.toList.length).run Try.prog w=.ok cs.toList.toArray w :=
  run_loadCells_list (P:=Try.prog) w ⟨g,j,none⟩ cs.toList (fun i v hv=>by
   rw [addr_add,cell_of_row w g (j+i) all t fr hg]
   rw [← hp] at hv
   have hlt:i < cs.size:=by
    rcases Nat.lt_or_ge i cs.size with h | h
    ·exact h
    ·rw [List.getElem?_eq_none (by rw [List.length_take];omega)] at hv;cases hv
   rw [List.getElem?_take_of_lt hlt,List.getElem?_drop] at hv
   rw [← hv];simp)
 cases hq:Try.prog.info? ty with
 | none=>simp [hq] at hi
 | some i =>
  have hs:i.size=cs.size:=by simpa [hq] using hi
  have hagg:(isAgg ty).run Try.prog w=.ok true w:=by
   unfold isAgg
   rw [Sem.run_bind,run_underlying hu w]
   cases d <;> simp_all
  simp only [Array.length_toList,Array.toArray_toList] at hl
  simp [loadVar,Sem.run_bind,hagg,sizeOf,typeInfo,hq,hs,hl]
theorem run_storeCells_part (g j:Nat) (t:TypeId):∀ (vs:List Value) (i:Nat) (cur:Array Value) (w:World),w.heap[g]?=some (.cells cur t (0,0))→j+i+vs.length≤cur.size→(∀ v∈vs,v.oneCell'=true) →
  (storeCells ⟨g,j,none⟩ vs i).run Try.prog w=.ok () (w.setRow g (cur.toList.take (j+i) ++ vs ++ cur.toList.drop (j+i+vs.length)).toArray)
 | [],i,cur,w,hg,hl,_=>by
  have e:cur.toList.take (j+i) ++ [] ++ cur.toList.drop (j+i+([]:List Value).length)=cur.toList:=by simp
  have hlt:g < w.heap.size:=(Array.getElem?_eq_some_iff.1 hg).1
  have hv:w.heap[g]=.cells cur t (0,0):=(Array.getElem?_eq_some_iff.1 hg).2
  rw [e]
  simp only [storeCells,Array.toArray_toList]
  show Result.ok () w=_
  congr 1
  unfold World.setRow
  cases w with
  | mk heap tape drawn os output =>
   congr 1
   apply Array.ext
   ·simp
   ·intro k h1 h2
    simp only [Array.getElem_modify]
    split
    ·rename_i hk;subst hk;simp at hv;simp [hv]
    ·rfl
 | v :: rest,i,cur,w,hg,hl,h1=>by
  have hi:j+i < cur.size:=by simp at hl;omega
  have hcell:w.cell? ⟨g,j+i,none⟩=some cur[j+i]:=by simp [World.cell?,hg,hi]
  have hfro:w.frozen? ⟨g,j+i,none⟩=false:=by simp [World.frozen?,hg]
  have hst:(store ((⟨g,j,none⟩:Addr).add i) v).run Try.prog w=.ok () (w.setRow g (cur.setIfInBounds (j+i) v)):=by
   rw [addr_add,run_store Try.prog w _ v _ (h1 v (by simp)),hcell]
   simp [hfro,setCell_eq_setRow w g (j+i) cur t (0,0) v hg]
  have ih:=run_storeCells_part g j t rest (i+1) (cur.setIfInBounds (j+i) v) (w.setRow g (cur.setIfInBounds (j+i) v)) (setRow_heap w g cur _ t _ hg) (by simp at hl ⊢; omega) (fun x hx=>h1 x (by simp [hx]))
  simp only [storeCells,Sem.run_bind,hst,Result.andThen_ok,ih,setRow_setRow]
  congr 3
  apply List.ext_getElem?
  intro k
  simp only [Array.toList_setIfInBounds,List.getElem?_append,List.length_append,List.length_take,List.length_set,List.length_cons,Array.length_toList,List.getElem?_drop,List.getElem?_take,List.getElem?_set]
  have hs:cur.toList.length=cur.size:=by simp
  have a1:min (j+i) cur.size=j+i:=by omega
  have a2:min (j+(i+1)) cur.size=j+(i+1):=by omega
  simp only [a1,a2]
  by_cases hk:k < j+i
  ·have b1:k < j+(i+1):=by omega
   have b2:k < j+(i+1)+rest.length:=by omega
   have b3:k < j+i+(rest.length+1):=by omega
   have b4 : ¬ (j+i=k):=by omega
   simp [hk,b1,b2,b3,b4]
  ·by_cases hk2:k=j+i
   ·subst hk2
    simp [show j+i < j+(i+1) by omega,show j+i < j+(i+1)+rest.length by omega,hi]
   ·have b1 : ¬ k < j+(i+1):=by omega
    by_cases hk3:k < j+(i+1)+rest.length
    ·have b3:k < j+i+(rest.length+1):=by omega
     simp only [hk,b1,hk3,b3,if_true,if_false]
     rw [show k - (j+i)=(k - (j+(i+1)))+1 by omega,List.getElem?_cons_succ]
    ·have b3 : ¬ k < j+i+(rest.length+1):=by omega
     have b4 : ¬ (j+i=j+(i+1)+rest.length+(k - (j+(i+1)+rest.length))):=by omega
     simp only [hk,b1,hk3,b3,if_false]
     rw [if_neg b4]
     congr 1
     omega
theorem run_store_part (w:World) (g j:Nat) (t ty:TypeId) (old cells new:Array Value) (hg:w.heap[g]?=some (.cells old t (0,0))) (hi:(Try.prog.info? ty).map (·.size)=some cells.size)
  (ho:j+cells.size≤old.size) (h1:cells.all (·.oneCell')=true) (hn:(old.toList.take j ++ cells.toList ++ old.toList.drop (j+cells.toList.length)).toArray=new) :
  (storeVar ty ⟨g,j,none⟩ (.agg cells)).run Try.prog w=.ok () (w.setRow g new):=by
 subst hn
 have:=run_storeCells_part g j t cells.toList 0 old w hg (by simpa using ho) (fun v hv=>(Array.all_eq_true_iff_forall_mem.1 h1) v (by simpa using hv))
 cases hq:Try.prog.info? ty with
 | none=>simp [hq] at hi
 | some i =>
  have hs:cells.size=i.size:=by simp [hq] at hi;omega
  simp [storeVar,sizeOf,typeInfo,hq,Value.cells,hs,this]
theorem exec_load_part {o:Oper} {a:Act} {w:World} (ty:TypeId) (x:Operand) (ho:o.op=.load ty x) (g j:Nat) (hx:a.eval x=.pointer (some ⟨g,j,none⟩)) (t:TypeId) (all cs:Array Value) (fr:Nat × Nat) (d:TypeDesc) (hg:w.heap[g]?=some (.cells all t fr))
  (hu:Try.prog.underlying ty=some d) (hd:(match d with | .struct _ | .array _ _=>true | _=>false)=true) (hi:(Try.prog.info? ty).map (·.size)=some cs.size) (hp:(all.toList.drop j).take cs.size=cs.toList):(execOp a.eval o).run Try.prog w=.ok (.value (.agg cs)) w:=by
 unfold execOp
 simp only [ho,hx,Instr.loadAt,Instr.sureAddr,Sem.run_bind,Sem.run_pure,Result.andThen_ok,run_load_part w g j t ty all cs fr d hg hu hd hi hp]
theorem exec_store_part {o:Oper} {a:Act} {w:World} (ty:TypeId) (x y:Operand) (ho:o.op=.store ty x y) (g j:Nat) (cells:Array Value) (hx:a.eval x=.pointer (some ⟨g,j,none⟩)) (hy:a.eval y=.agg cells) (t:TypeId) (old new:Array Value) (hg:w.heap[g]?=some (.cells old t (0,0))) (hi:(Try.prog.info? ty).map (·.size)=some cells.size)
  (hold:j+cells.size≤old.size) (h1:cells.all (·.oneCell')=true) (hn:(old.toList.take j ++ cells.toList ++ old.toList.drop (j+cells.toList.length)).toArray=new):(execOp a.eval o).run Try.prog w=.ok .skip (w.setRow g new):=by
 unfold execOp
 simp only [ho,hx,hy,Instr.storeAt,Instr.sureAddr,Sem.run_bind,Sem.run_pure,Result.andThen_ok,run_store_part w g j t ty old cells new hg hi hold h1 hn]
theorem wpList_load_part {ops:Array Oper} {rest:List Oper} {o:Oper} {a:Act} {w:World} {Q:Exit→Act→World→Prop} (hgd:o.guard=none) (ty:TypeId) (x:Operand) (ho:o.op=.load ty x)
  (g j:Nat) (hx:a.eval x=.pointer (some ⟨g,j,none⟩)) (t:TypeId) (all cs:Array Value) (fr:Nat × Nat) (d:TypeDesc) (hg:w.heap[g]?=some (.cells all t fr))
  (hu:Try.prog.underlying ty=some d) (hd:(match d with | .struct _ | .array _ _=>true | _=>false)=true) (hi:(Try.prog.info? ty).map (·.size)=some cs.size) (hp:(all.toList.drop j).take cs.size=cs.toList)
  (h:wpList Try.prog ops Q rest (a.put o.dst (.agg cs)) w):wpList Try.prog ops Q (o :: rest) a w :=
 wpList_plain hgd fun _ hK=>by
  unfold Oper.wp
  rw [exec_load_part ty x ho g j hx t all cs fr d hg hu hd hi hp]
  exact hK _ _ h
theorem wpList_store_part {ops:Array Oper} {rest:List Oper} {o:Oper} {a:Act} {w:World} {Q:Exit→Act→World→Prop} (hgd:o.guard=none) (ty:TypeId) (x y:Operand) (ho:o.op=.store ty x y)
  (g j:Nat) (cells:Array Value) (hx:a.eval x=.pointer (some ⟨g,j,none⟩)) (hy:a.eval y=.agg cells) (t:TypeId) (old new:Array Value) (hg:w.heap[g]?=some (.cells old t (0,0))) (hi:(Try.prog.info? ty).map (·.size)=some cells.size)
  (hold:j+cells.size≤old.size) (h1:cells.all (·.oneCell')=true) (hn:(old.toList.take j ++ cells.toList ++ old.toList.drop (j+cells.toList.length)).toArray=new)
  (h:wpList Try.prog ops Q rest (a.put o.dst undef) (w.setRow g new)):wpList Try.prog ops Q (o :: rest) a w :=
 wpList_plain hgd fun _ hK=>by
  unfold Oper.wp
  rw [exec_store_part ty x y ho g j cells hx hy t old new hg hi hold h1 hn]
  exact hK _ _ h
theorem wpList_load_part_g {ops:Array Oper} {rest:List Oper} {o:Oper} {a:Act} {w:World} {Q:Exit→Act→World→Prop} (hgd:Region.wanted o (yielded ops a.tmps)=true) (ty:TypeId) (x:Operand) (ho:o.op=.load ty x)
  (g j:Nat) (hx:a.eval x=.pointer (some ⟨g,j,none⟩)) (t:TypeId) (all cs:Array Value) (fr:Nat × Nat) (d:TypeDesc) (hg:w.heap[g]?=some (.cells all t fr))
  (hu:Try.prog.underlying ty=some d) (hd:(match d with | .struct _ | .array _ _=>true | _=>false)=true) (hi:(Try.prog.info? ty).map (·.size)=some cs.size) (hp:(all.toList.drop j).take cs.size=cs.toList)
  (h:wpList Try.prog ops Q rest (a.put o.dst (.agg cs)) w):wpList Try.prog ops Q (o :: rest) a w :=
 wpList_step fun K hK=>by
  rw [if_pos hgd]
  unfold Oper.wp
  rw [exec_load_part ty x ho g j hx t all cs fr d hg hu hd hi hp]
  exact hK _ _ h
end Go.Proofs.Ytkgbhlcbjflnlaa.Fl
