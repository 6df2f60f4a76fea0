/- Commands and settings: contracts by hand, and the laws over them. -/
import Derived.Test.YtkgbhlcbjflnlaaZG1
import Derived.Test.YtkgbhlcbjflnlaaZG8
import Derived.Laws.Tables
import Derived.Test.YtkgbhlcbjflnlaaZShelf
section
namespace Go.Proofs.Ytkgbhlcbjflnlaa.Fl
open Go Go.RowKit Go.Proofs.YtkgbhlcbjflnlaaW.PrintWords Go.Proofs.YtkgbhlcbjflnlaaW.PrintLast Go.Proofs.YtkgbhlcbjflnlaaW.PrintMore Go.Proofs.Ytkgbhlcbjflnlaa.Mth Go.Proofs.Ytkgbhlcbjflnlaa.P Go.Proofs.Ytkgbhlcbjflnlaa.Own Go.Proofs
set_option linter.unusedVariables false
set_option linter.unusedSimpArgs false
/-! ### Parts of a block, loaded and stored whole -/
theorem addr_add (g j i:Nat):(⟨g,j,none⟩:Addr).add i=⟨g,j+i,none⟩:=by
 unfold Addr.add
 split <;> simp_all
theorem run_load_part (w:World) (g j:Nat) (t ty:TypeId) (all cs:Array Value) (fr:Nat × Nat) (d:TypeDesc) (hg:w.heap[g]?=some (.cells all t fr))
  (hu:Try.prog.underlying ty=some d) (hd:(match d with | .struct _ | .array _ _=>true | _=>false)=true) (hi:(Try.prog.info? ty).map (·.size)=some cs.size) (hp:(all.toList.drop j).take cs.size=cs.toList) :
  (loadVar ty ⟨g,j,none⟩).run Try.prog w=.ok (.agg cs) w:=by
 have hl:(loadCells ⟨g,j,none⟩ cs.toList.length).run Try.prog w=.ok cs.toList.toArray w :=
  run_loadCells_list (P:=Try.prog) w ⟨g,j,none⟩ cs.toList (fun i v hv=>by
   rw [addr_add,cell_of_row w g (j+i) all t fr hg]
   rw [← hp] at hv
   have hlt:i < cs.size:=by
    rcases Nat.lt_or_ge i cs.size with h | h
    ·exact h
    ·rw [List.getElem?_eq_none (by rw [List.length_take];omega)] at hv;cases hv
   rw [List.getElem?_take_of_lt hlt,List.getElem?_drop] at hv
   rw [← hv];simp)
 cases hq:Try.prog.info? ty with
 | none=>simp [hq] at hi
 | some i =>
  have hs:i.size=cs.size:=by simpa [hq] using hi
  have hagg:(isAgg ty).run Try.prog w=.ok true w:=by
   unfold isAgg
   rw [Sem.run_bind,run_underlying hu w]
   cases d <;> simp_all
  simp only [Array.length_toList,Array.toArray_toList] at hl
  simp [loadVar,Sem.run_bind,hagg,sizeOf,typeInfo,hq,hs,hl]
theorem run_storeCells_part (g j:Nat) (t:TypeId):∀ (vs:List Value) (i:Nat) (cur:Array Value) (w:World),w.heap[g]?=some (.cells cur t (0,0))→j+i+vs.length≤cur.size→(∀ v∈vs,v.oneCell'=true) →
  (storeCells ⟨g,j,none⟩ vs i).run Try.prog w=.ok () (w.setRow g (cur.toList.take (j+i) ++ vs ++ cur.toList.drop (j+i+vs.length)).toArray)
 | [],i,cur,w,hg,hl,_=>by
  have e:cur.toList.take (j+i) ++ [] ++ cur.toList.drop (j+i+([]:List Value).length)=cur.toList:=by simp
  have hlt:g < w.heap.size:=(Array.getElem?_eq_some_iff.1 hg).1
  have hv:w.heap[g]=.cells cur t (0,0):=(Array.getElem?_eq_some_iff.1 hg).2
  rw [e]
  simp only [storeCells,Array.toArray_toList]
  show Result.ok () w=_
  congr 1
  unfold World.setRow
  cases w with
  | mk heap tape drawn os output =>
   congr 1
   apply Array.ext
   ·simp
   ·intro k h1 h2
    simp only [Array.getElem_modify]
    split
    ·rename_i hk;subst hk;simp at hv;simp [hv]
    ·rfl
 | v :: rest,i,cur,w,hg,hl,h1=>by
  have hi:j+i < cur.size:=by simp at hl;omega
  have hcell:w.cell? ⟨g,j+i,none⟩=some cur[j+i]:=by simp [World.cell?,hg,hi]
  have hfro:w.frozen? ⟨g,j+i,none⟩=false:=by simp [World.frozen?,hg]
  have hst:(store ((⟨g,j,none⟩:Addr).add i) v).run Try.prog w=.ok () (w.setRow g (cur.setIfInBounds (j+i) v)):=by
   rw [addr_add,run_store Try.prog w _ v _ (h1 v (by simp)),hcell]
   simp [hfro,setCell_eq_setRow w g (j+i) cur t (0,0) v hg]
  have ih:=run_storeCells_part g j t rest (i+1) (cur.setIfInBounds (j+i) v) (w.setRow g (cur.setIfInBounds (j+i) v)) (setRow_heap w g cur _ t _ hg) (by simp at hl ⊢; omega) (fun x hx=>h1 x (by simp [hx]))
  simp only [storeCells,Sem.run_bind,hst,Result.andThen_ok,ih,setRow_setRow]
  congr 3
  apply List.ext_getElem?
  intro k
  simp only [Array.toList_setIfInBounds,List.getElem?_append,List.length_append,List.length_take,List.length_set,List.length_cons,Array.length_toList,List.getElem?_drop,List.getElem?_take,List.getElem?_set]
  have hs:cur.toList.length=cur.size:=by simp
  have a1:min (j+i) cur.size=j+i:=by omega
  have a2:min (j+(i+1)) cur.size=j+(i+1):=by omega
  simp only [a1,a2]
  by_cases hk:k < j+i
  ·have b1:k < j+(i+1):=by omega
   have b2:k < j+(i+1)+rest.length:=by omega
   have b3:k < j+i+(rest.length+1):=by omega
   have b4 : ¬ (j+i=k):=by omega
   simp [hk,b1,b2,b3,b4]
  ·by_cases hk2:k=j+i
   ·subst hk2
    simp [show j+i < j+(i+1) by omega,show j+i < j+(i+1)+rest.length by omega,hi]
   ·have b1 : ¬ k < j+(i+1):=by omega
    by_cases hk3:k < j+(i+1)+rest.length
    ·have b3:k < j+i+(rest.length+1):=by omega
     simp only [hk,b1,hk3,b3,if_true,if_false]
     rw [show k - (j+i)=(k - (j+(i+1)))+1 by omega,List.getElem?_cons_succ]
    ·have b3 : ¬ k < j+i+(rest.length+1):=by omega
     have b4 : ¬ (j+i=j+(i+1)+rest.length+(k - (j+(i+1)+rest.length))):=by omega
     simp only [hk,b1,hk3,b3,if_false]
     rw [if_neg b4]
     congr 1
     omega
theorem run_store_part (w:World) (g j:Nat) (t ty:TypeId) (old cells new:Array Value) (hg:w.heap[g]?=some (.cells old t (0,0))) (hi:(Try.prog.info? ty).map (·.size)=some cells.size)
  (ho:j+cells.size≤old.size) (h1:cells.all (·.oneCell')=true) (hn:(old.toList.take j ++ cells.toList ++ old.toList.drop (j+cells.toList.length)).toArray=new) :
  (storeVar ty ⟨g,j,none⟩ (.agg cells)).run Try.prog w=.ok () (w.setRow g new):=by
 subst hn
 have:=run_storeCells_part g j t cells.toList 0 old w hg (by simpa using ho) (fun v hv=>(Array.all_eq_true_iff_forall_mem.1 h1) v (by simpa using hv))
 cases hq:Try.prog.info? ty with
 | none=>simp [hq] at hi
 | some i =>
  have hs:cells.size=i.size:=by simp [hq] at hi;omega
  simp [storeVar,sizeOf,typeInfo,hq,Value.cells,hs,this]
theorem exec_load_part {o:Oper} {a:Act} {w:World} (ty:TypeId) (x:Operand) (ho:o.op=.load ty x) (g j:Nat) (hx:a.eval x=.pointer (some ⟨g,j,none⟩)) (t:TypeId) (all cs:Array Value) (fr:Nat × Nat) (d:TypeDesc) (hg:w.heap[g]?=some (.cells all t fr))
  (hu:Try.prog.underlying ty=some d) (hd:(match d with | .struct _ | .array _ _=>true | _=>false)=true) (hi:(Try.prog.info? ty).map (·.size)=some cs.size) (hp:(all.toList.drop j).take cs.size=cs.toList):(execOp a.eval o).run Try.prog w=.ok (.value (.agg cs)) w:=by
 unfold execOp
 simp only [ho,hx,Instr.loadAt,Instr.sureAddr,Sem.run_bind,Sem.run_pure,Result.andThen_ok,run_load_part w g j t ty all cs fr d hg hu hd hi hp]
theorem exec_store_part {o:Oper} {a:Act} {w:World} (ty:TypeId) (x y:Operand) (ho:o.op=.store ty x y) (g j:Nat) (cells:Array Value) (hx:a.eval x=.pointer (some ⟨g,j,none⟩)) (hy:a.eval y=.agg cells) (t:TypeId) (old new:Array Value) (hg:w.heap[g]?=some (.cells old t (0,0))) (hi:(Try.prog.info? ty).map (·.size)=some cells.size)
  (hold:j+cells.size≤old.size) (h1:cells.all (·.oneCell')=true) (hn:(old.toList.take j ++ cells.toList ++ old.toList.drop (j+cells.toList.length)).toArray=new):(execOp a.eval o).run Try.prog w=.ok .skip (w.setRow g new):=by
 unfold execOp
 simp only [ho,hx,hy,Instr.storeAt,Instr.sureAddr,Sem.run_bind,Sem.run_pure,Result.andThen_ok,run_store_part w g j t ty old cells new hg hi hold h1 hn]
theorem wpList_load_part {ops:Array Oper} {rest:List Oper} {o:Oper} {a:Act} {w:World} {Q:Exit→Act→World→Prop} (hgd:o.guard=none) (ty:TypeId) (x:Operand) (ho:o.op=.load ty x)
  (g j:Nat) (hx:a.eval x=.pointer (some ⟨g,j,none⟩)) (t:TypeId) (all cs:Array Value) (fr:Nat × Nat) (d:TypeDesc) (hg:w.heap[g]?=some (.cells all t fr))
  (hu:Try.prog.underlying ty=some d) (hd:(match d with | .struct _ | .array _ _=>true | _=>false)=true) (hi:(Try.prog.info? ty).map (·.size)=some cs.size) (hp:(all.toList.drop j).take cs.size=cs.toList)
  (h:wpList Try.prog ops Q rest (a.put o.dst (.agg cs)) w):wpList Try.prog ops Q (o :: rest) a w :=
 wpList_plain hgd fun _ hK=>by
  unfold Oper.wp
  rw [exec_load_part ty x ho g j hx t all cs fr d hg hu hd hi hp]
  exact hK _ _ h
theorem wpList_store_part {ops:Array Oper} {rest:List Oper} {o:Oper} {a:Act} {w:World} {Q:Exit→Act→World→Prop} (hgd:o.guard=none) (ty:TypeId) (x y:Operand) (ho:o.op=.store ty x y)
  (g j:Nat) (cells:Array Value) (hx:a.eval x=.pointer (some ⟨g,j,none⟩)) (hy:a.eval y=.agg cells) (t:TypeId) (old new:Array Value) (hg:w.heap[g]?=some (.cells old t (0,0))) (hi:(Try.prog.info? ty).map (·.size)=some cells.size)
  (hold:j+cells.size≤old.size) (h1:cells.all (·.oneCell')=true) (hn:(old.toList.take j ++ cells.toList ++ old.toList.drop (j+cells.toList.length)).toArray=new)
  (h:wpList Try.prog ops Q rest (a.put o.dst undef) (w.setRow g new)):wpList Try.prog ops Q (o :: rest) a w :=
 wpList_plain hgd fun _ hK=>by
  unfold Oper.wp
  rw [exec_store_part ty x y ho g j cells hx hy t old new hg hi hold h1 hn]
  exact hK _ _ h
theorem wpList_load_part_g {ops:Array Oper} {rest:List Oper} {o:Oper} {a:Act} {w:World} {Q:Exit→Act→World→Prop} (hgd:Region.wanted o (yielded ops a.tmps)=true) (ty:TypeId) (x:Operand) (ho:o.op=.load ty x)
  (g j:Nat) (hx:a.eval x=.pointer (some ⟨g,j,none⟩)) (t:TypeId) (all cs:Array Value) (fr:Nat × Nat) (d:TypeDesc) (hg:w.heap[g]?=some (.cells all t fr))
  (hu:Try.prog.underlying ty=some d) (hd:(match d with | .struct _ | .array _ _=>true | _=>false)=true) (hi:(Try.prog.info? ty).map (·.size)=some cs.size) (hp:(all.toList.drop j).take cs.size=cs.toList)
  (h:wpList Try.prog ops Q rest (a.put o.dst (.agg cs)) w):wpList Try.prog ops Q (o :: rest) a w :=
 wpList_step fun K hK=>by
  rw [if_pos hgd]
  unfold Oper.wp
  rw [exec_load_part ty x ho g j hx t all cs fr d hg hu hd hi hp]
  exact hK _ _ h
end Go.Proofs.Ytkgbhlcbjflnlaa.Fl
end
section
/- Commands and settings: contracts by hand, and the laws over them. -/
namespace Go.Proofs.Ytkgbhlcbjflnlaa.Fl
open Go Go.RowKit Go.Proofs.YtkgbhlcbjflnlaaW.PrintWords Go.Proofs.YtkgbhlcbjflnlaaW.PrintLast Go.Proofs.YtkgbhlcbjflnlaaW.PrintMore Go.Proofs.Ytkgbhlcbjflnlaa.Mth Go.Proofs.Ytkgbhlcbjflnlaa.P Go.Proofs.Ytkgbhlcbjflnlaa.Own Go.Proofs
set_option linter.unusedVariables false
set_option linter.unusedSimpArgs false
/-! ### Are all queues below -/
set_option maxHeartbeats 4000000 in
set_option maxRecDepth 100000 in
theorem ge_calls (x n:Int) (B:Nat) (W:World) (hc:W.cell? ⟨B,0,none⟩=some (.int .i64 n)) :
  Calls Try.prog 72 #[.int .i64 x,.pointer (some ⟨B,0,none⟩)] W fun e w'=>e=.returned (.bool (decide (x ≥ n)))∧∃ q,w'=W.drewN q:=by
 go_enter Try.func72,Try.ntmps72
 go_wp2
 go_ret
 exact ⟨rfl,0,rfl⟩
theorem ge_at (n:Int) (B:Nat) (w:World) (hB:B < w.heap.size) (hcell:w.cell? ⟨B,0,none⟩=some (.int .i64 n)) :
  Go.Proofs.PredAt Try.prog 72 #[.pointer (some ⟨B,0,none⟩)] (Value.int .i64) (fun x=>decide (x ≥ n)) w :=
 fun W x hb=>ge_calls x n B W ((hb.cell (p:=⟨B,0,none⟩) hB).trans hcell)
theorem eg72:∀ args w,(callFunc 72 args).run Try.prog w=.ok (.enter 72 args) w:=Go.Proofs.enters_of Try.func72 (by kernel_rfl) rfl
theorem any_calls (A:Option Addr) (c:Nat) (l:List Int) (n:Int) (B:Nat) (w:World) (hr:ReadsOf (Value.int .i64) 0 w A l.length l) (hb:l.length≤1000000) (hB:B < w.heap.size) (hcell:w.cell? ⟨B,0,none⟩=some (.int .i64 n)) :
  Calls Try.prog 71 #[.slice A l.length c,.func (.func 72) #[] #[.pointer (some ⟨B,0,none⟩)]] w fun e w'=>e=.returned (.bool (l.any (fun x=>decide (x ≥ n))))∧Below w.heap.size w w':=by
 rcases Nat.eq_zero_or_pos l.length with h0 | h0
 ·obtain rfl:=List.eq_nil_of_length_eq_zero h0
  refine (Try.slices_ContainsFunc_empty (α:=Int) A c _ w).mono ?_
  rintro e w' ⟨rfl,rfl⟩
  exact ⟨rfl,Below.refl _ _⟩
 ·obtain ⟨b,o,rfl,hc⟩:=reads_plain hr h0
  refine (Try.slices_ContainsFunc (Value.int .i64) (fun x=>decide (x ≥ n)) 72 #[.pointer (some ⟨B,0,none⟩)] eg72 b o l.length c l w (ge_at n B w hB hcell) (Nat.le_refl _) (by omega) (fun j hj=>by
   rw [hc j hj]
   simp [List.getD_eq_getElem?_getD,hj])).mono ?_
  rintro e w' ⟨rfl,q,rfl⟩
  rw [List.take_of_length_le (Nat.le_refl _)]
  exact ⟨rfl,pwd (Below.refl _ _) q⟩
def belowS (df n:Int) (tab:List Int):Bool:=decide (df < n) && !(tab.any (fun x=>decide (x ≥ n)))
set_option maxHeartbeats 8000000 in
set_option maxRecDepth 100000 in
theorem below_c (kn:Int) (A:Option Addr) (c:Nat) (tab:List Int) (key:ByteArray) (df n:Int) (w:World) (hr:ReadsOf (Value.int .i64) 0 w A tab.length tab) (hb:tab.length≤1000000) :
  Calls Try.prog 58 #[.agg #[.int .i64 kn,.slice A tab.length c,.string key,.int .i64 df],.int .i64 n] w fun e w'=>e=.returned (.bool (belowS df n tab))∧Below w.heap.size w w':=by
 unfold belowS
 have HR:=amk hr
 clear hr
 have hu27:=Try.underlying27
 cases ht:decide (df < n)
 ·go_enter Try.func58,Try.ntmps58
  go_wp2
  go_ret
  exact ⟨rfl,bwa (bwa (Below.refl _ _) _) _⟩
 ·go_enter Try.func58,Try.ntmps58
  go_wp2_with fail
  refine (any_calls A c tab n (w.heap.size+1) _ ((HR.out.below (bwa (Below.refl _ _) _)).below (bwa (Below.refl _ _) _)) hb (by simp) (by
   have h:=blk_new (w.alloc (.cells #[.int .i64 kn,.slice A tab.length c,.string key,.int .i64 df] 27)) (.cells #[.int .i64 n] 3)
   rw [show (w.alloc (.cells #[.int .i64 kn,.slice A tab.length c,.string key,.int .i64 df] 27)).heap.size=w.heap.size+1 by simp] at h
   exact (bkc h 0).trans rfl)).mono ?_
  rintro e w' ⟨rfl,hb2⟩
  go_wp2
  go_ret
  exact ⟨rfl,bws (bwa (bwa (Below.refl _ _) _) _) hb2⟩
end Go.Proofs.Ytkgbhlcbjflnlaa.Fl
end
