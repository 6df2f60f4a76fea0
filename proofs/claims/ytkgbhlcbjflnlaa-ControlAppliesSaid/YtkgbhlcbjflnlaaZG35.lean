/- Commands and settings: contracts by hand, and the laws over them. -/
import Derived.Test.YtkgbhlcbjflnlaaZG1
import Derived.Test.YtkgbhlcbjflnlaaZG27
import Derived.Test.YtkgbhlcbjflnlaaZPx7
import Derived.Test.YtkgbhlcbjflnlaaZPx8
import Derived.Test.YtkgbhlcbjflnlaaZG29
import Derived.Test.YtkgbhlcbjflnlaaZCm
import Derived.Deep.DeepCutAuto
import Derived.Deep.CutBlock
section
namespace Go.Proofs.Ytkgbhlcbjflnlaa.Fl
open Go Go.RowKit Go.Proofs.YtkgbhlcbjflnlaaW.PrintWords Go.Proofs.YtkgbhlcbjflnlaaW.PrintLast Go.Proofs.YtkgbhlcbjflnlaaW.PrintMore Go.Proofs.Ytkgbhlcbjflnlaa.Mth Go.Proofs.Ytkgbhlcbjflnlaa.P Go.Proofs.Ytkgbhlcbjflnlaa.Own Go.Proofs
set_option linter.unusedVariables false
set_option linter.unusedSimpArgs false
open Go.Proofs.Ytkgbhlcbjflnlaa.Wd
/-! ### The bytes of the greater commands -/
def macB (m:ByteArray):ByteArray:=mk (comB 1 1 (B m))
def intsOf (l:List Nat):List Int:=l.map fun (x:Nat)=>(x:Int)
theorem intsOf_len (l:List Nat):(intsOf l).length=l.length:=List.length_map _
end Go.Proofs.Ytkgbhlcbjflnlaa.Fl
end
section
/- Commands and settings: contracts by hand, and the laws over them. -/
namespace Go.Proofs.Ytkgbhlcbjflnlaa.Fl
open Go Go.RowKit Go.Proofs.YtkgbhlcbjflnlaaW.PrintWords Go.Proofs.YtkgbhlcbjflnlaaW.PrintLast Go.Proofs.YtkgbhlcbjflnlaaW.PrintMore Go.Proofs.Ytkgbhlcbjflnlaa.Mth Go.Proofs.Ytkgbhlcbjflnlaa.P Go.Proofs.Ytkgbhlcbjflnlaa.Own Go.Proofs
set_option linter.unusedVariables false
set_option linter.unusedSimpArgs false
theorem ins_le (n:Int):∀ vs:List Int,(insS n vs).length≤vs.length+1
 | []=>by simp [insS]
 | a :: r=>by
  unfold insS
  by_cases h1:a < n
  ·rw [if_pos h1,List.length_cons,List.length_cons];have:=ins_le n r;omega
  ·rw [if_neg h1]
   by_cases h2:a=n
   ·rw [if_pos h2,List.length_cons];omega
   ·rw [if_neg h2,List.length_cons,List.length_cons];omega
theorem del_le (n:Int) (vs:List Int):(delS n vs).length≤vs.length:=List.length_filter_le _ _
/-- A filter that may be given one more network, and has room. -/
def May (j:Nat) (F:Flt):Prop:=netsS F.vs=true∧F.us.length≤20∧F.ms.length≤20∧F.vs.length≤60+j
theorem May.small {j:Nat} {F:Flt} (h:May j F) (hj:j≤1000):Small F:=⟨by have:=h.2.1;omega,by have:=h.2.2.1;omega,by have:=h.2.2.2;omega⟩
/-! ### What the greater commands make of settings -/
theorem takeS_exact (m:List Nat) (hm:Bt m) (b:Bool) (n:Nat) (hn:n=m.length):takeS (mk m,b) n=(mk m,(mk [],b)):=by
 have q:=takeS_app m [] hm Bt.nil b n hn
 rwa [List.append_nil] at q
theorem does_mac (C:Cfg) (m:ByteArray) (h:m.size=6):doesS C (macB m,false)=({ C with F:={ C.F with m:=m } },true):=by
 unfold macB
 rw [doesS_com _ _ _ _ (B_bt _),show ((1 % 256:Nat):Int)=1 from rfl,onS_ne _ _ (by decide)]
 unfold swS
 rw [if_neg (by decide),if_pos rfl,if_neg (by decide),if_pos rfl,takeS_exact _ (B_bt _) _ 6 (by rw [B_length,h])]
 dsimp only
 rw [doneS_ok,mk_B]
theorem does_mac_no (C:Cfg) (m:ByteArray) (h:m.size ≠ 6):(doesS C (macB m,false)).2=false:=by
 unfold macB
 rw [doesS_com _ _ _ _ (B_bt _),show ((1 % 256:Nat):Int)=1 from rfl]
 unfold swS
 rw [if_neg (by decide),if_pos rfl,if_neg (by decide),if_pos rfl,mk_B]
 unfold doneS takeS
 dsimp only
 by_cases q:m.size < 6
 ·rw [if_pos q]
  simp
 ·rw [if_neg q]
  dsimp only
  cases z:(m.extract 6 m.size).toList.isEmpty
  ·simp
  ·have:=rest_nil z
   simp at this
   omega
theorem macsL_size:∀ (k:Nat) (r:RS),(macsL k r).2.2=false→r.2=false∧r.1.size=6 * k+(macsL k r).2.1.size
 | 0,r,h=>⟨h,by show r.1.size=6 * 0+r.1.size;omega⟩
 | k+1,r,h=>by
  unfold macsL at h ⊢
  by_cases hb:r.2=true
  ·rw [if_pos hb] at h;dsimp only at h;rw [hb] at h;cases h
  ·rw [if_neg hb] at h ⊢
   dsimp only at h ⊢
   obtain ⟨h1,h2⟩:=macsL_size k _ h
   obtain ⟨t,ht⟩:∃ t,(macsL k (takeS r 6).2).2.1.size=t:=⟨_,rfl⟩
   rw [ht] at h2 ⊢
   unfold takeS at h1 h2
   by_cases hs:r.1.size < 6
   ·rw [if_pos hs] at h1;cases h1
   ·rw [if_neg hs] at h1 h2
    dsimp only at h1 h2
    refine ⟨h1,?_⟩
    have e:(r.1.extract 6 r.1.size).size=r.1.size - 6:=by simp
    rw [e] at h2
    omega
theorem does_table_eq (C:Cfg) (l:List Nat) (hl:Bt l):doesS C (mk (comB 1 0 l),false)=doneS ({ C with F:={ C.F with us:=(macsS (mk l,false)).1,ms:=(macsS (macsS (mk l,false)).2).1 } },true,(macsS (macsS (mk l,false)).2).2):=by
 rw [doesS_com _ _ _ _ hl,show ((1 % 256:Nat):Int)=1 from rfl,show ((0 % 256:Nat):Int)=0 from rfl,onS_ne _ _ (by decide)]
 unfold swS
 rw [if_neg (by decide),if_pos rfl,if_pos rfl]
/-! ### Rules -/
theorem pairS_one (C:Cfg) (r:RS) (u:Ru) (p n:Int × RS) (t:ByteArray × RS) (hu:rulesS r=u) (hp:numS u.r 2=p) (hn:numS p.2 1=n) (ht:takeS n.2 n.1.toNat=t) :
  pairS C 1 r=({ C with kn:=u.kn,tab:=u.tab,df:=u.df,key:=t.1,on:=true,p:=p.1 },rssS u.kn u.tab t.1 u.df == 0 && belowS u.df C.mx u.tab,t.2):=by
 subst hu hp hn ht
 unfold pairS
 rw [if_neg (by decide),if_pos rfl]
end Go.Proofs.Ytkgbhlcbjflnlaa.Fl
end
section
/- Commands and settings: contracts by hand, and the laws over them. -/
namespace Go.Proofs.Ytkgbhlcbjflnlaa.Fl
open Go Go.RowKit Go.Proofs.YtkgbhlcbjflnlaaW.PrintWords Go.Proofs.YtkgbhlcbjflnlaaW.PrintLast Go.Proofs.YtkgbhlcbjflnlaaW.PrintMore Go.Proofs.Ytkgbhlcbjflnlaa.Mth Go.Proofs.Ytkgbhlcbjflnlaa.P Go.Proofs.Ytkgbhlcbjflnlaa.Own Go.Proofs
set_option linter.unusedVariables false
set_option linter.unusedSimpArgs false
/-! ### ControlRules, plainly -/
theorem below_alt (df mx:Int) (tab:List Int):belowS df mx tab=(decide (df < mx) && tab.all fun q=>decide (q < mx)):=by
 unfold belowS
 congr 1
 induction tab with
 | nil=>rfl
 | cons a r ih =>
  rw [List.any_cons,List.all_cons,Bool.not_or,ih]
  congr 1
  by_cases h:a < mx
  ·rw [decide_eq_true h,decide_eq_false (by omega)];rfl
  ·rw [decide_eq_false h,decide_eq_true (by omega)];rfl
theorem rss_len {kn:Int} {tab:List Int} {key:ByteArray} {df:Int} (h:rssS kn tab key df=0):1≤tab.length∧tab.length≤128:=by
 unfold rssS at h
 split at h
 ·rename_i q
  unfold headS at q
  simp only [Bool.and_eq_true,Bool.or_eq_true,beq_iff_eq] at q
  omega
 ·cases h
end Go.Proofs.Ytkgbhlcbjflnlaa.Fl
end
section
/- Commands and settings: contracts by hand, and the laws over them. -/
namespace Go.Proofs.Ytkgbhlcbjflnlaa.Fl
open Go Go.RowKit Go.Proofs.YtkgbhlcbjflnlaaW.PrintWords Go.Proofs.YtkgbhlcbjflnlaaW.PrintLast Go.Proofs.YtkgbhlcbjflnlaaW.PrintMore Go.Proofs.Ytkgbhlcbjflnlaa.Mth Go.Proofs.Ytkgbhlcbjflnlaa.P Go.Proofs.Ytkgbhlcbjflnlaa.Own Go.Proofs
set_option linter.unusedVariables false
set_option linter.unusedSimpArgs false
/-! ### ControlRules -/
theorem encs_snoc {α:Type} (enc:α→Value) (l:List α) (a:α):encs enc (l ++ [a])=encs enc l ++ [enc a]:=by simp [encs]
theorem info3:(Try.prog.info? 3).map (fun i=>(i.zero,i.size,i.bytes))=some (some (.int .i64 0),1,8):=by kernel_rfl
end Go.Proofs.Ytkgbhlcbjflnlaa.Fl
end
