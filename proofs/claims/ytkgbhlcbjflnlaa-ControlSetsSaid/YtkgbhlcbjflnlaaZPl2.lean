/- Commands and settings: contracts by hand, and the laws over them. -/
import Derived.Test.YtkgbhlcbjflnlaaZOwn
import Derived.Test.YtkgbhlcbjflnlaaZPl
import Derived.Test.YtkgbhlcbjflnlaaZLow2
import Derived.Test.YtkgbhlcbjflnlaaZFSl
namespace Go.Proofs.Ytkgbhlcbjflnlaa.Fl
open Go Go.RowKit Go.Proofs.YtkgbhlcbjflnlaaW.PrintWords Go.Proofs.YtkgbhlcbjflnlaaW.PrintLast Go.Proofs.YtkgbhlcbjflnlaaW.PrintMore Go.Proofs.Ytkgbhlcbjflnlaa.Mth Go.Proofs.Ytkgbhlcbjflnlaa.P Go.Proofs.Ytkgbhlcbjflnlaa.Own Go.Proofs
set_option linter.unusedVariables false
set_option linter.unusedSimpArgs false
theorem argS_iff {vs:List Int} {n:Int}:argS vs n=true ↔ (0≤n∧n≤4094)∧netsS vs=true:=by
 unfold argS
 simp only [Bool.and_eq_true,decide_eq_true_eq]
theorem nets_ins {vs:List Int} {n:Int} (h:netsS vs=true) (h0:0≤n) (h1:n≤4094):netsS (insS n vs)=true:=by
 have q:=nets_iff.1 h
 refine nets_iff.2 ⟨ins_rise q.1,fun x hx=>?_⟩
 rcases ins_mem.1 hx with rfl | hx
 ·exact ⟨h0,h1⟩
 ·exact q.2 x hx
theorem nets_del {vs:List Int} {n:Int} (h:netsS vs=true):netsS (delS n vs)=true:=by
 have q:=nets_iff.1 h
 refine nets_iff.2 ⟨List.Pairwise.filter _ q.1,fun x hx=>q.2 x (del_mem.1 hx).1⟩
theorem ins_le (n:Int):∀ vs:List Int,(insS n vs).length≤vs.length+1
 | []=>by simp [insS]
 | a :: r=>by
  unfold insS
  by_cases h1:a < n
  ·rw [if_pos h1,List.length_cons,List.length_cons];have:=ins_le n r;omega
  ·rw [if_neg h1]
   by_cases h2:a=n
   ·rw [if_pos h2,List.length_cons];omega
   ·rw [if_neg h2,List.length_cons,List.length_cons];omega
theorem del_le (n:Int) (vs:List Int):(delS n vs).length≤vs.length:=List.length_filter_le _ _
theorem ins_ins {vs:List Int} {n:Int} (h:netsS vs=true):insS n (insS n vs)=insS n vs:=by
 have q:=nets_iff.1 h
 refine sorted_ext (ins_rise (ins_rise q.1)) (ins_rise q.1) fun x=>?_
 rw [ins_mem,ins_mem]
 constructor
 ·rintro (h | h | h)
  ·exact .inl h
  ·exact .inl h
  ·exact .inr h
 ·exact .inr
theorem del_del (n:Int) (vs:List Int):delS n (delS n vs)=delS n vs:=by
 unfold delS
 rw [List.filter_filter]
 congr 1
 funext a
 exact Bool.and_self _
/-- A filter that may be given one more network, and has room. -/
def May (j:Nat) (F:Flt):Prop:=netsS F.vs=true∧F.us.length≤20∧F.ms.length≤20∧F.vs.length≤60+j
theorem May.small {j:Nat} {F:Flt} (h:May j F) (hj:j≤1000):Small F:=⟨by have:=h.2.1;omega,by have:=h.2.2.1;omega,by have:=h.2.2.2;omega⟩
/-! ### What the greater commands make of settings -/
theorem takeS_exact (m:List Nat) (hm:Bt m) (b:Bool) (n:Nat) (hn:n=m.length):takeS (mk m,b) n=(mk m,(mk [],b)):=by
 have q:=takeS_app m [] hm Bt.nil b n hn
 rwa [List.append_nil] at q
theorem does_mac (C:Cfg) (m:ByteArray) (h:m.size=6):doesS C (macB m,false)=({ C with F:={ C.F with m:=m } },true):=by
 unfold macB
 rw [doesS_com _ _ _ _ (B_bt _),show ((1 % 256:Nat):Int)=1 from rfl,onS_ne _ _ (by decide)]
 unfold swS
 rw [if_neg (by decide),if_pos rfl,if_neg (by decide),if_pos rfl,takeS_exact _ (B_bt _) _ 6 (by rw [B_length,h])]
 dsimp only
 rw [doneS_ok,mk_B]
theorem does_mac_no (C:Cfg) (m:ByteArray) (h:m.size ≠ 6):(doesS C (macB m,false)).2=false:=by
 unfold macB
 rw [doesS_com _ _ _ _ (B_bt _),show ((1 % 256:Nat):Int)=1 from rfl]
 unfold swS
 rw [if_neg (by decide),if_pos rfl,if_neg (by decide),if_pos rfl,mk_B]
 unfold doneS takeS
 dsimp only
 by_cases q:m.size < 6
 ·rw [if_pos q]
  simp
 ·rw [if_neg q]
  dsimp only
  cases z:(m.extract 6 m.size).toList.isEmpty
  ·simp
  ·have:=rest_nil z
   simp at this
   omega
theorem macsL_size:∀ (k:Nat) (r:RS),(macsL k r).2.2=false→r.2=false∧r.1.size=6 * k+(macsL k r).2.1.size
 | 0,r,h=>⟨h,by show r.1.size=6 * 0+r.1.size;omega⟩
 | k+1,r,h=>by
  unfold macsL at h ⊢
  by_cases hb:r.2=true
  ·rw [if_pos hb] at h;dsimp only at h;rw [hb] at h;cases h
  ·rw [if_neg hb] at h ⊢
   dsimp only at h ⊢
   obtain ⟨h1,h2⟩:=macsL_size k _ h
   obtain ⟨t,ht⟩:∃ t,(macsL k (takeS r 6).2).2.1.size=t:=⟨_,rfl⟩
   rw [ht] at h2 ⊢
   unfold takeS at h1 h2
   by_cases hs:r.1.size < 6
   ·rw [if_pos hs] at h1;cases h1
   ·rw [if_neg hs] at h1 h2
    dsimp only at h1 h2
    refine ⟨h1,?_⟩
    have e:(r.1.extract 6 r.1.size).size=r.1.size - 6:=by simp
    rw [e] at h2
    omega
theorem macs_size (r:RS) (h:(macsS r).2.2=false):r.2=false∧4≤r.1.size∧r.1.size≤4+96+(macsS r).2.1.size∧(numS r 4).1≤16∧(numS r 4).2.2=false:=by
 unfold macsS at h ⊢
 obtain ⟨h1,h2⟩:=macsL_size _ _ h
 dsimp only at h1 h2
 simp only [Bool.or_eq_false_iff,decide_eq_false_iff_not] at h1
 obtain ⟨q1,q2,q3⟩:=numS_size r 4 (by decide) h1.1
 have hr:=num_range r 4 (by decide)
 exact ⟨q1,by omega,by omega,by omega,h1.1⟩
theorem does_table_eq (C:Cfg) (l:List Nat) (hl:Bt l):doesS C (mk (comB 1 0 l),false)=doneS ({ C with F:={ C.F with us:=(macsS (mk l,false)).1,ms:=(macsS (macsS (mk l,false)).2).1 } },true,(macsS (macsS (mk l,false)).2).2):=by
 rw [doesS_com _ _ _ _ hl,show ((1 % 256:Nat):Int)=1 from rfl,show ((0 % 256:Nat):Int)=0 from rfl,onS_ne _ _ (by decide)]
 unfold swS
 rw [if_neg (by decide),if_pos rfl,if_pos rfl]
theorem macsL_six:∀ (us:List ByteArray) (m:List Nat),(∀ u∈us,u.size=6)→Bt m→macsL us.length (mk (B (cat us) ++ m),false)=(us,(mk m,false))
 | [],m,h,hm=>rfl
 | u :: r,m,h,hm=>by
  have e:B (cat (u :: r))=B u ++ B (cat r):=by rw [B_cat,B_cat];rfl
  rw [List.length_cons,macsL,if_neg Bool.false_ne_true,e,List.append_assoc,takeS_app _ _ (B_bt u) ((B_bt _).append hm) false 6 (by rw [B_length,h u (by simp)])]
  dsimp only
  rw [macsL_six r m (fun x hx=>h x (by simp [hx])) hm,mk_B]
theorem cat_six:∀ (us:List ByteArray),(∀ u∈us,u.size=6)→(B (cat us)).length=6 * us.length
 | [],_=>rfl
 | u :: r,h=>by
  have e:B (cat (u :: r))=B u ++ B (cat r):=by rw [B_cat,B_cat];rfl
  rw [e,List.length_append,cat_six r (fun x hx=>h x (by simp [hx])),B_length,h u (by simp),List.length_cons]
  omega
theorem macsS_six (us:List ByteArray) (m:List Nat) (h:∀ u∈us,u.size=6) (hm:Bt m) (hl:us.length≤16):macsS (mk (lo 4 us.length ++ (B (cat us) ++ m)),false)=(us,(mk m,false)):=by
 unfold macsS
 rw [numS_lo 4 us.length _ ((B_bt _).append hm)]
 dsimp only
 have e:us.length % 256 ^ 4=us.length:=Nat.mod_eq_of_lt (by rw [show (256:Nat) ^ 4=4294967296 by decide];omega)
 rw [e,Int.toNat_natCast,decide_eq_false (by omega),Bool.or_false,macsL_six us m h hm]
theorem macsS_many (us:List ByteArray) (m:List Nat) (hm:Bt m) (hl:16 < us.length) (hl2:us.length < 4294967296):(macsS (mk (lo 4 us.length ++ (B (cat us) ++ m)),false)).2.2=true:=by
 unfold macsS
 rw [numS_lo 4 us.length _ ((B_bt _).append hm)]
 dsimp only
 have e:us.length % 256 ^ 4=us.length:=Nat.mod_eq_of_lt (by rw [show (256:Nat) ^ 4=4294967296 by decide];omega)
 rw [e,decide_eq_true (by omega),Bool.or_true]
 exact bad_macsL _ _ rfl
theorem tableL_bt (us ms:List ByteArray):Bt (lo 4 us.length ++ (B (cat us) ++ (lo 4 ms.length ++ B (cat ms)))):=(lo_bt _ _).append ((B_bt _).append ((lo_bt _ _).append (B_bt _)))
theorem does_table (C:Cfg) (us ms:List ByteArray) (hu:∀ u∈us,u.size=6) (hm:∀ u∈ms,u.size=6) (lu:us.length≤16) (lm:ms.length≤16) :
  doesS C (tableB us ms,false)=({ C with F:={ C.F with us:=us,ms:=ms } },true):=by
 unfold tableB
 rw [does_table_eq _ _ (tableL_bt us ms),macsS_six us _ hu ((lo_bt _ _).append (B_bt _)) lu]
 have q:=macsS_six ms [] hm Bt.nil lm
 rw [List.append_nil] at q
 dsimp only
 rw [q]
 exact doneS_ok _ _
theorem does_table_no (C:Cfg) (us ms:List ByteArray) (hu:∀ u∈us,u.size=6) (hm:∀ u∈ms,u.size=6) (h:16 < us.length∨16 < ms.length):(doesS C (tableB us ms,false)).2=false:=by
 cases q:(doesS C (tableB us ms,false)).2
 ·rfl
 ·exfalso
  unfold tableB at q
  rw [does_table_eq _ _ (tableL_bt us ms)] at q
  unfold doneS at q
  simp only [Bool.and_eq_true,Bool.not_eq_true',Bool.true_and] at q
  obtain ⟨q1,q2⟩:=q
  obtain ⟨b1,b2,b3,-,-⟩:=macs_size _ q1
  obtain ⟨c1,c2,c3,-,-⟩:=macs_size _ b1
  have hz:=rest_nil q2
  dsimp only at c3
  rw [mk_size,List.length_append,List.length_append,List.length_append,lo_length,lo_length,cat_six us hu,cat_six ms hm] at c3
  by_cases hh:16 < us.length
  ·rw [macsS_many us _ ((lo_bt _ _).append (B_bt _)) hh (by omega)] at b1
   cases b1
  ·rw [macsS_six us _ hu ((lo_bt _ _).append (B_bt _)) (by omega)] at q1
   have e:=macsS_many ms [] Bt.nil (by omega) (by omega)
   rw [List.append_nil] at e
   dsimp only at q1
   rw [e] at q1
   cases q1
/-! ### Rules -/
end Go.Proofs.Ytkgbhlcbjflnlaa.Fl
