/- Commands and settings: contracts by hand, and the laws over them. -/
import Derived.Test.YtkgbhlcbjflnlaaZG1
import Derived.Test.YtkgbhlcbjflnlaaZRap
section
namespace Go.Proofs.Ytkgbhlcbjflnlaa.Fl
open Go Go.RowKit Go.Proofs.YtkgbhlcbjflnlaaW.PrintWords Go.Proofs.YtkgbhlcbjflnlaaW.PrintLast Go.Proofs.YtkgbhlcbjflnlaaW.PrintMore Go.Proofs.Ytkgbhlcbjflnlaa.Mth Go.Proofs.Ytkgbhlcbjflnlaa.P Go.Proofs.Ytkgbhlcbjflnlaa.Own Go.Proofs
set_option linter.unusedVariables false
set_option linter.unusedSimpArgs false
/-! ### The document's Apply and the program's agree -/
def doesO (C:Cfg) (s:ByteArray):Option Cfg:=if (doesS C (s,false)).2=true then some (doesS C (s,false)).1 else none
theorem appS_ans (C:Cfg) (s:ByteArray):appS C s=ansS C (doesO C s):=by
 unfold appS doesO
 obtain ⟨⟨D,ok⟩,e⟩:∃ x,doesS C (s,false)=x:=⟨_,rfl⟩
 rw [e]
 cases ok
 ·rw [if_neg (by simp),if_neg (by simp)];rfl
 ·rw [if_pos rfl]
  by_cases h:chkF D.F=0
  ·rw [if_pos ⟨rfl,h⟩];exact (if_pos h).symm
  ·rw [if_neg (fun q=>h q.2)];exact (if_neg h).symm
theorem doesO_no {C:Cfg} {s:ByteArray} (h:(doesS C (s,false)).2=false):doesO C s=none:=by unfold doesO;rw [h];rfl
theorem doesO_eq {C D:Cfg} {s:ByteArray} {ok:Bool} (h:doesS C (s,false)=(D,ok)):doesO C s=if ok=true then some D else none:=by unfold doesO;rw [h]
theorem nat_mk {l:List Nat} (h:Bt l) (at' n:Nat):nat (mk l) at' n=le ((l.drop at').take n):=by unfold nat;rw [B_mk h]
theorem bt_mk {l:List Nat} (h:Bt l) (i:Nat):bt (mk l) (i:Int)=((l.getD i 0:Nat):Int):=by rw [bt_eq,B_mk h]
theorem extract_mk {l:List Nat} (h:Bt l) (i:Nat):(mk l).extract i (mk l).size=mk (l.drop i):=by
 apply B_inj
 rw [B_extract,B_mk h,B_mk (h.drop i),mk_size,List.take_length]
theorem le_one (x:Nat):le [x]=x:=by
 unfold le val
 simp
theorem numS_take (l:List Nat) (h:Bt l) (n:Nat) (hn:n≤l.length):numS (mk l,false) n=(((le (l.take n):Nat):Int),(mk (l.drop n),false)):=by
 have q:=numS_app (l.take n) (l.drop n) (h.take n) (h.drop n) false n (by rw [List.length_take];omega)
 rw [List.take_append_drop] at q
 exact q
theorem takeS_take (l:List Nat) (h:Bt l) (n:Nat) (hn:n≤l.length):takeS (mk l,false) n=(mk (l.take n),(mk (l.drop n),false)):=by
 have q:=takeS_app (l.take n) (l.drop n) (h.take n) (h.drop n) false n (by rw [List.length_take];omega)
 rw [List.take_append_drop] at q
 exact q
theorem numS_less (l:List Nat) (n:Nat) (h1:1≤n) (hn:l.length < n):(numS (mk l,false) n).2.2=true:=by rw [numS_short (mk l) false n h1 (by rw [mk_size];exact hn)]
theorem com_two' (c n:Nat) (l:List Nat) (hc:c < 256) (hn:n < 256):comB c n l=c :: n :: l:=by
 have h:∀ x,x < 256→lo 1 x=[x]:=fun x hx=>by
  have q:=lo_le (l:=[x]) (fun y hy=>by rw [List.mem_singleton.1 hy];exact hx)
  rw [le_one] at q
  exact q
 unfold comB
 rw [h c hc,h n hn]
 rfl
theorem two_bytes (s:ByteArray) (h:2≤s.size):∃ (a b:Nat) (l:List Nat),Bt l∧a < 256∧b < 256∧s=mk (comB a b l)∧bt s 0=(a:Int)∧bt s 1=(b:Int)∧s.extract 2 s.size=mk l:=by
 have hb:=B_bt s
 have hl:(B s).length=s.size:=B_length s
 match e:B s with
 | []=>rw [e] at hl;simp at hl;omega
 | [_]=>rw [e] at hl;simp at hl;omega
 | a :: b :: l =>
  rw [e] at hb
  have ha:a < 256:=hb a (by simp)
  have hb':b < 256:=hb b (by simp)
  have hl':Bt l:=fun x hx=>hb x (by simp [hx])
  have es:s=mk (a :: b :: l):=by rw [← e,mk_B]
  refine ⟨a,b,l,hl',ha,hb',by rw [com_two' a b l ha hb'];exact es,?_,?_,?_⟩
  ·have q:=bt_mk hb 0
   rw [← es] at q
   exact q
  ·have q:=bt_mk hb 1
   rw [← es] at q
   exact q
  ·have q:=extract_mk hb 2
   rw [← es] at q
   exact q
theorem rx_ok (F:Flt) (cmd:Nat) (x:Int):(rxS F cmd x).2=(decide (x≤1) && decide ((cmd:Int)≤5)):=by
 unfold rxS
 by_cases h:(cmd:Int)≤5
 ·rw [decide_eq_true h,Bool.and_true]
  split
  ·rfl
  ·split
   ·rfl
   ·split
    ·rfl
    ·split
     ·rfl
     ·split
      ·rfl
      ·split
       ·rfl
       ·omega
 ·rw [decide_eq_false h,Bool.and_false]
  rw [if_neg (by omega),if_neg (by omega),if_neg (by omega),if_neg (by omega),if_neg (by omega),if_neg (by omega)]
theorem agree0 (C:Cfg) (b:Nat) (l:List Nat) (hl:Bt l) (hb:b < 256):doesO C (mk (comB 0 b l))=outS C 0 b (mk l):=by
 unfold outS
 rw [if_pos rfl]
 by_cases h:l.length=1
 ·obtain ⟨x,rfl⟩:∃ x,l=[x]:=by
   match l,h with
   | [x],_=>exact ⟨x,rfl⟩
  have e:=doesS_com C 0 b [x] hl
  rw [show ((0 % 256:Nat):Int)=0 from rfl,Nat.mod_eq_of_lt hb,onS_ne _ _ (by decide)] at e
  unfold swS at e
  rw [if_pos rfl,numS_take [x] hl 1 (Nat.le_refl _)] at e
  rw [show [x].take 1=[x] from rfl,show [x].drop 1=([]:List Nat) from rfl,le_one,doneS_ok] at e
  rw [doesO_eq e,rx_ok]
  unfold rrxS
  dsimp only
  have e0:bt (mk [x]) 0=(x:Int):=bt_mk hl 0
  rw [e0,mk_size]
  by_cases h1:(x:Int)≤1∧(b:Int)≤5
  ·have hc:[x].length=1∧(x:Int)≤1∧(b:Int)≤5:=⟨rfl,h1.1,h1.2⟩
   simp only [if_pos hc,decide_eq_true h1.1,decide_eq_true h1.2]
   rfl
  ·have hc : ¬ ([x].length=1∧(x:Int)≤1∧(b:Int)≤5):=fun q=>h1 ⟨q.2.1,q.2.2⟩
   simp only [if_neg hc]
   have e2:(decide ((x:Int)≤1) && decide ((b:Int)≤5))=false:=by
    rw [Bool.and_eq_false_iff]
    by_cases h2:(x:Int)≤1
    ·exact .inr (decide_eq_false (fun q=>h1 ⟨h2,q⟩))
    ·exact .inl (decide_eq_false h2)
   rw [e2]
   rfl
 ·rw [doesO_no (does_len0 C b l hl h)]
  unfold rrxS
  have hc : ¬ ((mk l).size=1∧bt (mk l) 0≤1∧(b:Int)≤5):=fun q=>h (by have:=q.1;rw [mk_size] at this;exact this)
  simp only [if_neg hc]
  rfl
theorem agree2 (C:Cfg) (b:Nat) (l:List Nat) (hl:Bt l) (hb:b < 256):doesO C (mk (comB 2 b l))=outS C 2 b (mk l):=by
 unfold outS
 rw [if_neg (by decide),if_neg (by decide),if_pos rfl]
 by_cases h:l.length=2
 ·have e:=doesS_com C 2 b l hl
  rw [show ((2 % 256:Nat):Int)=2 from rfl,Nat.mod_eq_of_lt hb,onS_ne _ _ (by decide)] at e
  unfold swS at e
  rw [if_neg (by decide),if_neg (by decide),if_pos rfl,numS_take l hl 2 (by omega),List.take_of_length_le (by omega),List.drop_eq_nil_of_le (by omega),doneS_ok] at e
  rw [doesO_eq e,nat_mk hl,List.drop_zero,List.take_of_length_le (by omega)]
  obtain ⟨v,hv⟩:∃ v,le l=v:=⟨_,rfl⟩
  rw [hv]
  have hsz:(mk l).size=2:=by rw [mk_size,h]
  dsimp only
  cases ha:argS C.F.vs (v:Int)
  ·have hc : ¬ ((mk l).size=2∧(b:Int) < 2∧false=true):=fun q=>by cases q.2.2
   rw [if_neg hc]
   have e1:(netS C.F (b:Int) (v:Int)).2=false:=by
    unfold netS
    rw [ha]
    split
    ·rfl
    ·split
     ·rfl
     ·rfl
   rw [e1]
   rfl
  ·by_cases h0:b=0
   ·have e1:netS C.F (b:Int) (v:Int)=({ C.F with vs:=insS (v:Int) C.F.vs },true):=by
     unfold netS
     rw [if_pos (by omega),ha,if_pos rfl]
    have hc:(mk l).size=2∧(b:Int) < 2∧true=true:=⟨hsz,by omega,rfl⟩
    rw [e1,if_pos hc,if_pos (show (b:Int)=0 by omega)]
    rfl
   ·by_cases h1:b=1
    ·have e1:netS C.F (b:Int) (v:Int)=({ C.F with vs:=delS (v:Int) C.F.vs },true):=by
      unfold netS
      rw [if_neg (by omega),if_pos (by omega),ha,if_pos rfl]
     have hc:(mk l).size=2∧(b:Int) < 2∧true=true:=⟨hsz,by omega,rfl⟩
     rw [e1,if_pos hc,if_neg (show ¬ (b:Int)=0 by omega)]
     rfl
    ·have e1:netS C.F (b:Int) (v:Int)=(C.F,false):=by
      unfold netS
      rw [if_neg (by omega),if_neg (by omega)]
     have hc : ¬ ((mk l).size=2∧(b:Int) < 2∧true=true):=fun q=>by have:=q.2.1;omega
     rw [e1,if_neg hc]
     rfl
 ·rw [doesO_no (does_len2 C b l hl h),if_neg (fun q=>h (by have:=q.1;rw [mk_size] at this;exact this))]
/-! ### addresses -/
theorem chunks_eq (l:List Nat) (hl:Bt l):∀ n,6 * n≤l.length→macsL n (mk l,false)=(chunks (mk l) n,(mk (l.drop (6 * n)),false)):=by
 have key:∀ (n:Nat) (m:List Nat),Bt m→6 * n≤m.length→(macsL n (mk m,false)).2=(mk (m.drop (6 * n)),false)∧(macsL n (mk m,false)).1=(List.range n).map fun i=>mk ((m.drop (6 * i)).take 6):=by
  intro n
  induction n with
  | zero=>intro m hm _;exact ⟨rfl,rfl⟩
  | succ n ih =>
   intro m hm hn
   obtain ⟨i1,i2⟩:=ih (m.drop 6) (hm.drop 6) (by rw [List.length_drop];omega)
   unfold macsL
   rw [if_neg Bool.false_ne_true,takeS_take m hm 6 (by omega)]
   dsimp only
   refine ⟨?_,?_⟩
   ·rw [i1,List.drop_drop,show 6+6 * n=6 * (n+1) by omega]
   ·rw [i2,List.range_succ_eq_map,List.map_cons,List.map_map]
    congr 1
    apply List.map_congr_left
    intro i _
    show mk (((m.drop 6).drop (6 * i)).take 6)=mk ((m.drop (6 * (i+1))).take 6)
    rw [List.drop_drop,show 6+6 * i=6 * (i+1) by omega]
 intro n hn
 obtain ⟨h1,h2⟩:=key n l hl hn
 refine Prod.ext ?_ h1
 rw [h2]
 clear h1 h2 hn key
 induction n with
 | zero=>rfl
 | succ n ih =>
  rw [List.range_succ,List.map_append,ih]
  show _=chunks (mk l) n ++ [(mk l).extract (6 * n) (6 * n+6)]
  congr 1
  rw [List.map_cons,List.map_nil]
  congr 1
  apply B_inj
  rw [B_extract,B_mk hl,B_mk ((hl.drop _).take _)]
  rw [List.drop_take]
  congr 1
  omega
theorem macs_ref (l:List Nat) (hl:Bt l):((macsS (mk l,false)).2.2=true∧((rmacsS (mk l)).2.2=false∨16 < (rmacsS (mk l)).1.length)) ∨
  ∃ us rest,macsS (mk l,false)=(us,(mk rest,false))∧rmacsS (mk l)=(us,mk rest,true)∧Bt rest:=by
 by_cases h4:l.length < 4
 ·refine .inl ⟨?_,.inl ?_⟩
  ·unfold macsS
   exact bad_macsL _ _ (by dsimp only;rw [numS_less l 4 (by decide) h4];rfl)
  ·unfold rmacsS
   rw [if_pos (.inl (by rw [mk_size];exact h4))]
 ·have hn:=numS_take l hl 4 (by omega)
  obtain ⟨n,en⟩:∃ n,le (l.take 4)=n:=⟨_,rfl⟩
  rw [en] at hn
  have e0:nat (mk l) 0 4=n:=by rw [nat_mk hl,List.drop_zero,en]
  have hd:(l.drop 4).length=l.length - 4:=List.length_drop
  unfold macsS
  rw [hn]
  dsimp only
  rw [Int.toNat_natCast,Bool.false_or]
  by_cases h16:16 < n
  ·refine .inl ⟨?_,?_⟩
   ·rw [decide_eq_true (by omega)]
    exact bad_macsL _ _ rfl
   ·unfold rmacsS
    rw [e0,mk_size]
    split
    ·exact .inl rfl
    ·refine .inr ?_
     rw [chunks_length]
     exact h16
  ·rw [decide_eq_false (by omega)]
   by_cases h6:6 * n≤l.length - 4
   ·refine .inr ⟨_,_,chunks_eq (l.drop 4) (hl.drop 4) n (by omega),?_,((hl.drop 4).drop _)⟩
    unfold rmacsS
    rw [e0,mk_size,if_neg (by rintro (q | q) <;> omega)]
    have ex:(mk l).extract 4 l.length=mk (l.drop 4):=by have q:=extract_mk hl 4;rwa [mk_size] at q
    rw [ex]
    have ey:(mk (l.drop 4)).extract (6 * n) (l.length - 4)=mk ((l.drop 4).drop (6 * n)):=by have q:=extract_mk (hl.drop 4) (6 * n);rwa [mk_size,hd] at q
    rw [ey]
   ·refine .inl ⟨?_,.inl ?_⟩
    ·cases q:(macsL n (mk (l.drop 4),false)).2.2
     ·have:=(macsL_size n _ q).2
      dsimp only at this
      rw [mk_size,hd] at this
      omega
     ·rfl
    ·unfold rmacsS
     rw [e0,mk_size,if_pos (.inr (by omega))]
theorem nil_mk (l:List Nat):(mk l).toList.isEmpty=l.isEmpty:=by
 cases l with
 | nil=>rw [toList_eq];rfl
 | cons a r=>rw [toList_eq];rfl
end Go.Proofs.Ytkgbhlcbjflnlaa.Fl
end
section
/- Commands and settings: contracts by hand, and the laws over them. -/
namespace Go.Proofs.Ytkgbhlcbjflnlaa.Fl
open Go Go.RowKit Go.Proofs.YtkgbhlcbjflnlaaW.PrintWords Go.Proofs.YtkgbhlcbjflnlaaW.PrintLast Go.Proofs.YtkgbhlcbjflnlaaW.PrintMore Go.Proofs.Ytkgbhlcbjflnlaa.Mth Go.Proofs.Ytkgbhlcbjflnlaa.P Go.Proofs.Ytkgbhlcbjflnlaa.Own Go.Proofs
set_option linter.unusedVariables false
set_option linter.unusedSimpArgs false
theorem ans_many (C D:Cfg) (h:16 < D.F.us.length∨16 < D.F.ms.length):ansS C (some D)=(C,1):=by
 show (if chkF D.F=0 then (D,(0:Int)) else (C,1))=(C,1)
 rw [if_neg]
 intro q
 have:=chk_lens q
 omega
theorem agree1 (C:Cfg) (b:Nat) (l:List Nat) (hl:Bt l) (hb:b < 256):ansS C (doesO C (mk (comB 1 b l)))=ansS C (outS C 1 b (mk l)):=by
 have eo:outS C 1 b (mk l)=if (rmacS C.F b (mk l)).2=true then some { C with F:=(rmacS C.F b (mk l)).1 } else none:=by
  unfold outS
  rw [if_neg (by decide),if_pos rfl]
 rw [eo]
 by_cases h1:b=1
 ·subst h1
  have em:mk (comB 1 1 l)=macB (mk l):=by unfold macB;rw [B_mk hl]
  have er:rmacS C.F ((1:Nat):Int) (mk l)=({ C.F with m:=mk l },decide ((mk l).size=6)):=by unfold rmacS;rw [if_pos (show ((1:Nat):Int)=1 from rfl)]
  rw [em,er]
  by_cases h6:(mk l).size=6
  ·rw [doesO_eq (does_mac C _ h6),decide_eq_true h6]
  ·rw [doesO_no (does_mac_no C _ h6),decide_eq_false h6]
   rfl
 ·by_cases h0:b=0
  ·subst h0
   have er:rmacS C.F ((0:Nat):Int) (mk l)=({ C.F with us:=(rmacsS (mk l)).1,ms:=(rmacsS (rmacsS (mk l)).2.1).1 },(rmacsS (mk l)).2.2 && (rmacsS (rmacsS (mk l)).2.1).2.2 && (rmacsS (rmacsS (mk l)).2.1).2.1.toList.isEmpty):=by
    unfold rmacS
    rw [if_neg (by decide)]
    simp
   have ed:=does_table_eq C l hl
   rw [er]
   rcases macs_ref l hl with ⟨hb1,hr⟩ | ⟨us,r1,e1,e2,hr1⟩
   ·have q:=bad_macs _ hb1
    have hno:(doesS C (mk (comB 1 0 l),false)).2=false:=by rw [ed];unfold doneS;dsimp only;rw [q];simp
    rw [doesO_no hno]
    dsimp only
    rcases hr with hr | hr
    ·rw [hr,Bool.false_and,Bool.false_and]
     rfl
    ·cases (rmacsS (mk l)).2.2 && (rmacsS (rmacsS (mk l)).2.1).2.2 && (rmacsS (rmacsS (mk l)).2.1).2.1.toList.isEmpty
     ·rfl
     ·rw [if_pos rfl,ans_many C _ (.inl hr)]
      rfl
   ·rw [e2]
    rw [e1] at ed
    dsimp only at ed ⊢
    rcases macs_ref r1 hr1 with ⟨hb2,hr⟩ | ⟨ms,r2,e3,e4,hr2⟩
    ·have hno:(doesS C (mk (comB 1 0 l),false)).2=false:=by rw [ed];unfold doneS;dsimp only;rw [hb2];simp
     rw [doesO_no hno]
     rcases hr with hr | hr
     ·rw [hr,Bool.and_false,Bool.false_and]
      rfl
     ·cases true && (rmacsS (mk r1)).2.2 && (rmacsS (mk r1)).2.1.toList.isEmpty
      ·rfl
      ·rw [if_pos rfl,ans_many C _ (.inr hr)]
       rfl
    ·rw [e4]
     rw [e3] at ed
     dsimp only at ed ⊢
     have e5:doesS C (mk (comB 1 0 l),false)=({ C with F:={ C.F with us:=us,ms:=ms } },r2.isEmpty):=by
      rw [ed]
      unfold doneS
      dsimp only
      rw [nil_mk]
      simp
     rw [doesO_eq e5,nil_mk]
     cases r2.isEmpty <;> rfl
  ·have er:(rmacS C.F (b:Int) (mk l)).2=false:=by
    unfold rmacS
    rw [if_neg (by omega)]
    have:((b:Int) == 0)=false:=beq_eq_false_iff_ne.2 (by omega)
    dsimp only
    rw [this]
    simp
   have ed:(doesS C (mk (comB 1 b l),false)).2=false:=by
    rw [doesS_com _ _ _ _ hl,show ((1 % 256:Nat):Int)=1 from rfl,Nat.mod_eq_of_lt hb]
    unfold swS
    rw [if_neg (by decide),if_pos rfl,if_neg (by omega),if_neg (by omega)]
    unfold doneS
    simp
   rw [doesO_no ed,er]
   rfl
/-! ### rules -/
theorem tabL_eq:∀ (n:Nat) (m:List Nat),Bt m→2 * n≤m.length→tabL n (mk m,false)=((List.range n).map (fun i=>((le ((m.drop (2 * i)).take 2):Nat):Int)),(mk (m.drop (2 * n)),false))
 | 0,m,hm,_=>rfl
 | n+1,m,hm,hn=>by
  unfold tabL
  rw [if_neg Bool.false_ne_true,numS_take m hm 2 (by omega)]
  dsimp only
  rw [tabL_eq n (m.drop 2) (hm.drop 2) (by rw [List.length_drop];omega)]
  refine Prod.ext ?_ ?_
  ·show _ :: _=_
   rw [List.range_succ_eq_map,List.map_cons,List.map_map]
   congr 1
   apply List.map_congr_left
   intro i _
   show ((le (((m.drop 2).drop (2 * i)).take 2):Nat):Int)=((le ((m.drop (2 * (i+1))).take 2):Nat):Int)
   rw [List.drop_drop,show 2+2 * i=2 * (i+1) by omega]
  ·show (mk ((m.drop 2).drop (2 * n)),false)=(mk (m.drop (2 * (n+1))),false)
   rw [List.drop_drop,show 2+2 * n=2 * (n+1) by omega]
theorem tabL_less:∀ (n:Nat) (r:RS),(tabL n r).2.2=false→r.2=false∧r.1.size=2 * n+(tabL n r).2.1.size
 | 0,r,h=>⟨h,by show r.1.size=2 * 0+r.1.size;omega⟩
 | n+1,r,h=>by
  unfold tabL at h ⊢
  by_cases hb:r.2=true
  ·rw [if_pos hb] at h;dsimp only at h;rw [hb] at h;cases h
  ·rw [if_neg hb] at h ⊢
   dsimp only at h ⊢
   obtain ⟨h1,h2⟩:=tabL_less n _ h
   obtain ⟨q1,q2,-⟩:=numS_size r 2 (by decide) h1
   exact ⟨q1,by omega⟩
theorem ints_at (m:List Nat) (hm:Bt m) (n:Nat):intsOf (numsAt (mk m) n)=(List.range n).map fun i=>((le ((m.drop (2 * i)).take 2):Nat):Int):=by
 unfold intsOf numsAt
 rw [List.map_map]
 apply List.map_congr_left
 intro i _
 show ((nat (mk m) (2 * i) 2:Nat):Int)=_
 rw [nat_mk hm]
theorem rpS_none {C:Cfg} {cmd:Int} {s:ByteArray} (h0:cmd ≠ 0) (h:badR C cmd (rrS s)=true):rpS C cmd s=none:=by
 unfold rpS
 rw [if_neg h0,if_neg (fun q=>by rw [h] at q;cases q.1)]
theorem badR_ok {C:Cfg} {cmd:Int} {R:RR} (h:R.ok=false):badR C cmd R=true:=by unfold badR;rw [h];simp
theorem badR_rss {C:Cfg} {cmd:Int} {R:RR} (h:rssS R.kn (intsOf R.tab) R.key R.df ≠ 0):badR C cmd R=true:=by unfold badR;simp [h]
end Go.Proofs.Ytkgbhlcbjflnlaa.Fl
end
