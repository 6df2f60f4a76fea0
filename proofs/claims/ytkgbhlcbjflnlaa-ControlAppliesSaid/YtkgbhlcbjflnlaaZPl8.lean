/- Commands and settings: contracts by hand, and the laws over them. -/
import Derived.Test.YtkgbhlcbjflnlaaZG1
import Derived.Test.YtkgbhlcbjflnlaaZG49
namespace Go.Proofs.Ytkgbhlcbjflnlaa.Fl
open Go Go.RowKit Go.Proofs.YtkgbhlcbjflnlaaW.PrintWords Go.Proofs.YtkgbhlcbjflnlaaW.PrintLast Go.Proofs.YtkgbhlcbjflnlaaW.PrintMore Go.Proofs.Ytkgbhlcbjflnlaa.Mth Go.Proofs.Ytkgbhlcbjflnlaa.P Go.Proofs.Ytkgbhlcbjflnlaa.Own Go.Proofs
set_option linter.unusedVariables false
set_option linter.unusedSimpArgs false
theorem swS4 (C:Cfg) (cmd:Int) (r:RS):swS C 4 cmd r=((pairS C cmd r).1,(pairS C cmd r).2.1 && decide ((pairS C cmd r).1.p ≥ 1) && decide ((pairS C cmd r).1.p≤(pairS C cmd r).1.mx),(pairS C cmd r).2.2):=by
 unfold swS
 rw [if_neg (by decide),if_neg (by decide),if_neg (by decide),if_pos rfl]
theorem does4 (C:Cfg) (b:Nat) (l:List Nat) (hl:Bt l) (hb:b < 256):doesS C (mk (comB 4 b l),false)=doneS (swS { C with on:=false } 4 b (mk l,false)):=by
 rw [doesS_com _ _ _ _ hl,show ((4 % 256:Nat):Int)=4 from rfl,Nat.mod_eq_of_lt hb,onS_four]
theorem does41 (C:Cfg) (l:List Nat) (hl:Bt l):doesS C (mk (comB 4 1 l),false)=doneS (swS { C with on:=false } 4 1 (mk l,false)):=does4 C 1 l hl (by decide)
theorem rules_less (l:List Nat) (h:(rulesS (mk l,false)).r.2=false):8≤l.length:=by
 unfold rulesS rulesT at h
 dsimp only at h
 have q:=(tabL_less _ _ h).1
 dsimp only at q
 rw [Bool.or_eq_false_iff] at q
 obtain ⟨a1,a2,-⟩:=numS_size _ 2 (by decide) q.1
 obtain ⟨b1,b2,-⟩:=numS_size _ 2 (by decide) a1
 obtain ⟨c1,c2,-⟩:=numS_size _ 4 (by decide) b1
 dsimp only at c2
 rw [mk_size] at c2
 omega
theorem rules_view (l:List Nat) (hl:Bt l) (h8:8≤l.length):rulesS (mk l,false)=rulesT ((le (l.take 4):Nat):Int) ((le ((l.drop 4).take 2):Nat):Int) (((le ((l.drop 6).take 2):Nat):Int),(mk (l.drop 8),false)):=by
 have q1:=numS_take l hl 4 (by omega)
 have q2:=numS_take (l.drop 4) (hl.drop 4) 2 (by rw [List.length_drop];omega)
 have q3:=numS_take (l.drop 6) (hl.drop 6) 2 (by rw [List.length_drop];omega)
 rw [List.drop_drop] at q2 q3
 unfold rulesS
 rw [q1]
 dsimp only
 rw [q2]
 dsimp only
 rw [show 4+2=6 from rfl,q3]
theorem does4_bad (C:Cfg) (l:List Nat) (hl:Bt l) (h:(rulesS (mk l,false)).r.2=true):doesO C (mk (comB 4 1 l))=none:=by
 refine doesO_no ?_
 rw [does41 C l hl,swS4]
 obtain ⟨u,hu⟩:∃ u,rulesS (mk l,false)=u:=⟨_,rfl⟩
 obtain ⟨p,hp⟩:∃ p,numS u.r 2=p:=⟨_,rfl⟩
 obtain ⟨n,hn⟩:∃ n,numS p.2 1=n:=⟨_,rfl⟩
 obtain ⟨t,ht⟩:∃ t,takeS n.2 n.1.toNat=t:=⟨_,rfl⟩
 rw [hu] at h
 have q:t.2.2=true:=by
  rw [← ht]
  refine bad_take _ _ ?_
  rw [← hn]
  refine bad_num _ 1 ?_
  rw [← hp]
  exact bad_num _ 2 h
 rw [pairS_one _ _ u p n t hu hp hn ht]
 unfold doneS
 dsimp only
 rw [q]
 simp
theorem rr_ok_size (l:List Nat) (h:(rrS (mk l)).ok=true):8≤l.length:=by
 unfold rrS at h
 rw [mk_size] at h
 by_cases q:l.length < 8
 ·rw [if_pos q] at h;cases h
 ·omega
theorem agree4 (C:Cfg) (b:Nat) (l:List Nat) (hl:Bt l) (hb:b < 256):doesO C (mk (comB 4 b l))=outS C 4 b (mk l):=by
 have eo:outS C 4 b (mk l)=rpS C b (mk l):=by
  unfold outS
  rw [if_neg (by decide),if_neg (by decide),if_neg (by decide),if_pos rfl]
 rw [eo]
 by_cases h0:b=0
 ·subst h0
  by_cases h2:l.length=2
  ·have e:doesS C (mk (comB 4 0 l),false)=({ C with p:=((le l:Nat):Int),on:=false },decide (((le l:Nat):Int) ≥ 1) && decide (((le l:Nat):Int)≤C.mx)):=by
    rw [does4 C 0 l hl (by decide),swS4]
    unfold pairS
    rw [if_pos (show ((0:Nat):Int)=0 from rfl),numS_take l hl 2 (by omega),List.take_of_length_le (by omega),List.drop_eq_nil_of_le (by omega)]
    dsimp only
    rw [doneS_ok,Bool.true_and]
   rw [doesO_eq e]
   unfold rpS
   rw [if_pos (show ((0:Nat):Int)=0 from rfl),mk_size,nat_mk hl,List.drop_zero,List.take_of_length_le (by omega)]
   obtain ⟨v,hv⟩:∃ v,le l=v:=⟨_,rfl⟩
   rw [hv]
   by_cases hc:1≤v∧(v:Int)≤C.mx
   ·rw [if_pos (show l.length=2∧1≤v∧(v:Int)≤C.mx from ⟨h2,hc⟩),decide_eq_true (show (v:Int) ≥ 1 by omega),decide_eq_true hc.2]
    rfl
   ·rw [if_neg (show ¬ (l.length=2∧1≤v∧(v:Int)≤C.mx) from fun q=>hc q.2)]
    have e2:(decide ((v:Int) ≥ 1) && decide ((v:Int)≤C.mx))=false:=by
     rw [Bool.and_eq_false_iff]
     by_cases h3:(v:Int) ≥ 1
     ·exact .inr (decide_eq_false (fun q=>hc ⟨by omega,q⟩))
     ·exact .inl (decide_eq_false h3)
    rw [e2]
    rfl
  ·rw [doesO_no (does_len4 C l hl h2)]
   unfold rpS
   rw [if_pos (show ((0:Nat):Int)=0 from rfl),if_neg (fun q=>h2 (by have:=q.1;rw [mk_size] at this;exact this))]
 ·by_cases h1:b=1
  ·subst h1
   have n1:((1:Nat):Int) ≠ 0:=by decide
   by_cases hbad:(rulesS (mk l,false)).r.2=true
   ·rw [does4_bad C l hl hbad]
    symm
    by_cases hok:(rrS (mk l)).ok=true
    ·have h8:=rr_ok_size l hok
     refine rpS_none n1 (badR_rss ?_)
     intro q
     obtain ⟨q1,q2⟩:=rss_len q
     rw [intsOf_len] at q1 q2
     -- the table is of at most 128: then the reader isn't bad
     rw [rules_view l hl h8] at hbad
     have hd8:(mk l).extract 8 (mk l).size=mk (l.drop 8):=extract_mk hl 8
     have e4:nat (mk l) 4 2=le ((l.drop 4).take 2):=nat_mk hl 4 2
     unfold rrS at hok q2
     rw [hd8,e4] at hok q2
     rw [if_neg (by rw [mk_size];omega)] at hok q2
     by_cases hs:(mk (l.drop 8)).size < 2 * (le ((l.drop 4).take 2)+1)+3
     ·rw [if_pos hs] at hok;cases hok
     ·rw [if_neg hs] at q2
      dsimp only at q2
      rw [numsAt_len] at q2
      rw [mk_size] at hs
      unfold rulesT at hbad
      dsimp only at hbad
      rw [show (((le ((l.drop 4).take 2):Nat):Int)+1).toNat=le ((l.drop 4).take 2)+1 by omega,decide_eq_false (by omega),Bool.or_false,tabL_eq _ _ (hl.drop 8) (by omega)] at hbad
      cases hbad
    ·exact rpS_none n1 (badR_ok (by cases h:(rrS (mk l)).ok;rfl;exact absurd h hok))
   ·have hgood:(rulesS (mk l,false)).r.2=false:=by
     cases h:(rulesS (mk l,false)).r.2
     ·rfl
     ·exact absurd h hbad
    have h8:=rules_less l hgood
    rw [rules_view l hl h8] at hgood
    have hd8:(mk l).extract 8 (mk l).size=mk (l.drop 8):=extract_mk hl 8
    obtain ⟨n0,hn0⟩:∃ n,le ((l.drop 4).take 2)=n:=⟨_,rfl⟩
    obtain ⟨kn,hkn⟩:∃ n,le (l.take 4)=n:=⟨_,rfl⟩
    obtain ⟨df,hdf⟩:∃ n,le ((l.drop 6).take 2)=n:=⟨_,rfl⟩
    obtain ⟨m,hm⟩:∃ m,l.drop 8=m:=⟨_,rfl⟩
    have hbm:Bt m:=by rw [← hm];exact hl.drop 8
    have e0:nat (mk l) 0 4=kn:=by rw [nat_mk hl,List.drop_zero,hkn]
    have e4:nat (mk l) 4 2=n0:=by rw [nat_mk hl,hn0]
    have e6:nat (mk l) 6 2=df:=by rw [nat_mk hl,hdf]
    have er:rulesS (mk l,false)=rulesT (kn:Int) (n0:Int) ((df:Int),(mk m,false)):=by rw [rules_view l hl h8,hkn,hn0,hdf,hm]
    rw [hkn,hn0,hdf,hm] at hgood
    -- the count is small
    have hn:n0+1≤128:=by
     unfold rulesT at hgood
     dsimp only at hgood
     have q:=(tabL_less _ _ hgood).1
     dsimp only at q
     rw [Bool.false_or,decide_eq_false_iff_not] at q
     omega
    have hsz:2 * (n0+1)≤m.length:=by
     unfold rulesT at hgood
     dsimp only at hgood
     have q:=(tabL_less _ _ hgood).2
     dsimp only at q
     rw [mk_size,show ((n0:Int)+1).toNat=n0+1 by omega] at q
     omega
    have eT:rulesS (mk l,false)=⟨(kn:Int),intsOf (numsAt (mk m) (n0+1)),(df:Int),(mk (m.drop (2 * (n0+1))),false)⟩:=by
     rw [er]
     unfold rulesT
     dsimp only
     rw [show ((n0:Int)+1).toNat=n0+1 by omega,decide_eq_false (by omega),Bool.or_false,tabL_eq _ _ hbm hsz,ints_at m hbm]
    obtain ⟨L,hL⟩:∃ L,intsOf (numsAt (mk m) (n0+1))=L:=⟨_,rfl⟩
    rw [hL] at eT
    by_cases hs3:m.length < 2 * (n0+1)+3
    · -- too short behind the table
     have hrr:(rrS (mk l)).ok=false:=by
      unfold rrS
      rw [if_neg (by rw [mk_size];omega),hd8,hm,e4,if_pos (by rw [mk_size];exact hs3)]
     rw [rpS_none n1 (badR_ok hrr)]
     refine doesO_no ?_
     rw [does41 C l hl,swS4,pairS_one _ _ _ _ _ _ eT rfl rfl rfl]
     cases q:(doneS (({ C with on:=false,kn:=(kn:Int),tab:=L,df:=(df:Int),key:=(takeS (numS (numS (mk (m.drop (2 * (n0+1))),false) 2).2 1).2 (numS (numS (mk (m.drop (2 * (n0+1))),false) 2).2 1).1.toNat).1,p:=0 }:Cfg),true,(takeS (numS (numS (mk (m.drop (2 * (n0+1))),false) 2).2 1).2 (numS (numS (mk (m.drop (2 * (n0+1))),false) 2).2 1).1.toNat).2)).2
     ·unfold doneS at q ⊢
      dsimp only at q ⊢
      rw [Bool.true_and] at q
      rw [Bool.and_assoc,q,Bool.and_false]
     ·exfalso
      unfold doneS at q
      simp only [Bool.and_eq_true,Bool.not_eq_true',Bool.true_and] at q
      obtain ⟨q1,q2⟩:=q
      have z:=rest_nil q2
      have k1:(numS (numS (mk (m.drop (2 * (n0+1))),false) 2).2 1).2.2=false:=by
       cases k:(numS (numS (mk (m.drop (2 * (n0+1))),false) 2).2 1).2.2
       ·rfl
       ·rw [bad_take _ _ k] at q1;cases q1
      obtain ⟨s1,s2,-⟩:=numS_size _ 1 (by decide) k1
      obtain ⟨s3,s4,-⟩:=numS_size _ 2 (by decide) s1
      dsimp only at s4
      rw [mk_size,List.length_drop] at s4
      omega
    · -- all is there
     obtain ⟨m1,hm1⟩:∃ x,m.drop (2 * (n0+1))=x:=⟨_,rfl⟩
     have hb1:Bt m1:=by rw [← hm1];exact hbm.drop _
     have hl1:m1.length=m.length - 2 * (n0+1):=by rw [← hm1,List.length_drop]
     have p1:=numS_take m1 hb1 2 (by omega)
     have p2:=numS_take (m1.drop 2) (hb1.drop 2) 1 (by rw [List.length_drop];omega)
     rw [List.drop_drop,show 2+1=3 from rfl] at p2
     obtain ⟨pp,hpp⟩:∃ x,le (m1.take 2)=x:=⟨_,rfl⟩
     obtain ⟨kk,hkk⟩:∃ x,le ((m1.drop 2).take 1)=x:=⟨_,rfl⟩
     obtain ⟨ky,hky⟩:∃ x,m1.drop 3=x:=⟨_,rfl⟩
     rw [hpp] at p1
     rw [hkk,hky] at p2
     have hbk:Bt ky:=by rw [← hky];exact hb1.drop 3
     rw [hm1] at eT
     have en2:nat (mk m) (2 * (n0+1)) 2=pp:=by rw [nat_mk hbm,hm1,hpp]
     have en3:nat (mk m) (2 * (n0+1)+2) 1=kk:=by rw [nat_mk hbm,← List.drop_drop,hm1,hkk]
     have ek:(mk m).extract (2 * (n0+1)+3) (mk m).size=mk ky:=by rw [extract_mk hbm,← List.drop_drop,hm1,hky]
     have hrr:rrS (mk l)=⟨(kn:Int),numsAt (mk m) (n0+1),mk ky,(df:Int),(pp:Int),decide (ky.length=kk)⟩:=by
      unfold rrS
      rw [if_neg (by rw [mk_size];omega),hd8,hm,e4,if_neg (by rw [mk_size];exact hs3),e0,e6,ek,en2,en3,mk_size]
     have hd:=does41 C l hl
     by_cases hkl:ky.length=kk
     ·have q3:takeS (mk ky,false) ((kk:Nat):Int).toNat=(mk ky,(mk [],false)):=by rw [Int.toNat_natCast];exact takeS_exact ky hbk false kk hkl.symm
      rw [swS4,pairS_one _ _ _ _ _ _ eT p1 p2 q3] at hd
      dsimp only at hd
      rw [doneS_ok] at hd
      rw [doesO_eq hd]
      unfold rpS
      rw [if_neg n1,hrr]
      unfold badR
      dsimp only
      rw [hL,decide_eq_true hkl,below_alt]
      by_cases c1:rssS (kn:Int) L (mk ky) (df:Int)=0
      ·rw [c1]
       cases c2:decide ((df:Int) < C.mx)
       ·have c2':decide ((df:Int) ≥ C.mx)=true:=decide_eq_true (by have:=of_decide_eq_false c2;omega)
        rw [c2']
        simp
       ·have c2':decide ((df:Int) ≥ C.mx)=false:=decide_eq_false (by have:=of_decide_eq_true c2;omega)
        rw [c2']
        cases c3:L.all fun q=>decide (q < C.mx)
        ·simp
        ·by_cases c4:(pp:Int) ≥ 1
         ·rw [decide_eq_true c4,decide_eq_false (show ¬ (pp:Int) < 1 by omega)]
          by_cases c5:(pp:Int)≤C.mx
          ·rw [decide_eq_true c5,decide_eq_false (show ¬ (pp:Int) > C.mx by omega)]
           rfl
          ·rw [decide_eq_false c5,decide_eq_true (show (pp:Int) > C.mx by omega)]
           rfl
         ·rw [decide_eq_false c4,decide_eq_true (show (pp:Int) < 1 by omega)]
          have e5:∀ x:Bool,(((1:Nat):Int) != 1 || !true || (0:Int) != 0 || true || x || false)=true:=fun x=>by cases x <;> rfl
          rw [e5]
          simp
      ·have c1':(rssS (kn:Int) L (mk ky) (df:Int) != 0)=true:=bne_iff_ne.2 c1
       have c1'':(rssS (kn:Int) L (mk ky) (df:Int) == 0)=false:=beq_eq_false_iff_ne.2 c1
       rw [c1',c1'']
       have e5:∀ x y z:Bool,(((1:Nat):Int) != 1 || !true || true || x || y || z)=true:=fun x y z=>by cases x <;> cases y <;> cases z <;> rfl
       rw [e5]
       simp
     ·rw [rpS_none n1 (badR_ok (by rw [hrr];exact decide_eq_false hkl))]
      refine doesO_no ?_
      rw [hd,swS4,pairS_one _ _ _ _ _ _ eT p1 p2 rfl]
      dsimp only
      rw [Int.toNat_natCast]
      unfold doneS
      dsimp only
      by_cases hlt:ky.length < kk
      ·have:(takeS (mk ky,false) kk).2.2=true:=by unfold takeS;rw [if_pos (by rw [mk_size];exact hlt)]
       rw [this]
       simp
      ·rw [takeS_take ky hbk kk (by omega)]
       dsimp only
       rw [nil_mk]
       have:(ky.drop kk).isEmpty=false:=by
        cases q:(ky.drop kk).isEmpty
        ·rfl
        ·have:=List.isEmpty_iff.1 q
         have l0:=congrArg List.length this
         rw [List.length_drop] at l0
         simp at l0
         omega
       rw [this,Bool.and_false]
  ·have ed:(doesS C (mk (comB 4 b l),false)).2=false:=by
    rw [does4 C b l hl hb,swS4]
    unfold pairS
    rw [if_neg (by omega),if_neg (by omega)]
    unfold doneS
    simp
   rw [doesO_no ed,rpS_none (by omega) (by unfold badR;have:((b:Int) != 1)=true:=bne_iff_ne.2 (by omega);rw [this];simp)]
theorem agree (C:Cfg) (s:ByteArray):rapS C s=appS C s:=by
 rw [appS_ans]
 unfold rapS
 by_cases h:s.size < 2
 ·rw [if_pos h,doesO_no (does_short C s h)]
  rfl
 ·rw [if_neg h]
  obtain ⟨a,b,l,hl,ha,hb,es,e0,e1,e2⟩:=two_bytes s (by omega)
  rw [e0,e1,e2,es]
  by_cases h0:a=0
  ·subst h0;rw [agree0 C b l hl hb];rfl
  ·by_cases h1:a=1
   ·subst h1;rw [agree1 C b l hl hb];rfl
   ·by_cases h2:a=2
    ·subst h2;rw [agree2 C b l hl hb];rfl
    ·by_cases h4:a=4
     ·subst h4;rw [agree4 C b l hl hb];rfl
     ·have eo:outS C (a:Int) b (mk l)=none:=by
       unfold outS
       rw [if_neg (by omega),if_neg (by omega),if_neg (by omega),if_neg (by omega)]
      have ed:(doesS C (mk (comB a b l),false)).2=false:=by
       rw [doesS_com _ _ _ _ hl,Nat.mod_eq_of_lt ha]
       unfold swS
       rw [if_neg (by omega),if_neg (by omega),if_neg (by omega),if_neg (by omega)]
       unfold doneS
       simp
      rw [eo,doesO_no ed]
end Go.Proofs.Ytkgbhlcbjflnlaa.Fl
