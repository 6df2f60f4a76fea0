/- What functions of the program compute, each with the walk that shows it: by a program (a turned copy of the kit's print; wip/myprint.py). -/
import Derived.Test.YtkgbhlcbjflnlaaZPx0
import Derived.Test.YtkgbhlcbjflnlaaZPx1
import Derived.Test.YtkgbhlcbjflnlaaZPx2
namespace Go.Proofs.Ytkgbhlcbjflnlaa.P
open Go.RowKit Go.Proofs.YtkgbhlcbjflnlaaW.PrintWords Go.Proofs.YtkgbhlcbjflnlaaW.PrintLast Go.Proofs.YtkgbhlcbjflnlaaW.PrintMore
attribute [local go_sem] max2_int min2_int max_two min_two max_three min_three max_four min_four   -- for this text's walks alone
set_option linter.unusedVariables false
set_option linter.unusedSimpArgs false

/-! ### control_reader_macs: function 53 -/
mutual
def control_reader_macs.j0:Nat→List ByteArray→Int→ByteArray→Bool→Option (List ByteArray × ByteArray × Bool)
 | 0,_,_,_,_=>none
 | k+1,x3,x4,x1000,x1001=>control_reader_macs.l0 k x3 x4 0 x1000 x1001
def control_reader_macs.l0:Nat→List ByteArray→Int→Int→ByteArray→Bool→Option (List ByteArray × ByteArray × Bool)
 | 0,_,_,_,_,_=>none
 | k+1,x3,x4,x5,x1000,x1001=>if x5 < x4 then (if x1001=true then (some (x3,x1000,x1001)) else ((control_reader_take.f x1000 x1001 6).bind fun bt114=>(if x3.length < 8796093022208 then (control_reader_macs.l0 k (x3 ++ [bt114.1]) x4 (wrap64 (x5+1)) bt114.2.1 bt114.2.2) else (none)))) else (some (x3,x1000,x1001))
end
def control_reader_macs.f (k:Nat) (s0_0:ByteArray) (s0_1:Bool):Option (List ByteArray × ByteArray × Bool):=(control_reader_num.f k s0_0 s0_1 4).bind fun bt111=>(if bt111.2.2=true then (control_reader_macs.j0 k ([]:List ByteArray) bt111.1 bt111.2.1 true) else (control_reader_macs.j0 k ([]:List ByteArray) bt111.1 bt111.2.1 (decide (bt111.1 > 16))))
theorem control_reader_macs.mono_l:∀ k,(∀ y0 y1 y2 y3,LeO (control_reader_macs.j0 k y0 y1 y2 y3) (control_reader_macs.j0 (k+1) y0 y1 y2 y3))∧(∀ y0 y1 y2 y3 y4,LeO (control_reader_macs.l0 k y0 y1 y2 y3 y4) (control_reader_macs.l0 (k+1) y0 y1 y2 y3 y4))
 | 0=>⟨fun _ _ _ _ r h=>by simp [control_reader_macs.j0] at h,fun _ _ _ _ _ r h=>by simp [control_reader_macs.l0] at h⟩
 | k+1=>by
  obtain ⟨ih0,ih1⟩:=control_reader_macs.mono_l k
  refine ⟨?_,?_⟩
  ·intro y0 y1 y2 y3
   unfold control_reader_macs.j0
   repeat' first
   | (with_reducible exact ih0 _ _ _ _)
   | (with_reducible exact ih1 _ _ _ _ _)
   | (with_reducible exact control_reader_num.mono _ _ _ _)
   | (with_reducible exact LeO.refl _)
   | (with_reducible exact LeO.none _)
   | (with_reducible refine LeO.ite ?_ ?_)
   | (with_reducible refine LeO.bind ?_ (fun _=>?_))
   | exact ih0 _ _ _ _
   | exact ih1 _ _ _ _ _
   | exact control_reader_num.mono _ _ _ _
   | exact LeO.none _
   | refine LeO.ite ?_ ?_
   | refine LeO.bind ?_ (fun _=>?_)
  ·intro y0 y1 y2 y3 y4
   unfold control_reader_macs.l0
   repeat' first
   | (with_reducible exact ih0 _ _ _ _)
   | (with_reducible exact ih1 _ _ _ _ _)
   | (with_reducible exact control_reader_num.mono _ _ _ _)
   | (with_reducible exact LeO.refl _)
   | (with_reducible exact LeO.none _)
   | (with_reducible refine LeO.ite ?_ ?_)
   | (with_reducible refine LeO.bind ?_ (fun _=>?_))
   | exact ih0 _ _ _ _
   | exact ih1 _ _ _ _ _
   | exact control_reader_num.mono _ _ _ _
   | exact LeO.none _
   | refine LeO.ite ?_ ?_
   | refine LeO.bind ?_ (fun _=>?_)
theorem control_reader_macs.mono:∀ a0 a1 k,LeO (control_reader_macs.f k a0 a1) (control_reader_macs.f (k+1) a0 a1):=by
 intro a0 a1 k
 obtain ⟨ih0,ih1⟩:=control_reader_macs.mono_l k
 unfold control_reader_macs.f
 repeat' first
   | (with_reducible exact ih0 _ _ _ _)
   | (with_reducible exact ih1 _ _ _ _ _)
   | (with_reducible exact control_reader_num.mono _ _ _ _)
   | (with_reducible exact LeO.refl _)
   | (with_reducible exact LeO.none _)
   | (with_reducible refine LeO.ite ?_ ?_)
   | (with_reducible refine LeO.bind ?_ (fun _=>?_))
   | exact ih0 _ _ _ _
   | exact ih1 _ _ _ _ _
   | exact control_reader_num.mono _ _ _ _
   | exact LeO.none _
   | refine LeO.ite ?_ ?_
   | refine LeO.bind ?_ (fun _=>?_)
set_option maxHeartbeats 8000000 in
set_option maxRecDepth 100000 in
theorem control_reader_macs.calls (k:Nat) (g:Nat) (s0_0:ByteArray) (s0_1:Bool) (r1:List ByteArray) (r2:ByteArray) (r3:Bool) (w0 w:World) (hI:IsS64 w0 w g s0_0 s0_1) (hB:Below w0.heap.size w0 w) (h:control_reader_macs.f k s0_0 s0_1=some (r1,r2,r3)) :
  Calls Try.prog 53 #[.pointer (some ⟨g,0,none⟩)] w fun e w'=>∃ v0_:Value,e=.returned (v0_)∧Kd.R Kd.string 9 w' w.heap.size (fun _=>True) v0_ r1∧IsS64 w0 w' g r2 r3∧Below w0.heap.size w0 w'∧KeepBut w w' g none:=by
 have HI0:=amk hI
 have HK:=amk (KeepBut.refl w g none)
 have HL:=amk hB.size
 clear hI
 have HW0:=amk hB.size
 have HB:=amk hB
 clear hB
 have H:((control_reader_num.f k s0_0 s0_1 4).bind fun bt111=>(if bt111.2.2=true then (control_reader_macs.j0 k ([]:List ByteArray) bt111.1 bt111.2.1 true) else (control_reader_macs.j0 k ([]:List ByteArray) bt111.1 bt111.2.1 (decide (bt111.1 > 16)))))=some (r1,r2,r3):=h
 clear h
 replace H:=Option.bind_eq_some_iff.mp H
 obtain ⟨⟨t111,t112,t113⟩,A20,H⟩:=H
 replace H:(if t113=true then (control_reader_macs.j0 k ([]:List ByteArray) t111 t112 true) else (control_reader_macs.j0 k ([]:List ByteArray) t111 t112 (decide (t111 > 16))))=some (r1,r2,r3):=H
 have A2:=amk A20
 clear A20
 have HC3:=amk H
 clear H
 go_enter Try.func53,Try.ntmps53
 go_upto_region 3 with (first | ((with_reducible refine gate_callee (f:=51) rfl ?_);refine goesL_ (some 7) rfl rfl Try.func51 (by kernel_rfl) rfl #[.pointer (some ⟨g,0,none⟩),.int .i64 4] rfl (by (try simp only [List.map_toArray,List.map_cons,List.map_nil]);first | done | rfl | (simp only [List.length_drop,List.length_take];rfl)) ?_;(with_reducible refine (control_reader_num.calls k g s0_0 s0_1 4 t111 t112 t113 w0 _ ?side1 ?side2 A2.out).mono ?_);(case side1=>repeat (first | (with_reducible first | exact HI0.out | apply IsS64.alloc | apply IsS64.drewN | apply IsS64.drew | apply IsS64.set_0 | apply IsS64.set_1) | exact HI0.out));(case side2=>repeat (first | (with_reducible first | exact HB.out | apply bwa | apply pwd | apply bwd | refine bwt ?_ (IsS64.ge HI0.out)) | exact HB.out));rintro e w4 ⟨rfl,hi,hb,hk⟩;refine ⟨_,rfl,?_⟩;have n0_:=amk (KeepBut.trans (by repeat (first | (with_reducible first | exact HK.out | apply KeepBut.set_ | apply keep_drewN | apply keep_drew | apply keep_alloc) | exact HK.out)) hk (.inl rfl));have n1_:=amk (hb);have n2_:=amk (hi);clear HK;clear HB;clear HI0;have HK:=n0_;have HB:=n1_;have HI0:=n2_;clear n0_ n1_ n2_;(try clear hb);(try clear hb2);(try clear hk);(try clear hi)))
 (try simp only [Act.put,List.setIfInBounds_toArray,List.set_cons_zero,List.set_cons_succ])
 go_cut [] (fun wc=>∃ (kq:Nat) (x1001_2:Bool),Aside0 (control_reader_macs.j0 kq ([]:List ByteArray) t111 t112 x1001_2=some (r1,r2,r3))∧Aside0 (kq≤k)∧Aside0 (Kd.R Kd.string 9 wc w.heap.size (fun _=>True) (.slice none 0 0) ([]:List ByteArray))∧Aside0 (IsS64 w0 wc g t112 x1001_2)∧Aside0 (KeepBut w wc g none)∧Aside0 (Below w0.heap.size w0 wc))
 case first =>
  have H:=HC3.out
  clear HC3
  by_cases c5:t113=true
  ·subst c5
   have H1:(control_reader_macs.j0 k ([]:List ByteArray) t111 t112 true)=some (r1,r2,r3):=by rw [if_pos rfl] at H;exact H
   clear H
   have H:=H1
   clear H1
   have H':=amk H
   clear H
   obtain ⟨HGz6,hgz6⟩:=HI0.out
   have hcz6_0:=cellS64_0 HGz6
   have hcz6_1:=cellS64_1 HGz6
   have hfz6_0:=bkf HGz6 0
   have hfz6_1:=bkf HGz6 1
   clear HGz6 hgz6
   go_wp2
   go_meet
   case rel=>exact ⟨_,(true),H',⟨by first | omega | exact Nat.le_refl _⟩,⟨by first | exact Kd.R_nil _ _ _ _ _ | exact Kd.N_nil _ _ _ _ _ | exact Kd.V_nil _ _ _ _ _ | exact Kd.Q_nil _ _ _ _ _ | exact Kd.S_nil _ _ _ _ _⟩,⟨by repeat (first | (with_reducible first | exact HI0.out | apply IsS64.alloc | apply IsS64.drewN | apply IsS64.drew | apply IsS64.set_0 | apply IsS64.set_1) | exact HI0.out)⟩,⟨by repeat (first | (with_reducible first | exact HK.out | apply KeepBut.set_ | apply keep_drewN | apply keep_drew | apply keep_alloc) | exact HK.out)⟩,⟨by repeat (first | (with_reducible first | exact HB.out | apply bwa | apply pwd | apply bwd | refine bwt ?_ (IsS64.ge HI0.out)) | exact HB.out)⟩⟩
  ·replace c5:=Bool.eq_false_iff.mpr c5
   subst c5
   have H1:(control_reader_macs.j0 k ([]:List ByteArray) t111 t112 (decide (t111 > 16)))=some (r1,r2,r3):=by rw [if_neg (show ¬ (false=true) by decide)] at H;exact H
   clear H
   have H:=H1
   clear H1
   have H':=amk H
   clear H
   obtain ⟨HGz7,hgz7⟩:=HI0.out
   have hcz7_0:=cellS64_0 HGz7
   have hcz7_1:=cellS64_1 HGz7
   have hfz7_0:=bkf HGz7 0
   have hfz7_1:=bkf HGz7 1
   clear HGz7 hgz7
   go_wp2
   go_meet
   case rel=>exact ⟨_,(decide (t111 > 16)),H',⟨by first | omega | exact Nat.le_refl _⟩,⟨by first | exact Kd.R_nil _ _ _ _ _ | exact Kd.N_nil _ _ _ _ _ | exact Kd.V_nil _ _ _ _ _ | exact Kd.Q_nil _ _ _ _ _ | exact Kd.S_nil _ _ _ _ _⟩,⟨by repeat (first | (with_reducible first | exact HI0.out | apply IsS64.alloc | apply IsS64.drewN | apply IsS64.drew | apply IsS64.set_0 | apply IsS64.set_1) | exact HI0.out)⟩,⟨by repeat (first | (with_reducible first | exact HK.out | apply KeepBut.set_ | apply keep_drewN | apply keep_drew | apply keep_alloc) | exact HK.out)⟩,⟨by repeat (first | (with_reducible first | exact HB.out | apply bwa | apply pwd | apply bwd | refine bwt ?_ (IsS64.ge HI0.out)) | exact HB.out)⟩⟩
 case rest =>
  clear HC3
  try clear p2
  try clear c5
  try clear hcz6_0
  try clear hcz6_1
  try clear hcz7_0
  try clear hcz7_1
  try clear hfz6_0
  try clear hfz6_1
  try clear hfz7_0
  try clear hfz7_1
  obtain ⟨kq,x1001_2,HA,HJ2,HO_3,HI0,HK,HB⟩:=hcut
  cases kq with
  | zero=>exact absurd HA.out (by simp [control_reader_macs.j0])
  | succ kj2 =>
   have H:=HA.out
   clear HA
   simp only [control_reader_macs.j0] at H
   have H':=amk H
   clear H
   go_wp2
   go_loopg [3,5] kj2 (fun kq v3 v5 w'=>∃ (x3_2:List ByteArray) (x5_2:Int) (x1000_2:ByteArray) (x1001_2:Bool),v5=.int .i64 x5_2∧Aside0 (control_reader_macs.l0 kq x3_2 t111 x5_2 x1000_2 x1001_2=some (r1,r2,r3))∧Aside0 (kq≤kj2)∧Aside0 (Kd.R Kd.string 9 w' w.heap.size (fun _=>True) v3 x3_2)∧Aside0 (IsS64 w0 w' g x1000_2 x1001_2)∧Aside0 (KeepBut w w' g none)∧Aside0 (Below w0.heap.size w0 w'))
   case atStart=>exact ⟨(([]:List ByteArray)),(0),(t112),(x1001_2),(by first | rfl | (simp;done) | (simp [*];done)),H',⟨Nat.le_refl _⟩,⟨by (with_reducible repeat (first | apply Kd.R_alloc | apply Kd.R_drewN | apply Kd.R_drew));exact HO_3.out⟩,⟨by repeat (first | (with_reducible first | exact HI0.out | apply IsS64.alloc | apply IsS64.drewN | apply IsS64.drew | apply IsS64.set_0 | apply IsS64.set_1) | exact HI0.out)⟩,⟨by repeat (first | (with_reducible first | exact HK.out | apply KeepBut.set_ | apply keep_drewN | apply keep_drew | apply keep_alloc) | exact HK.out)⟩,⟨by repeat (first | (with_reducible first | exact HB.out | apply bwa | apply pwd | apply bwd | refine bwt ?_ (IsS64.ge HI0.out)) | exact HB.out)⟩⟩
   case round =>
    clear H'
    try clear p2
    try clear c5
    try clear hcz6_0
    try clear hcz6_1
    try clear hcz7_0
    try clear hcz7_1
    try clear hfz6_0
    try clear hfz6_1
    try clear hfz7_0
    try clear hfz7_1
    try clear p2
    obtain ⟨x3_2,x5_2,x1000_2,x1001_2,rfl,HA,HK2,HO_3,HI0,HK,HB⟩:=hrel
    cases gk with
    | zero=>exact absurd HA.out (by simp [control_reader_macs.l0])
    | succ k2 =>
     have H:=HA.out
     clear HA
     simp only [control_reader_macs.l0] at H
     by_cases c8:x5_2 < t111
     ·rw [if_pos c8] at H
      have c8b0:decide (x5_2 < t111)=true:=decide_eq_true c8
      clear c8
      by_cases c9:x1001_2=true
      ·subst c9
       have H1:(some (x3_2,x1000_2,true))=some (r1,r2,r3):=by rw [if_pos rfl] at H;exact H
       clear H
       have H:=H1
       clear H1
       simp only [Option.some.injEq,Prod.mk.injEq] at H
       obtain ⟨rfl,rfl,rfl⟩:=H
       obtain ⟨HGz10,hgz10⟩:=HI0.out
       have hcz10_0:=cellS64_0 HGz10
       have hcz10_1:=cellS64_1 HGz10
       have hfz10_0:=bkf HGz10 0
       have hfz10_1:=bkf HGz10 1
       clear HGz10 hgz10
       go_wp2
       go_ret
       exact ⟨_,by first | rfl | (simp [eWn,eWs] <;> rfl) | (simp [*,eWn,eWs] <;> rfl),by (with_reducible repeat (first | apply Kd.R_alloc | apply Kd.R_drewN | apply Kd.R_drew));exact HO_3.out,by repeat (first | (with_reducible first | exact HI0.out | apply IsS64.alloc | apply IsS64.drewN | apply IsS64.drew | apply IsS64.set_0 | apply IsS64.set_1) | exact HI0.out),by repeat (first | (with_reducible first | exact HB.out | apply bwa | apply pwd | apply bwd | refine bwt ?_ (IsS64.ge HI0.out)) | exact HB.out),by repeat (first | (with_reducible first | exact HK.out | apply KeepBut.set_ | apply keep_drewN | apply keep_drew | apply keep_alloc) | exact HK.out)⟩
      ·replace c9:=Bool.eq_false_iff.mpr c9
       subst c9
       have H1:((control_reader_take.f x1000_2 false 6).bind fun bt114=>(if x3_2.length < 8796093022208 then (control_reader_macs.l0 k2 (x3_2 ++ [bt114.1]) t111 (wrap64 (x5_2+1)) bt114.2.1 bt114.2.2) else (none)))=some (r1,r2,r3):=by rw [if_neg (show ¬ (false=true) by decide)] at H;exact H
       clear H
       have H:=H1
       clear H1
       replace H:=Option.bind_eq_some_iff.mp H
       obtain ⟨⟨t114,t115,t116⟩,A110,H⟩:=H
       replace H:(if x3_2.length < 8796093022208 then (control_reader_macs.l0 k2 (x3_2 ++ [t114]) t111 (wrap64 (x5_2+1)) t115 t116) else (none))=some (r1,r2,r3):=H
       have A11:=amk A110
       clear A110
       by_cases c12:x3_2.length < 8796093022208
       ·rw [if_pos c12] at H
        have LMc12:=amk c12
        clear c12
        obtain ⟨y117,hy117⟩:∃ y_:List ByteArray,y_=(x3_2 ++ [t114]):=⟨_,rfl⟩
        replace H:(control_reader_macs.l0 k2 y117 t111 (wrap64 (x5_2+1)) t115 t116)=some (r1,r2,r3):=by first | (rw [hy117];with_reducible exact H) | (have H2_:=(Option.bind_some _ _).symm.trans H;rw [hy117];with_reducible exact H2_) | (have H2_:=(Option.bind_some _ _).symm.trans H;with_reducible exact H2_) | with_reducible exact H | (rw [hy117];exact H) | exact H
        have Ny117:=amk hy117
        clear hy117
        have H':=amk H
        clear H
        obtain ⟨HGz13,hgz13⟩:=HI0.out
        have hcz13_0:=cellS64_0 HGz13
        have hcz13_1:=cellS64_1 HGz13
        have hfz13_0:=bkf HGz13 0
        have hfz13_1:=bkf HGz13 1
        clear HGz13 hgz13
        go_wp2_with (first | ((with_reducible refine gate_callee (f:=54) rfl ?_);refine goesL_ (some 33) rfl rfl Try.func54 (by kernel_rfl) rfl #[.pointer (some ⟨g,0,none⟩),.int .i64 6] rfl (by (try simp only [List.map_toArray,List.map_cons,List.map_nil]);first | done | rfl | (simp only [List.length_drop,List.length_take];rfl)) ?_;(with_reducible refine (control_reader_take.calls g x1000_2 false 6 t114 t115 t116 w0 _ ?side1 ?side2 A11.out).mono ?_);(case side1=>repeat (first | (with_reducible first | exact HI0.out | apply IsS64.alloc | apply IsS64.drewN | apply IsS64.drew | apply IsS64.set_0 | apply IsS64.set_1) | exact HI0.out));(case side2=>repeat (first | (with_reducible first | exact HB.out | apply bwa | apply pwd | apply bwd | refine bwt ?_ (IsS64.ge HI0.out)) | exact HB.out));rintro e w14 ⟨rfl,hi,hb,hk⟩;refine ⟨_,rfl,?_⟩;have n0_:=amk (Kd.R_mono (Kd.R_keep (IsS64.apart (show IsS64 w0 _ g x1000_2 false from by repeat (first | (with_reducible first | exact HI0.out | apply IsS64.alloc | apply IsS64.drewN | apply IsS64.drew | apply IsS64.set_0 | apply IsS64.set_1) | exact HI0.out)) (by (with_reducible repeat (first | apply Kd.R_alloc | apply Kd.R_drewN | apply Kd.R_drew));exact HO_3.out) (by decide)) hk (fun _ h=>h.2)) (fun _ h=>h.1));have n1_:=amk (KeepBut.trans (by repeat (first | (with_reducible first | exact HK.out | apply KeepBut.set_ | apply keep_drewN | apply keep_drew | apply keep_alloc) | exact HK.out)) hk (.inl rfl));have n2_:=amk (hb);have n3_:=amk (hi);clear HO_3;clear HK;clear HB;clear HI0;have HO_3:=n0_;have HK:=n1_;have HB:=n2_;have HI0:=n3_;clear n0_ n1_ n2_ n3_;(try clear hb);(try clear hb2);(try clear hk);(try clear hi)) | ((with_reducible refine gate_builtin (b:=.append) (xs:=#[.tmp 31,.tmp 34]) rfl ?_);at_builtin;refine Kd.R_append Kd.string w.heap.size rfl (.tmp 31) (.tmp 34) 22 9 (.string ⟨#[]⟩) 16 rfl Try.underlying22 info9 rfl (by decide) (by omega) u3 x3_2 t114 [.string t114] (fun _=>True) (fun _=>False) rfl rfl ?aP (fun _ hk=>hk.elim) ?aF ?aO (Below.refl _ _) ?aS ?aL ?_;(case aP=>exact rfl);(case aF=>exact (fun _ _=>trivial));(case aO=>exact (by (with_reducible repeat (first | apply Kd.R_alloc | apply Kd.R_drewN | apply Kd.R_drew));exact HO_3.out));(case aS=>exact (keep_size (w:=w) (g:=g) (row:=none) (by repeat (first | (with_reducible first | exact HK.out | apply KeepBut.set_ | apply keep_drewN | apply keep_drew | apply keep_alloc) | exact HK.out))));(case aL=>have:=LMc12.out;omega);intro v118 w15 ho hb hg hat;rw [← Ny117.out] at ho;have n0_:=amk (IsS64.grown (by repeat (first | (with_reducible first | exact HI0.out | apply IsS64.alloc | apply IsS64.drewN | apply IsS64.drew | apply IsS64.set_0 | apply IsS64.set_1) | exact HI0.out)) hg (IsS64.own_ne HI0.out HO_3.out (by decide)));have n1_:=amk (below_weaken (by repeat (first | (with_reducible first | exact HB.out | apply bwa | apply pwd | apply bwd | refine bwt ?_ (IsS64.ge HI0.out)) | exact HB.out)) HL.out hb);have n2_:=amk (KeepBut.trans (by repeat (first | (with_reducible first | exact HK.out | apply KeepBut.set_ | apply keep_drewN | apply keep_drew | apply keep_alloc) | exact HK.out)) (KeepBut.of_grown hg g) (Kd.R_base2 HO_3.out));have n3_:=amk (ho);clear HI0;clear HB;clear HK;clear HO_3;have HI0:=n0_;have HB:=n1_;have HK:=n2_;have HO119:=n3_;clear n0_ n1_ n2_ n3_;clear ho hb hg hat))
        go_roundg k2
        case measure=>have:=HJ2.out;have:=HK2.out;omega
        case rel=>exact ⟨(y117),(wrap64 (x5_2+1)),(t115),(t116),(by first | rfl | (simp;done) | (simp [*];done)),H',⟨by have:=HJ2.out;have:=HK2.out;omega⟩,⟨by (with_reducible repeat (first | apply Kd.R_alloc | apply Kd.R_drewN | apply Kd.R_drew));exact HO119.out⟩,⟨by repeat (first | (with_reducible first | exact HI0.out | apply IsS64.alloc | apply IsS64.drewN | apply IsS64.drew | apply IsS64.set_0 | apply IsS64.set_1) | exact HI0.out)⟩,⟨by repeat (first | (with_reducible first | exact HK.out | apply KeepBut.set_ | apply keep_drewN | apply keep_drew | apply keep_alloc) | exact HK.out)⟩,⟨by repeat (first | (with_reducible first | exact HB.out | apply bwa | apply pwd | apply bwd | refine bwt ?_ (IsS64.ge HI0.out)) | exact HB.out)⟩⟩
       ·rw [if_neg c12] at H
        exact absurd H (by simp)
     ·rw [if_neg c8] at H
      have c8b0:decide (x5_2 < t111)=false:=decide_eq_false c8
      clear c8
      simp only [Option.some.injEq,Prod.mk.injEq] at H
      obtain ⟨rfl,rfl,rfl⟩:=H
      go_wp2
      go_ret
      exact ⟨_,by first | rfl | (simp [eWn,eWs] <;> rfl) | (simp [*,eWn,eWs] <;> rfl),by (with_reducible repeat (first | apply Kd.R_alloc | apply Kd.R_drewN | apply Kd.R_drew));exact HO_3.out,by repeat (first | (with_reducible first | exact HI0.out | apply IsS64.alloc | apply IsS64.drewN | apply IsS64.drew | apply IsS64.set_0 | apply IsS64.set_1) | exact HI0.out),by repeat (first | (with_reducible first | exact HB.out | apply bwa | apply pwd | apply bwd | refine bwt ?_ (IsS64.ge HI0.out)) | exact HB.out),by repeat (first | (with_reducible first | exact HK.out | apply KeepBut.set_ | apply keep_drewN | apply keep_drew | apply keep_alloc) | exact HK.out)⟩

end Go.Proofs.Ytkgbhlcbjflnlaa.P
