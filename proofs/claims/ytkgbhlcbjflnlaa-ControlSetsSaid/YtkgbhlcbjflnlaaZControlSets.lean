/- The row of ControlSets: for every input the law returns true, and each argument reads behind the call as it read before. No condition. -/
import Derived.Test.YtkgbhlcbjflnlaaRows
import Derived.Test.YtkgbhlcbjflnlaaZHandControlSets
import Derived.WalkKit
import Derived.ProofKit
import Derived.OpenShut
import Derived.ShutString
import Derived.ChangeOld
import Derived.Below
import Derived.SizedLaws
import Derived.Carry
import Derived.Test.YtkgbhlcbjflnlaaZRowLn
import Derived.Test.YtkgbhlcbjflnlaaZRowSl
namespace Go.Proofs.Ytkgbhlcbjflnlaa.controlSets
open Go.ChangeShapes Go.WideShapes Go.ChangeAt Go.RowKit
open Go.ChangeMaps (open_string shut_string)
set_option linter.unusedVariables false
set_option linter.unusedSimpArgs false
theorem own:ownKnob Try.prog.godebug=none:=by kernel_rfl
theorem laidOut:laidOutB Try.prog=true:=by kernel_rfl
theorem list4 {α:Type} {xs:List α} (h:xs.length=4):∃ y0 y1 y2 y3,xs=[y0,y1,y2,y3]:=by
 match xs,h with
 | [y0,y1,y2,y3],_=>exact ⟨y0,y1,y2,y3,rfl⟩
theorem list5 {α:Type} {xs:List α} (h:xs.length=5):∃ y0 y1 y2 y3 y4,xs=[y0,y1,y2,y3,y4]:=by
 match xs,h with
 | [y0,y1,y2,y3,y4],_=>exact ⟨y0,y1,y2,y3,y4,rfl⟩
theorem list8 {α:Type} {xs:List α} (h:xs.length=8):∃ y0 y1 y2 y3 y4 y5 y6 y7,xs=[y0,y1,y2,y3,y4,y5,y6,y7]:=by
 match xs,h with
 | [y0,y1,y2,y3,y4,y5,y6,y7],_=>exact ⟨y0,y1,y2,y3,y4,y5,y6,y7,rfl⟩
theorem list11 {α:Type} {xs:List α} (h:xs.length=11):∃ y0 y1 y2 y3 y4 y5 y6 y7 y8 y9 y10,xs=[y0,y1,y2,y3,y4,y5,y6,y7,y8,y9,y10]:=by
 match xs,h with
 | [y0,y1,y2,y3,y4,y5,y6,y7,y8,y9,y10],_=>exact ⟨y0,y1,y2,y3,y4,y5,y6,y7,y8,y9,y10,rfl⟩
theorem list18 {α:Type} {xs:List α} (h:xs.length=18):∃ y0 y1 y2 y3 y4 y5 y6 y7 y8 y9 y10 y11 y12 y13 y14 y15 y16 y17,xs=[y0,y1,y2,y3,y4,y5,y6,y7,y8,y9,y10,y11,y12,y13,y14,y15,y16,y17]:=by
 match xs,h with
 | [y0,y1,y2,y3,y4,y5,y6,y7,y8,y9,y10,y11,y12,y13,y14,y15,y16,y17],_=>exact ⟨y0,y1,y2,y3,y4,y5,y6,y7,y8,y9,y10,y11,y12,y13,y14,y15,y16,y17,rfl⟩
theorem cells3:Try.prog.cellsOf 3=1:=by kernel_rfl
theorem cells4:Try.prog.cellsOf 4=1:=by kernel_rfl
theorem cells9:Try.prog.cellsOf 9=1:=by kernel_rfl
theorem cells22:Try.prog.cellsOf 22=1:=by kernel_rfl
theorem cells23:Try.prog.cellsOf 23=1:=by kernel_rfl
theorem cells25:Try.prog.cellsOf 25=11:=by kernel_rfl
theorem cells27:Try.prog.cellsOf 27=4:=by kernel_rfl
theorem cells29:Try.prog.cellsOf 29=18:=by kernel_rfl
theorem cells37:Try.prog.cellsOf 37=11:=by kernel_rfl
set_option maxRecDepth 100000 in
theorem lifted (os:Os) (started:os.Started) (H:Type) (enc:TypeId × Value→H) :
  ReturnsInHanded {} Try.checked os 6 .any (Rows.controlSetsSpec.pre6 enc Try.prog Try.f6 Rows.controlSetsRow.domain false) (Rows.controlSetsSpec.post enc Try.prog Try.f6 false true false false):=by
 refine returnsInHanded_of_change_sized (C:=Try.checked) own started (by kernel_rfl) Try.func6
  (ChangeSpec.witness6 (enc:=enc) (C:=Try.checked) false ⟨#[],#[.agg #[.string ByteArray.empty,.bool false,.bool false,.bool false,.bool false,.bool false,.bool false,.slice none 0 0,.slice none 0 0,.bool false,.slice none 0 0,.int .i64 0,.int .i64 0,.bool false,.int .i64 0,.slice none 0 0,.string ByteArray.empty,.int .i64 0],.agg #[.int .i64 0,.int .i64 0,.int .i64 0,.bool false,.slice none 0 0,.slice none 0 0,.string ByteArray.empty,.int .i64 0,.slice none 0 0,.string ByteArray.empty,.int .i64 0]],[]⟩ 8 (by kernel_rfl) (by kernel_rfl) (by kernel_rfl) (by kernel_rfl)) ?_
 intro W base args ds gs before hval0 hW hcnd hsz0 _
 have hsz:(DataW.weightsEach Try.prog (Try.f6.params.toList ++ Rows.controlSetsSpec.plain.varTypes Try.prog) (ds ++ gs)).all (· ≤ reachBytes)=true:=hsz0
 have hval:∀ (j:Nat) t v,Try.f6.params[j]?=some t→args[j]?=some v→Value.okWide Try.prog W .any base t v:=hval0
 have hW':=hW
 obtain ⟨p,q,hA0,hV,rfl,hfz,hnd⟩:=hW
 have hA:DataW.TrodAll enc Try.prog W 0 (fun _=>true) true Try.f6.params.toList args.toList ds p:=hA0
 rw [Try.params6] at hA hval hsz
 obtain ⟨v0,vs0,d0,ds0,p0,q0,hargs,rfl,rfl,h0,r0⟩:=trodAll_cons hA
 obtain ⟨v1,vs1,d1,ds1,p1,q1,rfl,rfl,rfl,h1,r1⟩:=trodAll_cons r0
 obtain ⟨rfl,rfl,rfl⟩:=trodAll_nil r1
 obtain rfl:args=#[v0,v1]:=by cases args;simp_all
 obtain ⟨rfl,rfl⟩:=trodVars_none hV
 have k0:=h0
 have k1:=h1
 have hl0:∀ x∈p0,x.block < W.heap.size:=fun x hx=>by simpa using hW'.lt x (by simp [hx])
 have hl1:∀ x∈p1,x.block < W.heap.size:=fun x hx=>by simpa using hW'.lt x (by simp [hx])
 obtain ⟨ar0,rfl,hz0⟩:=okWide_struct Try.underlying29 (hval 0 29 v0 rfl rfl)
 have hz0':ar0.toList.length=18:=by rw [Array.length_toList,hz0,cells29]
 obtain ⟨c0_0,c0_1,c0_2,c0_3,c0_4,c0_5,c0_6,c0_7,c0_8,c0_9,c0_10,c0_11,c0_12,c0_13,c0_14,c0_15,c0_16,c0_17,hc0⟩:=list18 hz0'
 obtain rfl:ar0=#[c0_0,c0_1,c0_2,c0_3,c0_4,c0_5,c0_6,c0_7,c0_8,c0_9,c0_10,c0_11,c0_12,c0_13,c0_14,c0_15,c0_16,c0_17]:=by rw [← Array.toList_inj];exact hc0
 clear hc0 hz0 hz0'
 obtain ⟨fu0,hf0⟩:=h0
 have hf0':DataW.trod enc Try.prog W 0 (fun _=>true) true fu0 29 [c0_0,c0_1,c0_2,c0_3,c0_4,c0_5,c0_6,c0_7,c0_8,c0_9,c0_10,c0_11,c0_12,c0_13,c0_14,c0_15,c0_16,c0_17]=some (d0,p0):=hf0
 clear hf0
 obtain ⟨xs6,m7,-,hx8,-,hl9,F10⟩:=DataW.trod_struct Try.underlying29 hf0'
 obtain ⟨y1,y2,y3,y4,y5,rfl⟩:=list5 hl9
 simp only [Prod.mk.injEq] at hx8
 obtain ⟨rfl,rfl⟩:=hx8
 have z11:DataW.trod enc Try.prog W 0 (fun _=>true) true m7 25 [c0_0,c0_1,c0_2,c0_3,c0_4,c0_5,c0_6,c0_7,c0_8,c0_9,c0_10]=some y1:=by
  have q:DataW.trod enc Try.prog W 0 (fun _=>true) true m7 25 (([c0_0,c0_1,c0_2,c0_3,c0_4,c0_5,c0_6,c0_7,c0_8,c0_9,c0_10,c0_11,c0_12,c0_13,c0_14,c0_15,c0_16,c0_17].drop 0).take (Try.prog.cellsOf 25))=some y1:=F10 0 _ rfl
  rw [cells25] at q
  exact q
 obtain ⟨xs23,m24,-,hx25,-,hl26,F27⟩:=DataW.trod_struct Try.underlying25 z11
 obtain ⟨y12,y13,y14,y15,y16,y17,y18,y19,y20,y21,y22,rfl⟩:=list11 hl26
 subst hx25
 have z28:DataW.trod enc Try.prog W 0 (fun _=>true) true m24 9 [c0_0]=some y12:=by
  have q:DataW.trod enc Try.prog W 0 (fun _=>true) true m24 9 (([c0_0,c0_1,c0_2,c0_3,c0_4,c0_5,c0_6,c0_7,c0_8,c0_9,c0_10].drop 0).take (Try.prog.cellsOf 9))=some y12:=F27 0 _ rfl
  rw [cells9] at q
  exact q
 obtain ⟨a0_0_0,e29,rfl,-⟩:=DataW.trod_string Try.underlying9 z28
 obtain rfl:=List.singleton_inj.1 e29
 have z30:DataW.trod enc Try.prog W 0 (fun _=>true) true m24 4 [c0_1]=some y13:=by
  have q:DataW.trod enc Try.prog W 0 (fun _=>true) true m24 4 (([Value.string a0_0_0,c0_1,c0_2,c0_3,c0_4,c0_5,c0_6,c0_7,c0_8,c0_9,c0_10].drop 1).take (Try.prog.cellsOf 4))=some y13:=F27 1 _ rfl
  rw [cells4] at q
  exact q
 obtain ⟨a0_0_1,e31,rfl⟩:=DataW.trod_bool Try.underlying4 z30
 obtain rfl:=List.singleton_inj.1 e31
 have z32:DataW.trod enc Try.prog W 0 (fun _=>true) true m24 4 [c0_2]=some y14:=by
  have q:DataW.trod enc Try.prog W 0 (fun _=>true) true m24 4 (([Value.string a0_0_0,Value.bool a0_0_1,c0_2,c0_3,c0_4,c0_5,c0_6,c0_7,c0_8,c0_9,c0_10].drop 2).take (Try.prog.cellsOf 4))=some y14:=F27 2 _ rfl
  rw [cells4] at q
  exact q
 obtain ⟨a0_0_2,e33,rfl⟩:=DataW.trod_bool Try.underlying4 z32
 obtain rfl:=List.singleton_inj.1 e33
 have z34:DataW.trod enc Try.prog W 0 (fun _=>true) true m24 4 [c0_3]=some y15:=by
  have q:DataW.trod enc Try.prog W 0 (fun _=>true) true m24 4 (([Value.string a0_0_0,Value.bool a0_0_1,Value.bool a0_0_2,c0_3,c0_4,c0_5,c0_6,c0_7,c0_8,c0_9,c0_10].drop 3).take (Try.prog.cellsOf 4))=some y15:=F27 3 _ rfl
  rw [cells4] at q
  exact q
 obtain ⟨a0_0_3,e35,rfl⟩:=DataW.trod_bool Try.underlying4 z34
 obtain rfl:=List.singleton_inj.1 e35
 have z36:DataW.trod enc Try.prog W 0 (fun _=>true) true m24 4 [c0_4]=some y16:=by
  have q:DataW.trod enc Try.prog W 0 (fun _=>true) true m24 4 (([Value.string a0_0_0,Value.bool a0_0_1,Value.bool a0_0_2,Value.bool a0_0_3,c0_4,c0_5,c0_6,c0_7,c0_8,c0_9,c0_10].drop 4).take (Try.prog.cellsOf 4))=some y16:=F27 4 _ rfl
  rw [cells4] at q
  exact q
 obtain ⟨a0_0_4,e37,rfl⟩:=DataW.trod_bool Try.underlying4 z36
 obtain rfl:=List.singleton_inj.1 e37
 have z38:DataW.trod enc Try.prog W 0 (fun _=>true) true m24 4 [c0_5]=some y17:=by
  have q:DataW.trod enc Try.prog W 0 (fun _=>true) true m24 4 (([Value.string a0_0_0,Value.bool a0_0_1,Value.bool a0_0_2,Value.bool a0_0_3,Value.bool a0_0_4,c0_5,c0_6,c0_7,c0_8,c0_9,c0_10].drop 5).take (Try.prog.cellsOf 4))=some y17:=F27 5 _ rfl
  rw [cells4] at q
  exact q
 obtain ⟨a0_0_5,e39,rfl⟩:=DataW.trod_bool Try.underlying4 z38
 obtain rfl:=List.singleton_inj.1 e39
 have z40:DataW.trod enc Try.prog W 0 (fun _=>true) true m24 4 [c0_6]=some y18:=by
  have q:DataW.trod enc Try.prog W 0 (fun _=>true) true m24 4 (([Value.string a0_0_0,Value.bool a0_0_1,Value.bool a0_0_2,Value.bool a0_0_3,Value.bool a0_0_4,Value.bool a0_0_5,c0_6,c0_7,c0_8,c0_9,c0_10].drop 6).take (Try.prog.cellsOf 4))=some y18:=F27 6 _ rfl
  rw [cells4] at q
  exact q
 obtain ⟨a0_0_6,e41,rfl⟩:=DataW.trod_bool Try.underlying4 z40
 obtain rfl:=List.singleton_inj.1 e41
 have z42:DataW.trod enc Try.prog W 0 (fun _=>true) true m24 22 [c0_7]=some y19:=by
  have q:DataW.trod enc Try.prog W 0 (fun _=>true) true m24 22 (([Value.string a0_0_0,Value.bool a0_0_1,Value.bool a0_0_2,Value.bool a0_0_3,Value.bool a0_0_4,Value.bool a0_0_5,Value.bool a0_0_6,c0_7,c0_8,c0_9,c0_10].drop 7).take (Try.prog.cellsOf 22))=some y19:=F27 7 _ rfl
  rw [cells22] at q
  exact q
 obtain ⟨a0_0_7_A,a0_0_7_n,a0_0_7_c,rfl⟩:=RowSl.isSlice Try.underlying22 z42
 obtain ⟨a0_0_7,ena0_0_7,lea0_0_7,mxa0_0_7,gda0_0_7,rda0_0_7⟩:=RowSl.strs Try.underlying22 Try.underlying9 (by kernel_rfl) z42
 subst ena0_0_7
 have z43:DataW.trod enc Try.prog W 0 (fun _=>true) true m24 22 [c0_8]=some y20:=by
  have q:DataW.trod enc Try.prog W 0 (fun _=>true) true m24 22 (([Value.string a0_0_0,Value.bool a0_0_1,Value.bool a0_0_2,Value.bool a0_0_3,Value.bool a0_0_4,Value.bool a0_0_5,Value.bool a0_0_6,Value.slice a0_0_7_A a0_0_7.length a0_0_7_c,c0_8,c0_9,c0_10].drop 8).take (Try.prog.cellsOf 22))=some y20:=F27 8 _ rfl
  rw [cells22] at q
  exact q
 obtain ⟨a0_0_8_A,a0_0_8_n,a0_0_8_c,rfl⟩:=RowSl.isSlice Try.underlying22 z43
 obtain ⟨a0_0_8,ena0_0_8,lea0_0_8,mxa0_0_8,gda0_0_8,rda0_0_8⟩:=RowSl.strs Try.underlying22 Try.underlying9 (by kernel_rfl) z43
 subst ena0_0_8
 have z44:DataW.trod enc Try.prog W 0 (fun _=>true) true m24 4 [c0_9]=some y21:=by
  have q:DataW.trod enc Try.prog W 0 (fun _=>true) true m24 4 (([Value.string a0_0_0,Value.bool a0_0_1,Value.bool a0_0_2,Value.bool a0_0_3,Value.bool a0_0_4,Value.bool a0_0_5,Value.bool a0_0_6,Value.slice a0_0_7_A a0_0_7.length a0_0_7_c,Value.slice a0_0_8_A a0_0_8.length a0_0_8_c,c0_9,c0_10].drop 9).take (Try.prog.cellsOf 4))=some y21:=F27 9 _ rfl
  rw [cells4] at q
  exact q
 obtain ⟨a0_0_9,e45,rfl⟩:=DataW.trod_bool Try.underlying4 z44
 obtain rfl:=List.singleton_inj.1 e45
 have z46:DataW.trod enc Try.prog W 0 (fun _=>true) true m24 23 [c0_10]=some y22:=by
  have q:DataW.trod enc Try.prog W 0 (fun _=>true) true m24 23 (([Value.string a0_0_0,Value.bool a0_0_1,Value.bool a0_0_2,Value.bool a0_0_3,Value.bool a0_0_4,Value.bool a0_0_5,Value.bool a0_0_6,Value.slice a0_0_7_A a0_0_7.length a0_0_7_c,Value.slice a0_0_8_A a0_0_8.length a0_0_8_c,Value.bool a0_0_9,c0_10].drop 10).take (Try.prog.cellsOf 23))=some y22:=F27 10 _ rfl
  rw [cells23] at q
  exact q
 obtain ⟨a0_0_10_A,a0_0_10_n,a0_0_10_c,rfl⟩:=RowSl.isSlice Try.underlying23 z46
 obtain ⟨a0_0_10,ena0_0_10,lea0_0_10,mxa0_0_10,gda0_0_10,rda0_0_10⟩:=RowSl.ints Try.underlying23 Try.underlying3 (by kernel_rfl) z46
 subst ena0_0_10
 have z47:DataW.trod enc Try.prog W 0 (fun _=>true) true m7 3 [c0_11]=some y2:=by
  have q:DataW.trod enc Try.prog W 0 (fun _=>true) true m7 3 (([Value.string a0_0_0,Value.bool a0_0_1,Value.bool a0_0_2,Value.bool a0_0_3,Value.bool a0_0_4,Value.bool a0_0_5,Value.bool a0_0_6,Value.slice a0_0_7_A a0_0_7.length a0_0_7_c,Value.slice a0_0_8_A a0_0_8.length a0_0_8_c,Value.bool a0_0_9,Value.slice a0_0_10_A a0_0_10.length a0_0_10_c,c0_11,c0_12,c0_13,c0_14,c0_15,c0_16,c0_17].drop 11).take (Try.prog.cellsOf 3))=some y2:=F10 1 _ rfl
  rw [cells3] at q
  exact q
 obtain ⟨a0_1,e48,rfl,wa0_1⟩:=DataW.trod_int Try.underlying3 z47
 obtain rfl:=List.singleton_inj.1 e48
 have z49:DataW.trod enc Try.prog W 0 (fun _=>true) true m7 3 [c0_12]=some y3:=by
  have q:DataW.trod enc Try.prog W 0 (fun _=>true) true m7 3 (([Value.string a0_0_0,Value.bool a0_0_1,Value.bool a0_0_2,Value.bool a0_0_3,Value.bool a0_0_4,Value.bool a0_0_5,Value.bool a0_0_6,Value.slice a0_0_7_A a0_0_7.length a0_0_7_c,Value.slice a0_0_8_A a0_0_8.length a0_0_8_c,Value.bool a0_0_9,Value.slice a0_0_10_A a0_0_10.length a0_0_10_c,Value.int .i64 a0_1,c0_12,c0_13,c0_14,c0_15,c0_16,c0_17].drop 12).take (Try.prog.cellsOf 3))=some y3:=F10 2 _ rfl
  rw [cells3] at q
  exact q
 obtain ⟨a0_2,e50,rfl,wa0_2⟩:=DataW.trod_int Try.underlying3 z49
 obtain rfl:=List.singleton_inj.1 e50
 have z51:DataW.trod enc Try.prog W 0 (fun _=>true) true m7 4 [c0_13]=some y4:=by
  have q:DataW.trod enc Try.prog W 0 (fun _=>true) true m7 4 (([Value.string a0_0_0,Value.bool a0_0_1,Value.bool a0_0_2,Value.bool a0_0_3,Value.bool a0_0_4,Value.bool a0_0_5,Value.bool a0_0_6,Value.slice a0_0_7_A a0_0_7.length a0_0_7_c,Value.slice a0_0_8_A a0_0_8.length a0_0_8_c,Value.bool a0_0_9,Value.slice a0_0_10_A a0_0_10.length a0_0_10_c,Value.int .i64 a0_1,Value.int .i64 a0_2,c0_13,c0_14,c0_15,c0_16,c0_17].drop 13).take (Try.prog.cellsOf 4))=some y4:=F10 3 _ rfl
  rw [cells4] at q
  exact q
 obtain ⟨a0_3,e52,rfl⟩:=DataW.trod_bool Try.underlying4 z51
 obtain rfl:=List.singleton_inj.1 e52
 have z53:DataW.trod enc Try.prog W 0 (fun _=>true) true m7 27 [c0_14,c0_15,c0_16,c0_17]=some y5:=by
  have q:DataW.trod enc Try.prog W 0 (fun _=>true) true m7 27 (([Value.string a0_0_0,Value.bool a0_0_1,Value.bool a0_0_2,Value.bool a0_0_3,Value.bool a0_0_4,Value.bool a0_0_5,Value.bool a0_0_6,Value.slice a0_0_7_A a0_0_7.length a0_0_7_c,Value.slice a0_0_8_A a0_0_8.length a0_0_8_c,Value.bool a0_0_9,Value.slice a0_0_10_A a0_0_10.length a0_0_10_c,Value.int .i64 a0_1,Value.int .i64 a0_2,Value.bool a0_3,c0_14,c0_15,c0_16,c0_17].drop 14).take (Try.prog.cellsOf 27))=some y5:=F10 4 _ rfl
  rw [cells27] at q
  exact q
 obtain ⟨xs58,m59,-,hx60,-,hl61,F62⟩:=DataW.trod_struct Try.underlying27 z53
 obtain ⟨y54,y55,y56,y57,rfl⟩:=list4 hl61
 subst hx60
 have z63:DataW.trod enc Try.prog W 0 (fun _=>true) true m59 3 [c0_14]=some y54:=by
  have q:DataW.trod enc Try.prog W 0 (fun _=>true) true m59 3 (([c0_14,c0_15,c0_16,c0_17].drop 0).take (Try.prog.cellsOf 3))=some y54:=F62 0 _ rfl
  rw [cells3] at q
  exact q
 obtain ⟨a0_4_0,e64,rfl,wa0_4_0⟩:=DataW.trod_int Try.underlying3 z63
 obtain rfl:=List.singleton_inj.1 e64
 have z65:DataW.trod enc Try.prog W 0 (fun _=>true) true m59 23 [c0_15]=some y55:=by
  have q:DataW.trod enc Try.prog W 0 (fun _=>true) true m59 23 (([Value.int .i64 a0_4_0,c0_15,c0_16,c0_17].drop 1).take (Try.prog.cellsOf 23))=some y55:=F62 1 _ rfl
  rw [cells23] at q
  exact q
 obtain ⟨a0_4_1_A,a0_4_1_n,a0_4_1_c,rfl⟩:=RowSl.isSlice Try.underlying23 z65
 obtain ⟨a0_4_1,ena0_4_1,lea0_4_1,mxa0_4_1,gda0_4_1,rda0_4_1⟩:=RowSl.ints Try.underlying23 Try.underlying3 (by kernel_rfl) z65
 subst ena0_4_1
 have z66:DataW.trod enc Try.prog W 0 (fun _=>true) true m59 9 [c0_16]=some y56:=by
  have q:DataW.trod enc Try.prog W 0 (fun _=>true) true m59 9 (([Value.int .i64 a0_4_0,Value.slice a0_4_1_A a0_4_1.length a0_4_1_c,c0_16,c0_17].drop 2).take (Try.prog.cellsOf 9))=some y56:=F62 2 _ rfl
  rw [cells9] at q
  exact q
 obtain ⟨a0_4_2,e67,rfl,-⟩:=DataW.trod_string Try.underlying9 z66
 obtain rfl:=List.singleton_inj.1 e67
 have z68:DataW.trod enc Try.prog W 0 (fun _=>true) true m59 3 [c0_17]=some y57:=by
  have q:DataW.trod enc Try.prog W 0 (fun _=>true) true m59 3 (([Value.int .i64 a0_4_0,Value.slice a0_4_1_A a0_4_1.length a0_4_1_c,Value.string a0_4_2,c0_17].drop 3).take (Try.prog.cellsOf 3))=some y57:=F62 3 _ rfl
  rw [cells3] at q
  exact q
 obtain ⟨a0_4_3,e69,rfl,wa0_4_3⟩:=DataW.trod_int Try.underlying3 z68
 obtain rfl:=List.singleton_inj.1 e69
 obtain ⟨ar1,rfl,hz1⟩:=okWide_struct Try.underlying37 (hval 1 37 v1 rfl rfl)
 have hz1':ar1.toList.length=11:=by rw [Array.length_toList,hz1,cells37]
 obtain ⟨c1_0,c1_1,c1_2,c1_3,c1_4,c1_5,c1_6,c1_7,c1_8,c1_9,c1_10,hc1⟩:=list11 hz1'
 obtain rfl:ar1=#[c1_0,c1_1,c1_2,c1_3,c1_4,c1_5,c1_6,c1_7,c1_8,c1_9,c1_10]:=by rw [← Array.toList_inj];exact hc1
 clear hc1 hz1 hz1'
 obtain ⟨fu1,hf1⟩:=h1
 have hf1':DataW.trod enc Try.prog W 0 (fun _=>true) true fu1 37 [c1_0,c1_1,c1_2,c1_3,c1_4,c1_5,c1_6,c1_7,c1_8,c1_9,c1_10]=some (d1,p1):=hf1
 clear hf1
 obtain ⟨xs78,m79,-,hx80,-,hl81,F82⟩:=DataW.trod_struct Try.underlying37 hf1'
 obtain ⟨y70,y71,y72,y73,y74,y75,y76,y77,rfl⟩:=list8 hl81
 simp only [Prod.mk.injEq] at hx80
 obtain ⟨rfl,rfl⟩:=hx80
 have z83:DataW.trod enc Try.prog W 0 (fun _=>true) true m79 3 [c1_0]=some y70:=by
  have q:DataW.trod enc Try.prog W 0 (fun _=>true) true m79 3 (([c1_0,c1_1,c1_2,c1_3,c1_4,c1_5,c1_6,c1_7,c1_8,c1_9,c1_10].drop 0).take (Try.prog.cellsOf 3))=some y70:=F82 0 _ rfl
  rw [cells3] at q
  exact q
 obtain ⟨a1_0,e84,rfl,wa1_0⟩:=DataW.trod_int Try.underlying3 z83
 obtain rfl:=List.singleton_inj.1 e84
 have z85:DataW.trod enc Try.prog W 0 (fun _=>true) true m79 3 [c1_1]=some y71:=by
  have q:DataW.trod enc Try.prog W 0 (fun _=>true) true m79 3 (([Value.int .i64 a1_0,c1_1,c1_2,c1_3,c1_4,c1_5,c1_6,c1_7,c1_8,c1_9,c1_10].drop 1).take (Try.prog.cellsOf 3))=some y71:=F82 1 _ rfl
  rw [cells3] at q
  exact q
 obtain ⟨a1_1,e86,rfl,wa1_1⟩:=DataW.trod_int Try.underlying3 z85
 obtain rfl:=List.singleton_inj.1 e86
 have z87:DataW.trod enc Try.prog W 0 (fun _=>true) true m79 3 [c1_2]=some y72:=by
  have q:DataW.trod enc Try.prog W 0 (fun _=>true) true m79 3 (([Value.int .i64 a1_0,Value.int .i64 a1_1,c1_2,c1_3,c1_4,c1_5,c1_6,c1_7,c1_8,c1_9,c1_10].drop 2).take (Try.prog.cellsOf 3))=some y72:=F82 2 _ rfl
  rw [cells3] at q
  exact q
 obtain ⟨a1_2,e88,rfl,wa1_2⟩:=DataW.trod_int Try.underlying3 z87
 obtain rfl:=List.singleton_inj.1 e88
 have z89:DataW.trod enc Try.prog W 0 (fun _=>true) true m79 4 [c1_3]=some y73:=by
  have q:DataW.trod enc Try.prog W 0 (fun _=>true) true m79 4 (([Value.int .i64 a1_0,Value.int .i64 a1_1,Value.int .i64 a1_2,c1_3,c1_4,c1_5,c1_6,c1_7,c1_8,c1_9,c1_10].drop 3).take (Try.prog.cellsOf 4))=some y73:=F82 3 _ rfl
  rw [cells4] at q
  exact q
 obtain ⟨a1_3,e90,rfl⟩:=DataW.trod_bool Try.underlying4 z89
 obtain rfl:=List.singleton_inj.1 e90
 have z91:DataW.trod enc Try.prog W 0 (fun _=>true) true m79 22 [c1_4]=some y74:=by
  have q:DataW.trod enc Try.prog W 0 (fun _=>true) true m79 22 (([Value.int .i64 a1_0,Value.int .i64 a1_1,Value.int .i64 a1_2,Value.bool a1_3,c1_4,c1_5,c1_6,c1_7,c1_8,c1_9,c1_10].drop 4).take (Try.prog.cellsOf 22))=some y74:=F82 4 _ rfl
  rw [cells22] at q
  exact q
 obtain ⟨a1_4_A,a1_4_n,a1_4_c,rfl⟩:=RowSl.isSlice Try.underlying22 z91
 obtain ⟨a1_4,ena1_4,lea1_4,mxa1_4,gda1_4,rda1_4⟩:=RowSl.strs Try.underlying22 Try.underlying9 (by kernel_rfl) z91
 subst ena1_4
 have z92:DataW.trod enc Try.prog W 0 (fun _=>true) true m79 22 [c1_5]=some y75:=by
  have q:DataW.trod enc Try.prog W 0 (fun _=>true) true m79 22 (([Value.int .i64 a1_0,Value.int .i64 a1_1,Value.int .i64 a1_2,Value.bool a1_3,Value.slice a1_4_A a1_4.length a1_4_c,c1_5,c1_6,c1_7,c1_8,c1_9,c1_10].drop 5).take (Try.prog.cellsOf 22))=some y75:=F82 5 _ rfl
  rw [cells22] at q
  exact q
 obtain ⟨a1_5_A,a1_5_n,a1_5_c,rfl⟩:=RowSl.isSlice Try.underlying22 z92
 obtain ⟨a1_5,ena1_5,lea1_5,mxa1_5,gda1_5,rda1_5⟩:=RowSl.strs Try.underlying22 Try.underlying9 (by kernel_rfl) z92
 subst ena1_5
 have z93:DataW.trod enc Try.prog W 0 (fun _=>true) true m79 9 [c1_6]=some y76:=by
  have q:DataW.trod enc Try.prog W 0 (fun _=>true) true m79 9 (([Value.int .i64 a1_0,Value.int .i64 a1_1,Value.int .i64 a1_2,Value.bool a1_3,Value.slice a1_4_A a1_4.length a1_4_c,Value.slice a1_5_A a1_5.length a1_5_c,c1_6,c1_7,c1_8,c1_9,c1_10].drop 6).take (Try.prog.cellsOf 9))=some y76:=F82 6 _ rfl
  rw [cells9] at q
  exact q
 obtain ⟨a1_6,e94,rfl,-⟩:=DataW.trod_string Try.underlying9 z93
 obtain rfl:=List.singleton_inj.1 e94
 have z95:DataW.trod enc Try.prog W 0 (fun _=>true) true m79 27 [c1_7,c1_8,c1_9,c1_10]=some y77:=by
  have q:DataW.trod enc Try.prog W 0 (fun _=>true) true m79 27 (([Value.int .i64 a1_0,Value.int .i64 a1_1,Value.int .i64 a1_2,Value.bool a1_3,Value.slice a1_4_A a1_4.length a1_4_c,Value.slice a1_5_A a1_5.length a1_5_c,Value.string a1_6,c1_7,c1_8,c1_9,c1_10].drop 7).take (Try.prog.cellsOf 27))=some y77:=F82 7 _ rfl
  rw [cells27] at q
  exact q
 obtain ⟨xs100,m101,-,hx102,-,hl103,F104⟩:=DataW.trod_struct Try.underlying27 z95
 obtain ⟨y96,y97,y98,y99,rfl⟩:=list4 hl103
 subst hx102
 have z105:DataW.trod enc Try.prog W 0 (fun _=>true) true m101 3 [c1_7]=some y96:=by
  have q:DataW.trod enc Try.prog W 0 (fun _=>true) true m101 3 (([c1_7,c1_8,c1_9,c1_10].drop 0).take (Try.prog.cellsOf 3))=some y96:=F104 0 _ rfl
  rw [cells3] at q
  exact q
 obtain ⟨a1_7_0,e106,rfl,wa1_7_0⟩:=DataW.trod_int Try.underlying3 z105
 obtain rfl:=List.singleton_inj.1 e106
 have z107:DataW.trod enc Try.prog W 0 (fun _=>true) true m101 23 [c1_8]=some y97:=by
  have q:DataW.trod enc Try.prog W 0 (fun _=>true) true m101 23 (([Value.int .i64 a1_7_0,c1_8,c1_9,c1_10].drop 1).take (Try.prog.cellsOf 23))=some y97:=F104 1 _ rfl
  rw [cells23] at q
  exact q
 obtain ⟨a1_7_1_A,a1_7_1_n,a1_7_1_c,rfl⟩:=RowSl.isSlice Try.underlying23 z107
 obtain ⟨a1_7_1,ena1_7_1,lea1_7_1,mxa1_7_1,gda1_7_1,rda1_7_1⟩:=RowSl.ints Try.underlying23 Try.underlying3 (by kernel_rfl) z107
 subst ena1_7_1
 have z108:DataW.trod enc Try.prog W 0 (fun _=>true) true m101 9 [c1_9]=some y98:=by
  have q:DataW.trod enc Try.prog W 0 (fun _=>true) true m101 9 (([Value.int .i64 a1_7_0,Value.slice a1_7_1_A a1_7_1.length a1_7_1_c,c1_9,c1_10].drop 2).take (Try.prog.cellsOf 9))=some y98:=F104 2 _ rfl
  rw [cells9] at q
  exact q
 obtain ⟨a1_7_2,e109,rfl,-⟩:=DataW.trod_string Try.underlying9 z108
 obtain rfl:=List.singleton_inj.1 e109
 have z110:DataW.trod enc Try.prog W 0 (fun _=>true) true m101 3 [c1_10]=some y99:=by
  have q:DataW.trod enc Try.prog W 0 (fun _=>true) true m101 3 (([Value.int .i64 a1_7_0,Value.slice a1_7_1_A a1_7_1.length a1_7_1_c,Value.string a1_7_2,c1_10].drop 3).take (Try.prog.cellsOf 3))=some y99:=F104 3 _ rfl
  rw [cells3] at q
  exact q
 obtain ⟨a1_7_3,e111,rfl,wa1_7_3⟩:=DataW.trod_int Try.underlying3 z110
 obtain rfl:=List.singleton_inj.1 e111
 have hw:a0_0_0.size≤140737488351232∧a0_4_2.size≤140737488351232∧a1_6.size≤140737488351232∧a1_7_2.size≤140737488351232:=by
  have z:=List.all_eq_true.1 hsz
  have y:∀ s:ByteArray,s.data.toList.length∈DataW.weightsEach Try.prog (#[29,37].toList ++ Rows.controlSetsSpec.plain.varTypes Try.prog) ([_,_] ++ [])→s.size≤140737488351232:=fun s hs=>by have:=of_decide_eq_true (z _ hs);rw [Array.length_toList] at this;exact this
  refine ⟨y _ ?_,y _ ?_,y _ ?_,y _ ?_⟩
  all_goals simp [DataW.weightsEach,DataW.weights,Try.underlying3,Try.underlying4,Try.underlying9,Try.underlying22,Try.underlying23,Try.underlying25,Try.underlying27,Try.underlying29,Try.underlying37]
 have lna1_4:a1_4.length * 16≤140737488351232:=by
  have z:=List.all_eq_true.1 hsz
  refine RowSl.lens (R:=140737488351232) _ Try.underlying22 (by kernel_rfl) z91 (fun k hk=>?_)
  refine of_decide_eq_true (z k ?_)
  simp only [DataW.weightsEach,DataW.weights,List.append_nil,List.cons_append,List.nil_append,Try.underlying3,Try.underlying4,Try.underlying9,Try.underlying22,Try.underlying23,Try.underlying25,Try.underlying27,Try.underlying29,Try.underlying37,List.mem_append,Array.toList_map,List.map_cons,List.map_nil]
  simp [hk]
 have lna1_5:a1_5.length * 16≤140737488351232:=by
  have z:=List.all_eq_true.1 hsz
  refine RowSl.lens (R:=140737488351232) _ Try.underlying22 (by kernel_rfl) z92 (fun k hk=>?_)
  refine of_decide_eq_true (z k ?_)
  simp only [DataW.weightsEach,DataW.weights,List.append_nil,List.cons_append,List.nil_append,Try.underlying3,Try.underlying4,Try.underlying9,Try.underlying22,Try.underlying23,Try.underlying25,Try.underlying27,Try.underlying29,Try.underlying37,List.mem_append,Array.toList_map,List.map_cons,List.map_nil]
  simp [hk]
 have lna1_7_1:a1_7_1.length * 8≤140737488351232:=by
  have z:=List.all_eq_true.1 hsz
  refine RowSl.lens (R:=140737488351232) _ Try.underlying23 (by kernel_rfl) z107 (fun k hk=>?_)
  refine of_decide_eq_true (z k ?_)
  simp only [DataW.weightsEach,DataW.weights,List.append_nil,List.cons_append,List.nil_append,Try.underlying3,Try.underlying4,Try.underlying9,Try.underlying22,Try.underlying23,Try.underlying25,Try.underlying27,Try.underlying29,Try.underlying37,List.mem_append,Array.toList_map,List.map_cons,List.map_nil]
  simp [hk]
 clear hA0 hval0 hsz0 hsz
 refine (Hand.ControlSets ⟨a0_0_0,a0_0_1,a0_0_2,a0_0_3,a0_0_4,a0_0_5,a0_0_6,a0_0_7,a0_0_8,a0_0_9,a0_0_10,a0_1,a0_2,a0_3,a0_4_0,a0_4_1,a0_4_2,a0_4_3⟩ ⟨a0_0_7_A,a0_0_7_c,a0_0_8_A,a0_0_8_c,a0_0_10_A,a0_0_10_c,a0_4_1_A,a0_4_1_c⟩ ⟨a1_0,a1_1,a1_2,a1_3,a1_4,a1_5,a1_6,a1_7_0,a1_7_1,a1_7_2,a1_7_3⟩ ⟨a1_4_A,a1_4_c,a1_5_A,a1_5_c,a1_7_1_A,a1_7_1_c⟩ W ⟨rda0_0_7,rda0_0_8,rda0_0_10,rda0_4_1,lea0_0_7,lea0_0_8,lea0_0_10,lea0_4_1⟩ ⟨rda1_4,rda1_5,rda1_7_1,lea1_4,lea1_5,lea1_7_1⟩ ⟨lna1_4,lna1_5,lna1_7_1,hw.2.2.1,hw.2.2.2⟩).mono fun e W' ⟨he,bel⟩=>?_
 subst he
 exact ⟨_,rfl,_,_,_,[],_,[],hW',trodAll_mk1 (shut_bool Try.underlying4 _),(trodAll_cons_mk (Below.trod laidOut (by kernel_rfl) (of_decide_eq_true (by kernel_rfl)) k0 bel hl0) (trodAll_cons_mk (Below.trod laidOut (by kernel_rfl) (of_decide_eq_true (by kernel_rfl)) k1 bel hl1) trodAll_mk0)),rfl,bel.frame _,fun h=>by cases h⟩
theorem over:Rows.controlSetsRow.holds Try.pinned (OpenSpec.ofChange Rows.controlSetsSpec) :=
 OpenClaim.holds_of_wide 6 Try.f6 rfl rfl rfl rfl rfl rfl rfl ⟨rfl,rfl,rfl,rfl,rfl⟩ rfl rfl rfl rfl rfl (by kernel_rfl) Try.func6 (by kernel_rfl)
  (of_decide_eq_true (by kernel_rfl)) (by unfold Func.isWrapper;first | (rw [if_pos (by decide +kernel)];kernel_rfl) | (rw [if_neg (by decide +kernel)];exact ⟨rfl,rfl⟩))
  (fun os started H enc _=>lifted os started H enc)
theorem proved:Rows.ControlSetsSaid:=over
end Go.Proofs.Ytkgbhlcbjflnlaa.controlSets
namespace Go.Proofs.Ytkgbhlcbjflnlaa
/-- The row, under a short name, for the claim. -/
theorem controlSets_holds:Rows.ControlSetsSaid:=controlSets.proved
end Go.Proofs.Ytkgbhlcbjflnlaa
