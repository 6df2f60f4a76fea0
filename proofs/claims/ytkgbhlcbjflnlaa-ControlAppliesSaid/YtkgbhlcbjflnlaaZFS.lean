/- Commands and settings: contracts by hand, and the laws over them. -/
import Derived.Test.YtkgbhlcbjflnlaaZG1
import Derived.Test.YtkgbhlcbjflnlaaZG27
import Derived.Test.YtkgbhlcbjflnlaaZFN
namespace Go.Proofs.Ytkgbhlcbjflnlaa.Fl
open Go Go.RowKit Go.Proofs.YtkgbhlcbjflnlaaW.PrintWords Go.Proofs.YtkgbhlcbjflnlaaW.PrintLast Go.Proofs.YtkgbhlcbjflnlaaW.PrintMore Go.Proofs.Ytkgbhlcbjflnlaa.Mth Go.Proofs.Ytkgbhlcbjflnlaa.P Go.Proofs.Ytkgbhlcbjflnlaa.Own Go.Proofs
set_option linter.unusedVariables false
set_option linter.unusedSimpArgs false
theorem flt_results31 (tmps:Array Value) (w:World) (g:Nat) (c0 c1 c2 c3 c4 c5 c6 c7 c8 c9 c10 r:Value) (hp:tmps.getD 6 undef=.pointer (some ⟨g,0,none⟩)) (hr:tmps.getD 7 undef=r) (hg:w.heap[g]?=some (.cells #[c0,c1,c2,c3,c4,c5,c6,c7,c8,c9,c10] 25 (0,0))) :
  (results Try.f31 tmps).run Try.prog w=.ok (.tuple #[.agg #[c0,c1,c2,c3,c4,c5,c6,c7,c8,c9,c10],r]) w:=by
 have h1:tmps[6]?.getD undef=.pointer (some ⟨g,0,none⟩):=by simpa using hp
 have h2:tmps[7]?.getD undef=r:=by simpa using hr
 have a0:w.cell? ⟨g,0,none⟩=some c0:=(bkc hg 0).trans rfl
 have a1:w.cell? ⟨g,1,none⟩=some c1:=(bkc hg 1).trans rfl
 have a2:w.cell? ⟨g,2,none⟩=some c2:=(bkc hg 2).trans rfl
 have a3:w.cell? ⟨g,3,none⟩=some c3:=(bkc hg 3).trans rfl
 have a4:w.cell? ⟨g,4,none⟩=some c4:=(bkc hg 4).trans rfl
 have a5:w.cell? ⟨g,5,none⟩=some c5:=(bkc hg 5).trans rfl
 have a6:w.cell? ⟨g,6,none⟩=some c6:=(bkc hg 6).trans rfl
 have a7:w.cell? ⟨g,7,none⟩=some c7:=(bkc hg 7).trans rfl
 have a8:w.cell? ⟨g,8,none⟩=some c8:=(bkc hg 8).trans rfl
 have a9:w.cell? ⟨g,9,none⟩=some c9:=(bkc hg 9).trans rfl
 have a10:w.cell? ⟨g,10,none⟩=some c10:=(bkc hg 10).trans rfl
 have hu:=Try.underlying25
 simp [results,Try.results31,h1,h2,asAddr,go_sem,a0,a1,a2,a3,a4,a5,a6,a7,a8,a9,a10]
theorem own_empty3 (w:World) (b:Nat) (hb:b≤w.heap.size):(w.alloc (.cells #[] 3)).ownsRow b 3 1 (.slice (some ⟨w.heap.size,0,none⟩) 0 0) ([]:List Int).length (encs (Value.int .i64) []) :=
 own_lit_of (enc:=Value.int .i64) w b 3 [] hb (by decide)
theorem inf3:(Try.prog.info? 3).map (fun i=>(i.zero,i.size,i.bytes))=some (some (.int .i64 0),1,8):=by kernel_rfl
set_option maxHeartbeats 8000000 in
set_option maxRecDepth 100000 in
theorem set_n1 (m:ByteArray) (b1 b2 b3 b4 b5 b6:Bool) (A7:Option Addr) (c7:Nat) (us:List ByteArray) (A8:Option Addr) (c8:Nat) (ms:List ByteArray) (b9:Bool) (A10:Option Addr) (c10:Nat) (vs:List Int) (n:Int) (is:Bool) (w:World) (h10:ReadsOf (Value.int .i64) 0 w A10 vs.length vs) (hc10:vs.length≤c10) (hs10:vs.length≤100000) (e:n < 0) :
  Calls Try.prog 31 #[.agg #[.string m,.bool b1,.bool b2,.bool b3,.bool b4,.bool b5,.bool b6,.slice A7 us.length c7,.slice A8 ms.length c8,.bool b9,.slice A10 vs.length c10],.int .i64 n,.bool is] w fun e w'=>e=.returned (.tuple #[.agg #[.string ⟨#[]⟩,.bool false,.bool false,.bool false,.bool false,.bool false,.bool false,.slice none 0 0,.slice none 0 0,.bool false,.slice none 0 0],.int .i64 1])∧Below w.heap.size w w':=by
 have R10:=amk h10
 clear h10
 have t1:decide (n < 0)=true:=decide_eq_true e
 clear e
 have hu:=Try.underlying25
 go_enter Try.func31,Try.ntmps31
 go_upto_region 1 with (fail)
 obtain ⟨wa,hwa⟩:∃ wa,(w.alloc (.cells #[.string m,.bool b1,.bool b2,.bool b3,.bool b4,.bool b5,.bool b6,.slice A7 us.length c7,.slice A8 ms.length c8,.bool b9,.slice A10 vs.length c10] 25))=wa:=⟨_,rfl⟩
 have za:wa.heap.size=w.heap.size+1:=by rw [← hwa];simp
 obtain ⟨w1,hw1⟩:∃ w1,wa.alloc (.cells #[.string ⟨#[]⟩,.bool false,.bool false,.bool false,.bool false,.bool false,.bool false,.slice none 0 0,.slice none 0 0,.bool false,.slice none 0 0] 25)=w1:=⟨_,rfl⟩
 have B1:Aside0 (Below w.heap.size w w1):=⟨by rw [← hw1,← hwa];exact bwa (bwa (Below.refl _ _) _) _⟩
 have BK:Aside0 (w1.heap[w.heap.size]?=some (.cells #[.string m,.bool b1,.bool b2,.bool b3,.bool b4,.bool b5,.bool b6,.slice A7 us.length c7,.slice A8 ms.length c8,.bool b9,.slice A10 vs.length c10] 25 (0,0))):=⟨by rw [← hw1,← hwa];exact bka (blk_new w _) _⟩
 have BL:Aside0 (w1.heap[w.heap.size+1]?=some (.cells #[.string ⟨#[]⟩,.bool false,.bool false,.bool false,.bool false,.bool false,.bool false,.slice none 0 0,.slice none 0 0,.bool false,.slice none 0 0] 25 (0,0))):=⟨by rw [← hw1];have q:=blk_new wa (.cells #[.string ⟨#[]⟩,.bool false,.bool false,.bool false,.bool false,.bool false,.bool false,.slice none 0 0,.slice none 0 0,.bool false,.slice none 0 0] 25);rw [za] at q;exact q⟩
 rw [hwa,hw1]
 clear hwa za hw1
 obtain ⟨g,hg⟩:∃ g,w.heap.size=g:=⟨_,rfl⟩
 have HGG:=amk (Nat.le_of_eq hg)
 rw [hg] at BK BL
 rw [hg]
 clear hg
 have qc0:w1.cell? ⟨g+1,0,none⟩=some (.string ⟨#[]⟩):=(bkc BL.out 0).trans rfl
 have qf0:=bkf BL.out 0
 have qc1:w1.cell? ⟨g+1,1,none⟩=some (.bool false):=(bkc BL.out 1).trans rfl
 have qf1:=bkf BL.out 1
 have qc2:w1.cell? ⟨g+1,2,none⟩=some (.bool false):=(bkc BL.out 2).trans rfl
 have qf2:=bkf BL.out 2
 have qc3:w1.cell? ⟨g+1,3,none⟩=some (.bool false):=(bkc BL.out 3).trans rfl
 have qf3:=bkf BL.out 3
 have qc4:w1.cell? ⟨g+1,4,none⟩=some (.bool false):=(bkc BL.out 4).trans rfl
 have qf4:=bkf BL.out 4
 have qc5:w1.cell? ⟨g+1,5,none⟩=some (.bool false):=(bkc BL.out 5).trans rfl
 have qf5:=bkf BL.out 5
 have qc6:w1.cell? ⟨g+1,6,none⟩=some (.bool false):=(bkc BL.out 6).trans rfl
 have qf6:=bkf BL.out 6
 have qc7:w1.cell? ⟨g+1,7,none⟩=some (.slice none 0 0):=(bkc BL.out 7).trans rfl
 have qf7:=bkf BL.out 7
 have qc8:w1.cell? ⟨g+1,8,none⟩=some (.slice none 0 0):=(bkc BL.out 8).trans rfl
 have qf8:=bkf BL.out 8
 have qc9:w1.cell? ⟨g+1,9,none⟩=some (.bool false):=(bkc BL.out 9).trans rfl
 have qf9:=bkf BL.out 9
 have qc10:w1.cell? ⟨g+1,10,none⟩=some (.slice none 0 0):=(bkc BL.out 10).trans rfl
 have qf10:=bkf BL.out 10
 go_wp2_with fail
 clear qc0 qf0 qc1 qf1 qc2 qf2 qc3 qf3 qc4 qf4 qc5 qf5 qc6 qf6 qc7 qf7 qc8 qf8 qc9 qf9 qc10 qf10
 obtain ⟨w9,hw9,BK9,U9⟩:=flt_stored (g+1) w1 (.string ⟨#[]⟩) (.bool false) (.bool false) (.bool false) (.bool false) (.bool false) (.bool false) (.slice none 0 0) (.slice none 0 0) (.bool false) (.slice none 0 0) _ _ _ _ _ _ _ _ _ _ _ BL.out
 rw [hw9]
 clear hw9
 exact bodyPost_ret (flt_results31 _ w9 (g+1) _ _ _ _ _ _ _ _ _ _ _ _ rfl rfl BK9) rfl ⟨rfl,B1.out.trans (U9.toBelow (B:=w.heap.size) (fun k hk=>by rw [hk];have:=HGG.out;omega) B1.out.size)⟩

set_option maxHeartbeats 8000000 in
set_option maxRecDepth 100000 in
theorem set_n2 (m:ByteArray) (b1 b2 b3 b4 b5 b6:Bool) (A7:Option Addr) (c7:Nat) (us:List ByteArray) (A8:Option Addr) (c8:Nat) (ms:List ByteArray) (b9:Bool) (A10:Option Addr) (c10:Nat) (vs:List Int) (n:Int) (is:Bool) (w:World) (h10:ReadsOf (Value.int .i64) 0 w A10 vs.length vs) (hc10:vs.length≤c10) (hs10:vs.length≤100000) (e0:0≤n) (e:4094 < n) :
  Calls Try.prog 31 #[.agg #[.string m,.bool b1,.bool b2,.bool b3,.bool b4,.bool b5,.bool b6,.slice A7 us.length c7,.slice A8 ms.length c8,.bool b9,.slice A10 vs.length c10],.int .i64 n,.bool is] w fun e w'=>e=.returned (.tuple #[.agg #[.string ⟨#[]⟩,.bool false,.bool false,.bool false,.bool false,.bool false,.bool false,.slice none 0 0,.slice none 0 0,.bool false,.slice none 0 0],.int .i64 1])∧Below w.heap.size w w':=by
 have R10:=amk h10
 clear h10
 have t1:decide (n < 0)=false:=decide_eq_false (by omega)
 have t2:decide (4094 < n)=true:=decide_eq_true e
 clear e e0
 have hu:=Try.underlying25
 go_enter Try.func31,Try.ntmps31
 go_upto_region 1 with (fail)
 obtain ⟨wa,hwa⟩:∃ wa,(w.alloc (.cells #[.string m,.bool b1,.bool b2,.bool b3,.bool b4,.bool b5,.bool b6,.slice A7 us.length c7,.slice A8 ms.length c8,.bool b9,.slice A10 vs.length c10] 25))=wa:=⟨_,rfl⟩
 have za:wa.heap.size=w.heap.size+1:=by rw [← hwa];simp
 obtain ⟨w1,hw1⟩:∃ w1,wa.alloc (.cells #[.string ⟨#[]⟩,.bool false,.bool false,.bool false,.bool false,.bool false,.bool false,.slice none 0 0,.slice none 0 0,.bool false,.slice none 0 0] 25)=w1:=⟨_,rfl⟩
 have B1:Aside0 (Below w.heap.size w w1):=⟨by rw [← hw1,← hwa];exact bwa (bwa (Below.refl _ _) _) _⟩
 have BK:Aside0 (w1.heap[w.heap.size]?=some (.cells #[.string m,.bool b1,.bool b2,.bool b3,.bool b4,.bool b5,.bool b6,.slice A7 us.length c7,.slice A8 ms.length c8,.bool b9,.slice A10 vs.length c10] 25 (0,0))):=⟨by rw [← hw1,← hwa];exact bka (blk_new w _) _⟩
 have BL:Aside0 (w1.heap[w.heap.size+1]?=some (.cells #[.string ⟨#[]⟩,.bool false,.bool false,.bool false,.bool false,.bool false,.bool false,.slice none 0 0,.slice none 0 0,.bool false,.slice none 0 0] 25 (0,0))):=⟨by rw [← hw1];have q:=blk_new wa (.cells #[.string ⟨#[]⟩,.bool false,.bool false,.bool false,.bool false,.bool false,.bool false,.slice none 0 0,.slice none 0 0,.bool false,.slice none 0 0] 25);rw [za] at q;exact q⟩
 rw [hwa,hw1]
 clear hwa za hw1
 obtain ⟨g,hg⟩:∃ g,w.heap.size=g:=⟨_,rfl⟩
 have HGG:=amk (Nat.le_of_eq hg)
 rw [hg] at BK BL
 rw [hg]
 clear hg
 have qc0:w1.cell? ⟨g+1,0,none⟩=some (.string ⟨#[]⟩):=(bkc BL.out 0).trans rfl
 have qf0:=bkf BL.out 0
 have qc1:w1.cell? ⟨g+1,1,none⟩=some (.bool false):=(bkc BL.out 1).trans rfl
 have qf1:=bkf BL.out 1
 have qc2:w1.cell? ⟨g+1,2,none⟩=some (.bool false):=(bkc BL.out 2).trans rfl
 have qf2:=bkf BL.out 2
 have qc3:w1.cell? ⟨g+1,3,none⟩=some (.bool false):=(bkc BL.out 3).trans rfl
 have qf3:=bkf BL.out 3
 have qc4:w1.cell? ⟨g+1,4,none⟩=some (.bool false):=(bkc BL.out 4).trans rfl
 have qf4:=bkf BL.out 4
 have qc5:w1.cell? ⟨g+1,5,none⟩=some (.bool false):=(bkc BL.out 5).trans rfl
 have qf5:=bkf BL.out 5
 have qc6:w1.cell? ⟨g+1,6,none⟩=some (.bool false):=(bkc BL.out 6).trans rfl
 have qf6:=bkf BL.out 6
 have qc7:w1.cell? ⟨g+1,7,none⟩=some (.slice none 0 0):=(bkc BL.out 7).trans rfl
 have qf7:=bkf BL.out 7
 have qc8:w1.cell? ⟨g+1,8,none⟩=some (.slice none 0 0):=(bkc BL.out 8).trans rfl
 have qf8:=bkf BL.out 8
 have qc9:w1.cell? ⟨g+1,9,none⟩=some (.bool false):=(bkc BL.out 9).trans rfl
 have qf9:=bkf BL.out 9
 have qc10:w1.cell? ⟨g+1,10,none⟩=some (.slice none 0 0):=(bkc BL.out 10).trans rfl
 have qf10:=bkf BL.out 10
 go_wp2_with fail
 clear qc0 qf0 qc1 qf1 qc2 qf2 qc3 qf3 qc4 qf4 qc5 qf5 qc6 qf6 qc7 qf7 qc8 qf8 qc9 qf9 qc10 qf10
 obtain ⟨w9,hw9,BK9,U9⟩:=flt_stored (g+1) w1 (.string ⟨#[]⟩) (.bool false) (.bool false) (.bool false) (.bool false) (.bool false) (.bool false) (.slice none 0 0) (.slice none 0 0) (.bool false) (.slice none 0 0) _ _ _ _ _ _ _ _ _ _ _ BL.out
 rw [hw9]
 clear hw9
 exact bodyPost_ret (flt_results31 _ w9 (g+1) _ _ _ _ _ _ _ _ _ _ _ _ rfl rfl BK9) rfl ⟨rfl,B1.out.trans (U9.toBelow (B:=w.heap.size) (fun k hk=>by rw [hk];have:=HGG.out;omega) B1.out.size)⟩

set_option maxHeartbeats 8000000 in
set_option maxRecDepth 100000 in
theorem set_n3 (m:ByteArray) (b1 b2 b3 b4 b5 b6:Bool) (A7:Option Addr) (c7:Nat) (us:List ByteArray) (A8:Option Addr) (c8:Nat) (ms:List ByteArray) (b9:Bool) (A10:Option Addr) (c10:Nat) (vs:List Int) (n:Int) (is:Bool) (w:World) (h10:ReadsOf (Value.int .i64) 0 w A10 vs.length vs) (hc10:vs.length≤c10) (hs10:vs.length≤100000) (e0:0≤n) (e1:n≤4094) (e:netsS vs=false) :
  Calls Try.prog 31 #[.agg #[.string m,.bool b1,.bool b2,.bool b3,.bool b4,.bool b5,.bool b6,.slice A7 us.length c7,.slice A8 ms.length c8,.bool b9,.slice A10 vs.length c10],.int .i64 n,.bool is] w fun e w'=>e=.returned (.tuple #[.agg #[.string ⟨#[]⟩,.bool false,.bool false,.bool false,.bool false,.bool false,.bool false,.slice none 0 0,.slice none 0 0,.bool false,.slice none 0 0],.int .i64 1])∧Below w.heap.size w w':=by
 have R10:=amk h10
 clear h10
 have t1:decide (n < 0)=false:=decide_eq_false (by omega)
 have t2:decide (4094 < n)=false:=decide_eq_false (by omega)
 have HV:=amk e
 clear e e0 e1
 have hu:=Try.underlying25
 go_enter Try.func31,Try.ntmps31
 go_upto_region 1 with (fail)
 obtain ⟨wa,hwa⟩:∃ wa,(w.alloc (.cells #[.string m,.bool b1,.bool b2,.bool b3,.bool b4,.bool b5,.bool b6,.slice A7 us.length c7,.slice A8 ms.length c8,.bool b9,.slice A10 vs.length c10] 25))=wa:=⟨_,rfl⟩
 have za:wa.heap.size=w.heap.size+1:=by rw [← hwa];simp
 obtain ⟨w1,hw1⟩:∃ w1,wa.alloc (.cells #[.string ⟨#[]⟩,.bool false,.bool false,.bool false,.bool false,.bool false,.bool false,.slice none 0 0,.slice none 0 0,.bool false,.slice none 0 0] 25)=w1:=⟨_,rfl⟩
 have B1:Aside0 (Below w.heap.size w w1):=⟨by rw [← hw1,← hwa];exact bwa (bwa (Below.refl _ _) _) _⟩
 have BK:Aside0 (w1.heap[w.heap.size]?=some (.cells #[.string m,.bool b1,.bool b2,.bool b3,.bool b4,.bool b5,.bool b6,.slice A7 us.length c7,.slice A8 ms.length c8,.bool b9,.slice A10 vs.length c10] 25 (0,0))):=⟨by rw [← hw1,← hwa];exact bka (blk_new w _) _⟩
 have BL:Aside0 (w1.heap[w.heap.size+1]?=some (.cells #[.string ⟨#[]⟩,.bool false,.bool false,.bool false,.bool false,.bool false,.bool false,.slice none 0 0,.slice none 0 0,.bool false,.slice none 0 0] 25 (0,0))):=⟨by rw [← hw1];have q:=blk_new wa (.cells #[.string ⟨#[]⟩,.bool false,.bool false,.bool false,.bool false,.bool false,.bool false,.slice none 0 0,.slice none 0 0,.bool false,.slice none 0 0] 25);rw [za] at q;exact q⟩
 rw [hwa,hw1]
 clear hwa za hw1
 obtain ⟨g,hg⟩:∃ g,w.heap.size=g:=⟨_,rfl⟩
 have HGG:=amk (Nat.le_of_eq hg)
 rw [hg] at BK BL
 rw [hg]
 clear hg
 have hb10:w1.cell? ⟨g,10,none⟩=some (.slice A10 vs.length c10):=(bkc BK.out 10).trans rfl
 go_wp2_with fail
 refine (rnets_at A10 c10 vs w1 (R10.out.below B1.out) hc10 hs10).mono ?_
 rintro e w2 ⟨rfl,k2⟩
 have B2:=amk (bws B1.out k2)
 have BL2:=amk (bkb BL.out k2)
 clear k2 hb10
 rw [HV.out]
 have qc0:w2.cell? ⟨g+1,0,none⟩=some (.string ⟨#[]⟩):=(bkc BL2.out 0).trans rfl
 have qf0:=bkf BL2.out 0
 have qc1:w2.cell? ⟨g+1,1,none⟩=some (.bool false):=(bkc BL2.out 1).trans rfl
 have qf1:=bkf BL2.out 1
 have qc2:w2.cell? ⟨g+1,2,none⟩=some (.bool false):=(bkc BL2.out 2).trans rfl
 have qf2:=bkf BL2.out 2
 have qc3:w2.cell? ⟨g+1,3,none⟩=some (.bool false):=(bkc BL2.out 3).trans rfl
 have qf3:=bkf BL2.out 3
 have qc4:w2.cell? ⟨g+1,4,none⟩=some (.bool false):=(bkc BL2.out 4).trans rfl
 have qf4:=bkf BL2.out 4
 have qc5:w2.cell? ⟨g+1,5,none⟩=some (.bool false):=(bkc BL2.out 5).trans rfl
 have qf5:=bkf BL2.out 5
 have qc6:w2.cell? ⟨g+1,6,none⟩=some (.bool false):=(bkc BL2.out 6).trans rfl
 have qf6:=bkf BL2.out 6
 have qc7:w2.cell? ⟨g+1,7,none⟩=some (.slice none 0 0):=(bkc BL2.out 7).trans rfl
 have qf7:=bkf BL2.out 7
 have qc8:w2.cell? ⟨g+1,8,none⟩=some (.slice none 0 0):=(bkc BL2.out 8).trans rfl
 have qf8:=bkf BL2.out 8
 have qc9:w2.cell? ⟨g+1,9,none⟩=some (.bool false):=(bkc BL2.out 9).trans rfl
 have qf9:=bkf BL2.out 9
 have qc10:w2.cell? ⟨g+1,10,none⟩=some (.slice none 0 0):=(bkc BL2.out 10).trans rfl
 have qf10:=bkf BL2.out 10
 go_wp2_with fail
 clear qc0 qf0 qc1 qf1 qc2 qf2 qc3 qf3 qc4 qf4 qc5 qf5 qc6 qf6 qc7 qf7 qc8 qf8 qc9 qf9 qc10 qf10
 obtain ⟨w9,hw9,BK9,U9⟩:=flt_stored (g+1) w2 (.string ⟨#[]⟩) (.bool false) (.bool false) (.bool false) (.bool false) (.bool false) (.bool false) (.slice none 0 0) (.slice none 0 0) (.bool false) (.slice none 0 0) _ _ _ _ _ _ _ _ _ _ _ BL2.out
 rw [hw9]
 clear hw9
 exact bodyPost_ret (flt_results31 _ w9 (g+1) _ _ _ _ _ _ _ _ _ _ _ _ rfl rfl BK9) rfl ⟨rfl,B2.out.trans (U9.toBelow (B:=w.heap.size) (fun k hk=>by rw [hk];have:=HGG.out;omega) B2.out.size)⟩

set_option maxHeartbeats 8000000 in
set_option maxRecDepth 100000 in
theorem set_ok_true (m:ByteArray) (b1 b2 b3 b4 b5 b6:Bool) (A7:Option Addr) (c7:Nat) (us:List ByteArray) (A8:Option Addr) (c8:Nat) (ms:List ByteArray) (b9:Bool) (A10:Option Addr) (c10:Nat) (vs:List Int) (n:Int) (w:World) (h10:ReadsOf (Value.int .i64) 0 w A10 vs.length vs) (hc10:vs.length≤c10) (hs10:vs.length≤100000) (e0:0≤n) (e1:n≤4094) (e:netsS vs=true) (ls:List Int) (els:setL vs n true 4095=ls) :
  Calls Try.prog 31 #[.agg #[.string m,.bool b1,.bool b2,.bool b3,.bool b4,.bool b5,.bool b6,.slice A7 us.length c7,.slice A8 ms.length c8,.bool b9,.slice A10 vs.length c10],.int .i64 n,.bool true] w fun e w'=>∃ A c,e=.returned (.tuple #[.agg #[.string m,.bool b1,.bool b2,.bool b3,.bool b4,.bool b5,.bool b6,.slice A7 us.length c7,.slice A8 ms.length c8,.bool b9,.slice A ls.length c],.int .i64 0])∧w'.ownsRow w.heap.size 3 1 (.slice A ls.length c) ls.length (encs (Value.int .i64) ls)∧Below w.heap.size w w':=by
 have R10:=amk h10
 clear h10
 have t1:decide (n < 0)=false:=decide_eq_false (by omega)
 have t2:decide (4094 < n)=false:=decide_eq_false (by omega)
 have HV:=amk e
 have ELS:=amk els
 clear e els
 have hu:=Try.underlying25
 go_enter Try.func31,Try.ntmps31
 go_upto_region 1 with (fail)
 obtain ⟨wa,hwa⟩:∃ wa,(w.alloc (.cells #[.string m,.bool b1,.bool b2,.bool b3,.bool b4,.bool b5,.bool b6,.slice A7 us.length c7,.slice A8 ms.length c8,.bool b9,.slice A10 vs.length c10] 25))=wa:=⟨_,rfl⟩
 have za:wa.heap.size=w.heap.size+1:=by rw [← hwa];simp
 obtain ⟨w1,hw1⟩:∃ w1,wa.alloc (.cells #[.string ⟨#[]⟩,.bool false,.bool false,.bool false,.bool false,.bool false,.bool false,.slice none 0 0,.slice none 0 0,.bool false,.slice none 0 0] 25)=w1:=⟨_,rfl⟩
 have B1:Aside0 (Below w.heap.size w w1):=⟨by rw [← hw1,← hwa];exact bwa (bwa (Below.refl _ _) _) _⟩
 have BK:Aside0 (w1.heap[w.heap.size]?=some (.cells #[.string m,.bool b1,.bool b2,.bool b3,.bool b4,.bool b5,.bool b6,.slice A7 us.length c7,.slice A8 ms.length c8,.bool b9,.slice A10 vs.length c10] 25 (0,0))):=⟨by rw [← hw1,← hwa];exact bka (blk_new w _) _⟩
 have BL:Aside0 (w1.heap[w.heap.size+1]?=some (.cells #[.string ⟨#[]⟩,.bool false,.bool false,.bool false,.bool false,.bool false,.bool false,.slice none 0 0,.slice none 0 0,.bool false,.slice none 0 0] 25 (0,0))):=⟨by rw [← hw1];have q:=blk_new wa (.cells #[.string ⟨#[]⟩,.bool false,.bool false,.bool false,.bool false,.bool false,.bool false,.slice none 0 0,.slice none 0 0,.bool false,.slice none 0 0] 25);rw [za] at q;exact q⟩
 rw [hwa,hw1]
 clear hwa za hw1
 obtain ⟨g,hg⟩:∃ g,w.heap.size=g:=⟨_,rfl⟩
 have HGG:=amk (Nat.le_of_eq hg)
 rw [hg] at BK BL
 rw [hg]
 clear hg
 have hb10:w1.cell? ⟨g,10,none⟩=some (.slice A10 vs.length c10):=(bkc BK.out 10).trans rfl
 go_wp2_with fail
 refine (rnets_at A10 c10 vs w1 (R10.out.below B1.out) hc10 hs10).mono ?_
 rintro e w2 ⟨rfl,k2⟩
 have B2:=amk (bws B1.out k2)
 have BK2:=amk (bkb BK.out k2)
 have BL2:=amk (bkb BL.out k2)
 clear k2 hb10
 rw [HV.out]
 have OE:=amk (own_empty3 w2 w2.heap.size (Nat.le_refl _))
 have BE:=amk (bwa (Below.refl w2.heap.size w2) (.cells #[] 3))
 go_wp2_with fail
 go_loopg [8,9] 4095 (fun gk v8 v9 w'=>∃ (i:Nat) (A:Option Addr) (c:Nat),v9=.int .i64 (i:Int)∧v8=.slice A (setL vs n true i).length c∧Aside0 (i+gk=4095)∧Aside0 (w'.ownsRow w2.heap.size 3 1 (.slice A (setL vs n true i).length c) (setL vs n true i).length (encs (Value.int .i64) (setL vs n true i)))∧Aside0 (Below w2.heap.size w2 w'))
 case atStart=>exact ⟨0,some ⟨w2.heap.size,0,none⟩,0,rfl,rfl,⟨rfl⟩,OE,BE⟩
 case round =>
  clear OE BE
  obtain ⟨i,A,c,rfl,rfl,hk,ho,hb⟩:=hrel
  have hkk:=hk.out
  by_cases hi:i < 4095
  ·have wi:IntKind.i64.wrap ((i:Int)+1)=((i+1:Nat):Int):=by rw [IntKind.wrap_i64];omega
   have c1:decide ((i:Int)≤4094)=true:=decide_eq_true (by omega)
   obtain ⟨ki,rfl⟩:∃ m,gk=m+1:=⟨gk - 1,by omega⟩
   have hll:=setL_len vs n true i
   have BKr:=amk (bkb BK2.out hb.out)
   have B0r:=amk (bws B2.out hb.out)
   have hb10:wr.cell? ⟨g,10,none⟩=some (.slice A10 vs.length c10):=(bkc BKr.out 10).trans rfl
   have Y:=amk (@setL_yes vs n true i)
   have NO:=amk (@setL_no vs n true i)
   obtain ⟨l,el⟩:∃ l,setL vs n true i=l:=⟨_,rfl⟩
   rw [el] at Y NO ho hll
   rw [el]
   clear el
   by_cases hin:(i:Int)=n
   ·skip
    have e2:((i:Int) == n)=true:=beq_iff_eq.2 hin
    have e3:((i:Int) != n)=false:=bne_eq_false_iff_eq.2 hin
    have HIN:=amk hin
    clear hin
    have HB2:=hb
    have HB0:=B0r
    have HO:=ho
    clear hb10 ho hb
    have HY:=amk (Y.out (by unfold keepS;rw [e2];rfl))
    go_wp2_with (at_builtin;refine print_append_of (w0:=w2) (Value.int .i64) w2.heap.size rfl (.tmp 45) (.tmp 47) 23 3 (.int .i64 0) 8 rfl Try.underlying23 inf3 rfl (by decide) (.slice A l.length c) l (i:Int) rfl rfl rfl HO.out HB2.out HB2.out.size (by omega) ?_;intro v1 w5 ho1 hb1 hg1 hf1;obtain ⟨A1,c1_,rfl⟩:=own_slice ho1;have HO1:=amk ho1;have HB1:=amk hb1;clear ho1 hb1 hg1 hf1)
    try rw [wi]
    go_roundg ki
    case measure=>omega
    case rel=>exact ⟨i+1,A1,c1_,rfl,by rw [HY.out,List.length_append,List.length_singleton],⟨by omega⟩,⟨by rw [HY.out];exact HO1.out⟩,HB1⟩
   ·skip
    have e2:((i:Int) == n)=false:=beq_eq_false_iff_ne.2 hin
    have e3:((i:Int) != n)=true:=bne_iff_ne.2 hin
    go_wp2_with fail
    refine (net_at A10 c10 vs (i:Int) wr (R10.out.below B0r.out) hc10 hs10).mono ?_
    rintro e w3 ⟨rfl,k3⟩
    have HB2:=amk (bws hb.out k3)
    have HB0:=amk (bws B0r.out k3)
    have HO:=amk (pw_own_below ho.out k3)
    clear k3 hb10 ho hb
    cases hct:vs.contains (i:Int) with
    | true =>
     have HY:=amk (Y.out (by unfold keepS;rw [e2,hct];rfl))
     clear hct
     go_wp2_with (at_builtin;refine print_append_of (w0:=w2) (Value.int .i64) w2.heap.size rfl (.tmp 45) (.tmp 47) 23 3 (.int .i64 0) 8 rfl Try.underlying23 inf3 rfl (by decide) (.slice A l.length c) l (i:Int) rfl rfl rfl HO.out HB2.out HB2.out.size (by omega) ?_;intro v1 w5 ho1 hb1 hg1 hf1;obtain ⟨A1,c1_,rfl⟩:=own_slice ho1;have HO1:=amk ho1;have HB1:=amk hb1;clear ho1 hb1 hg1 hf1)
     try rw [wi]
     go_roundg ki
     case measure=>omega
     case rel=>exact ⟨i+1,A1,c1_,rfl,by rw [HY.out,List.length_append,List.length_singleton],⟨by omega⟩,⟨by rw [HY.out];exact HO1.out⟩,HB1⟩
    | false =>
     have HN:=amk (NO.out (by unfold keepS;rw [e2,hct];rfl))
     clear hct
     go_wp2_with fail
     try rw [wi]
     go_roundg ki
     case measure=>omega
     case rel=>exact ⟨i+1,A,c,rfl,by rw [HN.out],⟨by omega⟩,⟨by rw [HN.out];exact HO.out⟩,HB2⟩
  ·have c1:decide ((i:Int)≤4094)=false:=decide_eq_false (by omega)
   obtain rfl:i=4095:=by omega
   rw [ELS.out] at ho
   rw [ELS.out]
   have BKr:=amk (bkb BK2.out hb.out)
   have BLr:=amk (bkb BL2.out hb.out)
   have B0r:=amk (bws B2.out hb.out)
   have hb10:wr.cell? ⟨g,10,none⟩=some (.slice A10 vs.length c10):=(bkc BKr.out 10).trans rfl
   have hz10:=bkf BKr.out 10
   go_upto_region 10 with (fail)
   clear hb10 hz10
   obtain ⟨w7,hw7⟩:∃ w7,wr.setCell ⟨g,10,none⟩ (.slice A ls.length c)=w7:=⟨_,rfl⟩
   have U7:Aside0 (Upd wr w7 (fun k=>k=g)):=⟨by rw [← hw7];exact (Upd.refl wr (fun k=>k=g)).set (p:=⟨g,10,none⟩) (.inl rfl) _⟩
   have BK7:Aside0 (w7.heap[g]?=some (.cells #[.string m,.bool b1,.bool b2,.bool b3,.bool b4,.bool b5,.bool b6,.slice A7 us.length c7,.slice A8 ms.length c8,.bool b9,.slice A ls.length c] 25 (0,0))):=⟨by rw [← hw7];exact blk_put (cs:=#[.string m,.bool b1,.bool b2,.bool b3,.bool b4,.bool b5,.bool b6,.slice A7 us.length c7,.slice A8 ms.length c8,.bool b9,.slice A10 vs.length c10]) BKr.out 10 _ rfl⟩
   rw [hw7]
   clear hw7
   have BL7:=amk (U7.out.blk BLr.out (by omega))
   have B7:=amk (B0r.out.trans (U7.out.toBelow (B:=w.heap.size) (fun k hk=>by rw [hk];exact HGG.out) B0r.out.size))
   have D10:=amk (U7.out.own ho.out (fun k hk e=>own_ne ho.out BKr.out (by decide) (by rw [hk,← e])))
   have pc0:w7.cell? ⟨g,0,none⟩=some (.string m):=(bkc BK7.out 0).trans rfl
   have pc1:w7.cell? ⟨g,1,none⟩=some (.bool b1):=(bkc BK7.out 1).trans rfl
   have pc2:w7.cell? ⟨g,2,none⟩=some (.bool b2):=(bkc BK7.out 2).trans rfl
   have pc3:w7.cell? ⟨g,3,none⟩=some (.bool b3):=(bkc BK7.out 3).trans rfl
   have pc4:w7.cell? ⟨g,4,none⟩=some (.bool b4):=(bkc BK7.out 4).trans rfl
   have pc5:w7.cell? ⟨g,5,none⟩=some (.bool b5):=(bkc BK7.out 5).trans rfl
   have pc6:w7.cell? ⟨g,6,none⟩=some (.bool b6):=(bkc BK7.out 6).trans rfl
   have pc7:w7.cell? ⟨g,7,none⟩=some (.slice A7 us.length c7):=(bkc BK7.out 7).trans rfl
   have pc8:w7.cell? ⟨g,8,none⟩=some (.slice A8 ms.length c8):=(bkc BK7.out 8).trans rfl
   have pc9:w7.cell? ⟨g,9,none⟩=some (.bool b9):=(bkc BK7.out 9).trans rfl
   have pc10:w7.cell? ⟨g,10,none⟩=some (.slice A ls.length c):=(bkc BK7.out 10).trans rfl
   have qc0:w7.cell? ⟨g+1,0,none⟩=some (.string ⟨#[]⟩):=(bkc BL7.out 0).trans rfl
   have qf0:=bkf BL7.out 0
   have qc1:w7.cell? ⟨g+1,1,none⟩=some (.bool false):=(bkc BL7.out 1).trans rfl
   have qf1:=bkf BL7.out 1
   have qc2:w7.cell? ⟨g+1,2,none⟩=some (.bool false):=(bkc BL7.out 2).trans rfl
   have qf2:=bkf BL7.out 2
   have qc3:w7.cell? ⟨g+1,3,none⟩=some (.bool false):=(bkc BL7.out 3).trans rfl
   have qf3:=bkf BL7.out 3
   have qc4:w7.cell? ⟨g+1,4,none⟩=some (.bool false):=(bkc BL7.out 4).trans rfl
   have qf4:=bkf BL7.out 4
   have qc5:w7.cell? ⟨g+1,5,none⟩=some (.bool false):=(bkc BL7.out 5).trans rfl
   have qf5:=bkf BL7.out 5
   have qc6:w7.cell? ⟨g+1,6,none⟩=some (.bool false):=(bkc BL7.out 6).trans rfl
   have qf6:=bkf BL7.out 6
   have qc7:w7.cell? ⟨g+1,7,none⟩=some (.slice none 0 0):=(bkc BL7.out 7).trans rfl
   have qf7:=bkf BL7.out 7
   have qc8:w7.cell? ⟨g+1,8,none⟩=some (.slice none 0 0):=(bkc BL7.out 8).trans rfl
   have qf8:=bkf BL7.out 8
   have qc9:w7.cell? ⟨g+1,9,none⟩=some (.bool false):=(bkc BL7.out 9).trans rfl
   have qf9:=bkf BL7.out 9
   have qc10:w7.cell? ⟨g+1,10,none⟩=some (.slice none 0 0):=(bkc BL7.out 10).trans rfl
   have qf10:=bkf BL7.out 10
   go_wp2_with fail
   clear pc0 pc1 pc2 pc3 pc4 pc5 pc6 pc7 pc8 pc9 pc10
   clear qc0 qf0 qc1 qf1 qc2 qf2 qc3 qf3 qc4 qf4 qc5 qf5 qc6 qf6 qc7 qf7 qc8 qf8 qc9 qf9 qc10 qf10
   obtain ⟨w9,hw9,BK9,U9⟩:=flt_stored (g+1) w7 (.string m) (.bool b1) (.bool b2) (.bool b3) (.bool b4) (.bool b5) (.bool b6) (.slice A7 us.length c7) (.slice A8 ms.length c8) (.bool b9) (.slice A ls.length c) _ _ _ _ _ _ _ _ _ _ _ BL7.out
   rw [hw9]
   clear hw9
   have T10:=amk (U9.own D10.out (fun k hk e=>own_ne D10.out BL7.out (by decide) (by rw [hk,← e])))
   exact bodyPost_ret (flt_results31 _ w9 (g+1) _ _ _ _ _ _ _ _ _ _ _ _ rfl rfl BK9) rfl ⟨A,c,rfl,own_weaken T10.out B2.out.size,B7.out.trans (U9.toBelow (B:=w.heap.size) (fun k hk=>by rw [hk];have:=HGG.out;omega) B7.out.size)⟩

set_option maxHeartbeats 8000000 in
set_option maxRecDepth 100000 in
theorem set_ok_false (m:ByteArray) (b1 b2 b3 b4 b5 b6:Bool) (A7:Option Addr) (c7:Nat) (us:List ByteArray) (A8:Option Addr) (c8:Nat) (ms:List ByteArray) (b9:Bool) (A10:Option Addr) (c10:Nat) (vs:List Int) (n:Int) (w:World) (h10:ReadsOf (Value.int .i64) 0 w A10 vs.length vs) (hc10:vs.length≤c10) (hs10:vs.length≤100000) (e0:0≤n) (e1:n≤4094) (e:netsS vs=true) (ls:List Int) (els:setL vs n false 4095=ls) :
  Calls Try.prog 31 #[.agg #[.string m,.bool b1,.bool b2,.bool b3,.bool b4,.bool b5,.bool b6,.slice A7 us.length c7,.slice A8 ms.length c8,.bool b9,.slice A10 vs.length c10],.int .i64 n,.bool false] w fun e w'=>∃ A c,e=.returned (.tuple #[.agg #[.string m,.bool b1,.bool b2,.bool b3,.bool b4,.bool b5,.bool b6,.slice A7 us.length c7,.slice A8 ms.length c8,.bool b9,.slice A ls.length c],.int .i64 0])∧w'.ownsRow w.heap.size 3 1 (.slice A ls.length c) ls.length (encs (Value.int .i64) ls)∧Below w.heap.size w w':=by
 have R10:=amk h10
 clear h10
 have t1:decide (n < 0)=false:=decide_eq_false (by omega)
 have t2:decide (4094 < n)=false:=decide_eq_false (by omega)
 have HV:=amk e
 have ELS:=amk els
 clear e els
 have hu:=Try.underlying25
 go_enter Try.func31,Try.ntmps31
 go_upto_region 1 with (fail)
 obtain ⟨wa,hwa⟩:∃ wa,(w.alloc (.cells #[.string m,.bool b1,.bool b2,.bool b3,.bool b4,.bool b5,.bool b6,.slice A7 us.length c7,.slice A8 ms.length c8,.bool b9,.slice A10 vs.length c10] 25))=wa:=⟨_,rfl⟩
 have za:wa.heap.size=w.heap.size+1:=by rw [← hwa];simp
 obtain ⟨w1,hw1⟩:∃ w1,wa.alloc (.cells #[.string ⟨#[]⟩,.bool false,.bool false,.bool false,.bool false,.bool false,.bool false,.slice none 0 0,.slice none 0 0,.bool false,.slice none 0 0] 25)=w1:=⟨_,rfl⟩
 have B1:Aside0 (Below w.heap.size w w1):=⟨by rw [← hw1,← hwa];exact bwa (bwa (Below.refl _ _) _) _⟩
 have BK:Aside0 (w1.heap[w.heap.size]?=some (.cells #[.string m,.bool b1,.bool b2,.bool b3,.bool b4,.bool b5,.bool b6,.slice A7 us.length c7,.slice A8 ms.length c8,.bool b9,.slice A10 vs.length c10] 25 (0,0))):=⟨by rw [← hw1,← hwa];exact bka (blk_new w _) _⟩
 have BL:Aside0 (w1.heap[w.heap.size+1]?=some (.cells #[.string ⟨#[]⟩,.bool false,.bool false,.bool false,.bool false,.bool false,.bool false,.slice none 0 0,.slice none 0 0,.bool false,.slice none 0 0] 25 (0,0))):=⟨by rw [← hw1];have q:=blk_new wa (.cells #[.string ⟨#[]⟩,.bool false,.bool false,.bool false,.bool false,.bool false,.bool false,.slice none 0 0,.slice none 0 0,.bool false,.slice none 0 0] 25);rw [za] at q;exact q⟩
 rw [hwa,hw1]
 clear hwa za hw1
 obtain ⟨g,hg⟩:∃ g,w.heap.size=g:=⟨_,rfl⟩
 have HGG:=amk (Nat.le_of_eq hg)
 rw [hg] at BK BL
 rw [hg]
 clear hg
 have hb10:w1.cell? ⟨g,10,none⟩=some (.slice A10 vs.length c10):=(bkc BK.out 10).trans rfl
 go_wp2_with fail
 refine (rnets_at A10 c10 vs w1 (R10.out.below B1.out) hc10 hs10).mono ?_
 rintro e w2 ⟨rfl,k2⟩
 have B2:=amk (bws B1.out k2)
 have BK2:=amk (bkb BK.out k2)
 have BL2:=amk (bkb BL.out k2)
 clear k2 hb10
 rw [HV.out]
 have OE:=amk (own_empty3 w2 w2.heap.size (Nat.le_refl _))
 have BE:=amk (bwa (Below.refl w2.heap.size w2) (.cells #[] 3))
 go_wp2_with fail
 go_loopg [8,9] 4095 (fun gk v8 v9 w'=>∃ (i:Nat) (A:Option Addr) (c:Nat),v9=.int .i64 (i:Int)∧v8=.slice A (setL vs n false i).length c∧Aside0 (i+gk=4095)∧Aside0 (w'.ownsRow w2.heap.size 3 1 (.slice A (setL vs n false i).length c) (setL vs n false i).length (encs (Value.int .i64) (setL vs n false i)))∧Aside0 (Below w2.heap.size w2 w'))
 case atStart=>exact ⟨0,some ⟨w2.heap.size,0,none⟩,0,rfl,rfl,⟨rfl⟩,OE,BE⟩
 case round =>
  clear OE BE
  obtain ⟨i,A,c,rfl,rfl,hk,ho,hb⟩:=hrel
  have hkk:=hk.out
  by_cases hi:i < 4095
  ·have wi:IntKind.i64.wrap ((i:Int)+1)=((i+1:Nat):Int):=by rw [IntKind.wrap_i64];omega
   have c1:decide ((i:Int)≤4094)=true:=decide_eq_true (by omega)
   obtain ⟨ki,rfl⟩:∃ m,gk=m+1:=⟨gk - 1,by omega⟩
   have hll:=setL_len vs n false i
   have BKr:=amk (bkb BK2.out hb.out)
   have B0r:=amk (bws B2.out hb.out)
   have hb10:wr.cell? ⟨g,10,none⟩=some (.slice A10 vs.length c10):=(bkc BKr.out 10).trans rfl
   have Y:=amk (@setL_yes vs n false i)
   have NO:=amk (@setL_no vs n false i)
   obtain ⟨l,el⟩:∃ l,setL vs n false i=l:=⟨_,rfl⟩
   rw [el] at Y NO ho hll
   rw [el]
   clear el
   by_cases hin:(i:Int)=n
   ·skip
    have e2:((i:Int) == n)=true:=beq_iff_eq.2 hin
    have e3:((i:Int) != n)=false:=bne_eq_false_iff_eq.2 hin
    have HIN:=amk hin
    clear hin
    have HB2:=hb
    have HB0:=B0r
    have HO:=ho
    clear hb10 ho hb
    have HN:=amk (NO.out (by unfold keepS;rw [e2];rfl))
    go_wp2_with fail
    try rw [wi]
    go_roundg ki
    case measure=>omega
    case rel=>exact ⟨i+1,A,c,rfl,by rw [HN.out],⟨by omega⟩,⟨by rw [HN.out];exact HO.out⟩,HB2⟩
   ·skip
    have e2:((i:Int) == n)=false:=beq_eq_false_iff_ne.2 hin
    have e3:((i:Int) != n)=true:=bne_iff_ne.2 hin
    go_wp2_with fail
    refine (net_at A10 c10 vs (i:Int) wr (R10.out.below B0r.out) hc10 hs10).mono ?_
    rintro e w3 ⟨rfl,k3⟩
    have HB2:=amk (bws hb.out k3)
    have HB0:=amk (bws B0r.out k3)
    have HO:=amk (pw_own_below ho.out k3)
    clear k3 hb10 ho hb
    cases hct:vs.contains (i:Int) with
    | true =>
     have HY:=amk (Y.out (by unfold keepS;rw [e2,hct];rfl))
     clear hct
     go_wp2_with (at_builtin;refine print_append_of (w0:=w2) (Value.int .i64) w2.heap.size rfl (.tmp 45) (.tmp 47) 23 3 (.int .i64 0) 8 rfl Try.underlying23 inf3 rfl (by decide) (.slice A l.length c) l (i:Int) rfl rfl rfl HO.out HB2.out HB2.out.size (by omega) ?_;intro v1 w5 ho1 hb1 hg1 hf1;obtain ⟨A1,c1_,rfl⟩:=own_slice ho1;have HO1:=amk ho1;have HB1:=amk hb1;clear ho1 hb1 hg1 hf1)
     try rw [wi]
     go_roundg ki
     case measure=>omega
     case rel=>exact ⟨i+1,A1,c1_,rfl,by rw [HY.out,List.length_append,List.length_singleton],⟨by omega⟩,⟨by rw [HY.out];exact HO1.out⟩,HB1⟩
    | false =>
     have HN:=amk (NO.out (by unfold keepS;rw [e2,hct];rfl))
     clear hct
     go_wp2_with fail
     try rw [wi]
     go_roundg ki
     case measure=>omega
     case rel=>exact ⟨i+1,A,c,rfl,by rw [HN.out],⟨by omega⟩,⟨by rw [HN.out];exact HO.out⟩,HB2⟩
  ·have c1:decide ((i:Int)≤4094)=false:=decide_eq_false (by omega)
   obtain rfl:i=4095:=by omega
   rw [ELS.out] at ho
   rw [ELS.out]
   have BKr:=amk (bkb BK2.out hb.out)
   have BLr:=amk (bkb BL2.out hb.out)
   have B0r:=amk (bws B2.out hb.out)
   have hb10:wr.cell? ⟨g,10,none⟩=some (.slice A10 vs.length c10):=(bkc BKr.out 10).trans rfl
   have hz10:=bkf BKr.out 10
   go_upto_region 10 with (fail)
   clear hb10 hz10
   obtain ⟨w7,hw7⟩:∃ w7,wr.setCell ⟨g,10,none⟩ (.slice A ls.length c)=w7:=⟨_,rfl⟩
   have U7:Aside0 (Upd wr w7 (fun k=>k=g)):=⟨by rw [← hw7];exact (Upd.refl wr (fun k=>k=g)).set (p:=⟨g,10,none⟩) (.inl rfl) _⟩
   have BK7:Aside0 (w7.heap[g]?=some (.cells #[.string m,.bool b1,.bool b2,.bool b3,.bool b4,.bool b5,.bool b6,.slice A7 us.length c7,.slice A8 ms.length c8,.bool b9,.slice A ls.length c] 25 (0,0))):=⟨by rw [← hw7];exact blk_put (cs:=#[.string m,.bool b1,.bool b2,.bool b3,.bool b4,.bool b5,.bool b6,.slice A7 us.length c7,.slice A8 ms.length c8,.bool b9,.slice A10 vs.length c10]) BKr.out 10 _ rfl⟩
   rw [hw7]
   clear hw7
   have BL7:=amk (U7.out.blk BLr.out (by omega))
   have B7:=amk (B0r.out.trans (U7.out.toBelow (B:=w.heap.size) (fun k hk=>by rw [hk];exact HGG.out) B0r.out.size))
   have D10:=amk (U7.out.own ho.out (fun k hk e=>own_ne ho.out BKr.out (by decide) (by rw [hk,← e])))
   have pc0:w7.cell? ⟨g,0,none⟩=some (.string m):=(bkc BK7.out 0).trans rfl
   have pc1:w7.cell? ⟨g,1,none⟩=some (.bool b1):=(bkc BK7.out 1).trans rfl
   have pc2:w7.cell? ⟨g,2,none⟩=some (.bool b2):=(bkc BK7.out 2).trans rfl
   have pc3:w7.cell? ⟨g,3,none⟩=some (.bool b3):=(bkc BK7.out 3).trans rfl
   have pc4:w7.cell? ⟨g,4,none⟩=some (.bool b4):=(bkc BK7.out 4).trans rfl
   have pc5:w7.cell? ⟨g,5,none⟩=some (.bool b5):=(bkc BK7.out 5).trans rfl
   have pc6:w7.cell? ⟨g,6,none⟩=some (.bool b6):=(bkc BK7.out 6).trans rfl
   have pc7:w7.cell? ⟨g,7,none⟩=some (.slice A7 us.length c7):=(bkc BK7.out 7).trans rfl
   have pc8:w7.cell? ⟨g,8,none⟩=some (.slice A8 ms.length c8):=(bkc BK7.out 8).trans rfl
   have pc9:w7.cell? ⟨g,9,none⟩=some (.bool b9):=(bkc BK7.out 9).trans rfl
   have pc10:w7.cell? ⟨g,10,none⟩=some (.slice A ls.length c):=(bkc BK7.out 10).trans rfl
   have qc0:w7.cell? ⟨g+1,0,none⟩=some (.string ⟨#[]⟩):=(bkc BL7.out 0).trans rfl
   have qf0:=bkf BL7.out 0
   have qc1:w7.cell? ⟨g+1,1,none⟩=some (.bool false):=(bkc BL7.out 1).trans rfl
   have qf1:=bkf BL7.out 1
   have qc2:w7.cell? ⟨g+1,2,none⟩=some (.bool false):=(bkc BL7.out 2).trans rfl
   have qf2:=bkf BL7.out 2
   have qc3:w7.cell? ⟨g+1,3,none⟩=some (.bool false):=(bkc BL7.out 3).trans rfl
   have qf3:=bkf BL7.out 3
   have qc4:w7.cell? ⟨g+1,4,none⟩=some (.bool false):=(bkc BL7.out 4).trans rfl
   have qf4:=bkf BL7.out 4
   have qc5:w7.cell? ⟨g+1,5,none⟩=some (.bool false):=(bkc BL7.out 5).trans rfl
   have qf5:=bkf BL7.out 5
   have qc6:w7.cell? ⟨g+1,6,none⟩=some (.bool false):=(bkc BL7.out 6).trans rfl
   have qf6:=bkf BL7.out 6
   have qc7:w7.cell? ⟨g+1,7,none⟩=some (.slice none 0 0):=(bkc BL7.out 7).trans rfl
   have qf7:=bkf BL7.out 7
   have qc8:w7.cell? ⟨g+1,8,none⟩=some (.slice none 0 0):=(bkc BL7.out 8).trans rfl
   have qf8:=bkf BL7.out 8
   have qc9:w7.cell? ⟨g+1,9,none⟩=some (.bool false):=(bkc BL7.out 9).trans rfl
   have qf9:=bkf BL7.out 9
   have qc10:w7.cell? ⟨g+1,10,none⟩=some (.slice none 0 0):=(bkc BL7.out 10).trans rfl
   have qf10:=bkf BL7.out 10
   go_wp2_with fail
   clear pc0 pc1 pc2 pc3 pc4 pc5 pc6 pc7 pc8 pc9 pc10
   clear qc0 qf0 qc1 qf1 qc2 qf2 qc3 qf3 qc4 qf4 qc5 qf5 qc6 qf6 qc7 qf7 qc8 qf8 qc9 qf9 qc10 qf10
   obtain ⟨w9,hw9,BK9,U9⟩:=flt_stored (g+1) w7 (.string m) (.bool b1) (.bool b2) (.bool b3) (.bool b4) (.bool b5) (.bool b6) (.slice A7 us.length c7) (.slice A8 ms.length c8) (.bool b9) (.slice A ls.length c) _ _ _ _ _ _ _ _ _ _ _ BL7.out
   rw [hw9]
   clear hw9
   have T10:=amk (U9.own D10.out (fun k hk e=>own_ne D10.out BL7.out (by decide) (by rw [hk,← e])))
   exact bodyPost_ret (flt_results31 _ w9 (g+1) _ _ _ _ _ _ _ _ _ _ _ _ rfl rfl BK9) rfl ⟨A,c,rfl,own_weaken T10.out B2.out.size,B7.out.trans (U9.toBelow (B:=w.heap.size) (fun k hk=>by rw [hk];have:=HGG.out;omega) B7.out.size)⟩
theorem set_no (F:Flt) (S:Sl) (n:Int) (is:Bool) (w:World) (h:FV w F S) (hs:Small F) (ha:argS F.vs n=false) :
  Calls Try.prog 31 #[.agg (cellsF F S),.int .i64 n,.bool is] w fun e w'=>e=.returned (.tuple #[.agg zeroF,.int .i64 1])∧Below w.heap.size w w':=by
 unfold argS at ha
 by_cases h0:n < 0
 ·exact set_n1 F.m F.b1 F.b2 F.b3 F.b4 F.b5 F.b6 S.A7 S.c7 F.us S.A8 S.c8 F.ms F.b9 S.A10 S.c10 F.vs n is w h.r10 h.l10 hs.2.2 h0
 ·by_cases h1:4094 < n
  ·exact set_n2 F.m F.b1 F.b2 F.b3 F.b4 F.b5 F.b6 S.A7 S.c7 F.us S.A8 S.c8 F.ms F.b9 S.A10 S.c10 F.vs n is w h.r10 h.l10 hs.2.2 (by omega) h1
  ·rw [decide_eq_true (by omega),decide_eq_true (by omega)] at ha
   exact set_n3 F.m F.b1 F.b2 F.b3 F.b4 F.b5 F.b6 S.A7 S.c7 F.us S.A8 S.c8 F.ms F.b9 S.A10 S.c10 F.vs n is w h.r10 h.l10 hs.2.2 (by omega) (by omega) (by simpa using ha)
end Go.Proofs.Ytkgbhlcbjflnlaa.Fl
