/- Commands and settings: contracts by hand, and the laws over them. -/
import Derived.Test.YtkgbhlcbjflnlaaZOwn
import Derived.Test.YtkgbhlcbjflnlaaZCln
import Derived.Test.YtkgbhlcbjflnlaaZChk
import Derived.WalkLawsBesides
namespace Go.Proofs.Ytkgbhlcbjflnlaa.Fl
open Go Go.RowKit Go.Proofs.YtkgbhlcbjflnlaaW.PrintWords Go.Proofs.YtkgbhlcbjflnlaaW.PrintLast Go.Proofs.YtkgbhlcbjflnlaaW.PrintMore Go.Proofs.Ytkgbhlcbjflnlaa.Mth Go.Proofs.Ytkgbhlcbjflnlaa.P Go.Proofs.Ytkgbhlcbjflnlaa.Own Go.Proofs
set_option linter.unusedVariables false
set_option linter.unusedSimpArgs false
theorem flt_results69 (tmps:Array Value) (w:World) (g:Nat) (c0 c1 c2 c3 c4 c5 c6 c7 c8 c9 c10 r:Value) (hp:tmps.getD 4 undef=.pointer (some ⟨g,0,none⟩)) (hr:tmps.getD 5 undef=r) (hg:w.heap[g]?=some (.cells #[c0,c1,c2,c3,c4,c5,c6,c7,c8,c9,c10] 25 (0,0))) :
  (results Try.f69 tmps).run Try.prog w=.ok (.tuple #[.agg #[c0,c1,c2,c3,c4,c5,c6,c7,c8,c9,c10],r]) w:=by
 have h1:tmps[4]?.getD undef=.pointer (some ⟨g,0,none⟩):=by simpa using hp
 have h2:tmps[5]?.getD undef=r:=by simpa using hr
 have a0:w.cell? ⟨g,0,none⟩=some c0:=(bkc hg 0).trans rfl
 have a1:w.cell? ⟨g,1,none⟩=some c1:=(bkc hg 1).trans rfl
 have a2:w.cell? ⟨g,2,none⟩=some c2:=(bkc hg 2).trans rfl
 have a3:w.cell? ⟨g,3,none⟩=some c3:=(bkc hg 3).trans rfl
 have a4:w.cell? ⟨g,4,none⟩=some c4:=(bkc hg 4).trans rfl
 have a5:w.cell? ⟨g,5,none⟩=some c5:=(bkc hg 5).trans rfl
 have a6:w.cell? ⟨g,6,none⟩=some c6:=(bkc hg 6).trans rfl
 have a7:w.cell? ⟨g,7,none⟩=some c7:=(bkc hg 7).trans rfl
 have a8:w.cell? ⟨g,8,none⟩=some c8:=(bkc hg 8).trans rfl
 have a9:w.cell? ⟨g,9,none⟩=some c9:=(bkc hg 9).trans rfl
 have a10:w.cell? ⟨g,10,none⟩=some c10:=(bkc hg 10).trans rfl
 have hu:=Try.underlying25
 simp [results,Try.results69,h1,h2,asAddr,go_sem,a0,a1,a2,a3,a4,a5,a6,a7,a8,a9,a10]
theorem flt_results70 (tmps:Array Value) (w:World) (g:Nat) (c0 c1 c2 c3 c4 c5 c6 c7 c8 c9 c10 r:Value) (hp:tmps.getD 4 undef=.pointer (some ⟨g,0,none⟩)) (hr:tmps.getD 5 undef=r) (hg:w.heap[g]?=some (.cells #[c0,c1,c2,c3,c4,c5,c6,c7,c8,c9,c10] 25 (0,0))) :
  (results Try.f70 tmps).run Try.prog w=.ok (.tuple #[.agg #[c0,c1,c2,c3,c4,c5,c6,c7,c8,c9,c10],r]) w:=by
 have h1:tmps[4]?.getD undef=.pointer (some ⟨g,0,none⟩):=by simpa using hp
 have h2:tmps[5]?.getD undef=r:=by simpa using hr
 have a0:w.cell? ⟨g,0,none⟩=some c0:=(bkc hg 0).trans rfl
 have a1:w.cell? ⟨g,1,none⟩=some c1:=(bkc hg 1).trans rfl
 have a2:w.cell? ⟨g,2,none⟩=some c2:=(bkc hg 2).trans rfl
 have a3:w.cell? ⟨g,3,none⟩=some c3:=(bkc hg 3).trans rfl
 have a4:w.cell? ⟨g,4,none⟩=some c4:=(bkc hg 4).trans rfl
 have a5:w.cell? ⟨g,5,none⟩=some c5:=(bkc hg 5).trans rfl
 have a6:w.cell? ⟨g,6,none⟩=some c6:=(bkc hg 6).trans rfl
 have a7:w.cell? ⟨g,7,none⟩=some c7:=(bkc hg 7).trans rfl
 have a8:w.cell? ⟨g,8,none⟩=some c8:=(bkc hg 8).trans rfl
 have a9:w.cell? ⟨g,9,none⟩=some c9:=(bkc hg 9).trans rfl
 have a10:w.cell? ⟨g,10,none⟩=some c10:=(bkc hg 10).trans rfl
 have hu:=Try.underlying25
 simp [results,Try.results70,h1,h2,asAddr,go_sem,a0,a1,a2,a3,a4,a5,a6,a7,a8,a9,a10]
theorem ins_in:∀ {l:List Int} {n:Int},l.Pairwise (· < ·)→l.contains n=true→insS n l=l
 | [],_,_,h=>by simp at h
 | a :: r,n,hp,h=>by
  obtain ⟨h1,h2⟩:=List.pairwise_cons.1 hp
  rw [List.contains_cons,Bool.or_eq_true] at h
  unfold insS
  rcases h with h | h
  ·have e:n=a:=by simpa using h
   rw [if_neg (by omega),if_pos e.symm]
  ·have hm:n∈r:=by simpa using h
   rw [if_pos (h1 n hm),ins_in h2 h]
theorem ins_out:∀ {l:List Int} {n:Int},l.Pairwise (· < ·)→l.contains n=false→insS n l=l.take (l.countP (· < n)) ++ n :: l.drop (l.countP (· < n))
 | [],_,_,_=>rfl
 | a :: r,n,hp,h=>by
  obtain ⟨h1,h2⟩:=List.pairwise_cons.1 hp
  rw [List.contains_cons,Bool.or_eq_false_iff] at h
  have hne : ¬ a=n:=fun e=>by rw [e] at h;simp at h
  unfold insS
  by_cases hlt:a < n
  ·rw [if_pos hlt,ins_out h2 h.2,List.countP_cons_of_pos (by simpa using hlt)]
   simp
  ·have hz:r.countP (· < n)=0:=by
    rw [List.countP_eq_zero]
    intro x hx
    have:=h1 x hx
    simp;omega
   rw [if_neg hlt,if_neg hne,List.countP_cons_of_neg (by simpa using hlt),hz]
   rfl
theorem ins_len {l:List Int} {n:Int} (hp:l.Pairwise (· < ·)) (h:l.contains n=false):(l.take (l.countP (· < n)) ++ n :: l.drop (l.countP (· < n))).length=l.length+1:=by
 have:=List.countP_le_length (p:=fun x=>decide (x < n)) (l:=l)
 simp;omega
set_option maxHeartbeats 8000000 in
set_option maxRecDepth 100000 in
theorem add_n1 (m:ByteArray) (b1 b2 b3 b4 b5 b6:Bool) (A7:Option Addr) (c7:Nat) (us:List ByteArray) (A8:Option Addr) (c8:Nat) (ms:List ByteArray) (b9:Bool) (A10:Option Addr) (c10:Nat) (vs:List Int) (n:Int) (w:World) (h7:ReadsOf Value.string ByteArray.empty w A7 us.length us) (h8:ReadsOf Value.string ByteArray.empty w A8 ms.length ms) (h10:ReadsOf (Value.int .i64) 0 w A10 vs.length vs) (e:n < 0) :
  Calls Try.prog 69 #[.agg #[.string m,.bool b1,.bool b2,.bool b3,.bool b4,.bool b5,.bool b6,.slice A7 us.length c7,.slice A8 ms.length c8,.bool b9,.slice A10 vs.length c10],.int .i64 n] w fun e w'=>e=.returned (.tuple #[.agg #[.string ⟨#[]⟩,.bool false,.bool false,.bool false,.bool false,.bool false,.bool false,.slice none 0 0,.slice none 0 0,.bool false,.slice none 0 0],.int .i64 1])∧Below w.heap.size w w':=by
 have t1:decide (n < 0)=true:=decide_eq_true e
 clear e
 have R7:=amk h7
 have R8:=amk h8
 have R10:=amk h10
 clear h7 h8 h10
 have hu:=Try.underlying25
 have hmf:=hmf
 go_enter Try.func69,Try.ntmps69
 go_upto_region 1 with (fail)
 obtain ⟨wa,hwa⟩:∃ wa,(w.alloc (.cells #[.string m,.bool b1,.bool b2,.bool b3,.bool b4,.bool b5,.bool b6,.slice A7 us.length c7,.slice A8 ms.length c8,.bool b9,.slice A10 vs.length c10] 25))=wa:=⟨_,rfl⟩
 have za:wa.heap.size=w.heap.size+1:=by rw [← hwa];simp
 obtain ⟨w1,hw1⟩:∃ w1,wa.alloc (.cells #[.string ⟨#[]⟩,.bool false,.bool false,.bool false,.bool false,.bool false,.bool false,.slice none 0 0,.slice none 0 0,.bool false,.slice none 0 0] 25)=w1:=⟨_,rfl⟩
 have B1:Aside0 (Below w.heap.size w w1):=⟨by rw [← hw1,← hwa];exact bwa (bwa (Below.refl _ _) _) _⟩
 have BK:Aside0 (w1.heap[w.heap.size]?=some (.cells #[.string m,.bool b1,.bool b2,.bool b3,.bool b4,.bool b5,.bool b6,.slice A7 us.length c7,.slice A8 ms.length c8,.bool b9,.slice A10 vs.length c10] 25 (0,0))):=⟨by rw [← hw1,← hwa];exact bka (blk_new w _) _⟩
 have BL:Aside0 (w1.heap[w.heap.size+1]?=some (.cells #[.string ⟨#[]⟩,.bool false,.bool false,.bool false,.bool false,.bool false,.bool false,.slice none 0 0,.slice none 0 0,.bool false,.slice none 0 0] 25 (0,0))):=⟨by rw [← hw1];have q:=blk_new wa (.cells #[.string ⟨#[]⟩,.bool false,.bool false,.bool false,.bool false,.bool false,.bool false,.slice none 0 0,.slice none 0 0,.bool false,.slice none 0 0] 25);rw [za] at q;exact q⟩
 rw [hwa,hw1]
 clear hwa za hw1
 obtain ⟨g,hg⟩:∃ g,w.heap.size=g:=⟨_,rfl⟩
 have HGG:=amk (Nat.le_of_eq hg)
 rw [hg] at BK BL
 rw [hg]
 clear hg
 have qc0:w1.cell? ⟨g+1,0,none⟩=some (.string ⟨#[]⟩):=(bkc BL.out 0).trans rfl
 have qf0:=bkf BL.out 0
 have qc1:w1.cell? ⟨g+1,1,none⟩=some (.bool false):=(bkc BL.out 1).trans rfl
 have qf1:=bkf BL.out 1
 have qc2:w1.cell? ⟨g+1,2,none⟩=some (.bool false):=(bkc BL.out 2).trans rfl
 have qf2:=bkf BL.out 2
 have qc3:w1.cell? ⟨g+1,3,none⟩=some (.bool false):=(bkc BL.out 3).trans rfl
 have qf3:=bkf BL.out 3
 have qc4:w1.cell? ⟨g+1,4,none⟩=some (.bool false):=(bkc BL.out 4).trans rfl
 have qf4:=bkf BL.out 4
 have qc5:w1.cell? ⟨g+1,5,none⟩=some (.bool false):=(bkc BL.out 5).trans rfl
 have qf5:=bkf BL.out 5
 have qc6:w1.cell? ⟨g+1,6,none⟩=some (.bool false):=(bkc BL.out 6).trans rfl
 have qf6:=bkf BL.out 6
 have qc7:w1.cell? ⟨g+1,7,none⟩=some (.slice none 0 0):=(bkc BL.out 7).trans rfl
 have qf7:=bkf BL.out 7
 have qc8:w1.cell? ⟨g+1,8,none⟩=some (.slice none 0 0):=(bkc BL.out 8).trans rfl
 have qf8:=bkf BL.out 8
 have qc9:w1.cell? ⟨g+1,9,none⟩=some (.bool false):=(bkc BL.out 9).trans rfl
 have qf9:=bkf BL.out 9
 have qc10:w1.cell? ⟨g+1,10,none⟩=some (.slice none 0 0):=(bkc BL.out 10).trans rfl
 have qf10:=bkf BL.out 10
 go_wp2_with fail
 clear qc0 qf0 qc1 qf1 qc2 qf2 qc3 qf3 qc4 qf4 qc5 qf5 qc6 qf6 qc7 qf7 qc8 qf8 qc9 qf9 qc10 qf10
 obtain ⟨w9,hw9,BK9,U9⟩:=flt_stored (g+1) w1 (.string ⟨#[]⟩) (.bool false) (.bool false) (.bool false) (.bool false) (.bool false) (.bool false) (.slice none 0 0) (.slice none 0 0) (.bool false) (.slice none 0 0) _ _ _ _ _ _ _ _ _ _ _ BL.out
 rw [hw9]
 clear hw9
 exact bodyPost_ret (flt_results69 _ w9 (g+1) _ _ _ _ _ _ _ _ _ _ _ _ rfl rfl BK9) rfl ⟨rfl,B1.out.trans (U9.toBelow (B:=w.heap.size) (fun k hk=>by rw [hk];have:=HGG.out;omega) B1.out.size)⟩

set_option maxHeartbeats 8000000 in
set_option maxRecDepth 100000 in
theorem add_n2 (m:ByteArray) (b1 b2 b3 b4 b5 b6:Bool) (A7:Option Addr) (c7:Nat) (us:List ByteArray) (A8:Option Addr) (c8:Nat) (ms:List ByteArray) (b9:Bool) (A10:Option Addr) (c10:Nat) (vs:List Int) (n:Int) (w:World) (h7:ReadsOf Value.string ByteArray.empty w A7 us.length us) (h8:ReadsOf Value.string ByteArray.empty w A8 ms.length ms) (h10:ReadsOf (Value.int .i64) 0 w A10 vs.length vs) (e0:0≤n) (e:4094 < n) :
  Calls Try.prog 69 #[.agg #[.string m,.bool b1,.bool b2,.bool b3,.bool b4,.bool b5,.bool b6,.slice A7 us.length c7,.slice A8 ms.length c8,.bool b9,.slice A10 vs.length c10],.int .i64 n] w fun e w'=>e=.returned (.tuple #[.agg #[.string ⟨#[]⟩,.bool false,.bool false,.bool false,.bool false,.bool false,.bool false,.slice none 0 0,.slice none 0 0,.bool false,.slice none 0 0],.int .i64 1])∧Below w.heap.size w w':=by
 have t1:decide (n < 0)=false:=decide_eq_false (by omega)
 have t2:decide (4094 < n)=true:=decide_eq_true e
 clear e e0
 have R7:=amk h7
 have R8:=amk h8
 have R10:=amk h10
 clear h7 h8 h10
 have hu:=Try.underlying25
 have hmf:=hmf
 go_enter Try.func69,Try.ntmps69
 go_upto_region 1 with (fail)
 obtain ⟨wa,hwa⟩:∃ wa,(w.alloc (.cells #[.string m,.bool b1,.bool b2,.bool b3,.bool b4,.bool b5,.bool b6,.slice A7 us.length c7,.slice A8 ms.length c8,.bool b9,.slice A10 vs.length c10] 25))=wa:=⟨_,rfl⟩
 have za:wa.heap.size=w.heap.size+1:=by rw [← hwa];simp
 obtain ⟨w1,hw1⟩:∃ w1,wa.alloc (.cells #[.string ⟨#[]⟩,.bool false,.bool false,.bool false,.bool false,.bool false,.bool false,.slice none 0 0,.slice none 0 0,.bool false,.slice none 0 0] 25)=w1:=⟨_,rfl⟩
 have B1:Aside0 (Below w.heap.size w w1):=⟨by rw [← hw1,← hwa];exact bwa (bwa (Below.refl _ _) _) _⟩
 have BK:Aside0 (w1.heap[w.heap.size]?=some (.cells #[.string m,.bool b1,.bool b2,.bool b3,.bool b4,.bool b5,.bool b6,.slice A7 us.length c7,.slice A8 ms.length c8,.bool b9,.slice A10 vs.length c10] 25 (0,0))):=⟨by rw [← hw1,← hwa];exact bka (blk_new w _) _⟩
 have BL:Aside0 (w1.heap[w.heap.size+1]?=some (.cells #[.string ⟨#[]⟩,.bool false,.bool false,.bool false,.bool false,.bool false,.bool false,.slice none 0 0,.slice none 0 0,.bool false,.slice none 0 0] 25 (0,0))):=⟨by rw [← hw1];have q:=blk_new wa (.cells #[.string ⟨#[]⟩,.bool false,.bool false,.bool false,.bool false,.bool false,.bool false,.slice none 0 0,.slice none 0 0,.bool false,.slice none 0 0] 25);rw [za] at q;exact q⟩
 rw [hwa,hw1]
 clear hwa za hw1
 obtain ⟨g,hg⟩:∃ g,w.heap.size=g:=⟨_,rfl⟩
 have HGG:=amk (Nat.le_of_eq hg)
 rw [hg] at BK BL
 rw [hg]
 clear hg
 have qc0:w1.cell? ⟨g+1,0,none⟩=some (.string ⟨#[]⟩):=(bkc BL.out 0).trans rfl
 have qf0:=bkf BL.out 0
 have qc1:w1.cell? ⟨g+1,1,none⟩=some (.bool false):=(bkc BL.out 1).trans rfl
 have qf1:=bkf BL.out 1
 have qc2:w1.cell? ⟨g+1,2,none⟩=some (.bool false):=(bkc BL.out 2).trans rfl
 have qf2:=bkf BL.out 2
 have qc3:w1.cell? ⟨g+1,3,none⟩=some (.bool false):=(bkc BL.out 3).trans rfl
 have qf3:=bkf BL.out 3
 have qc4:w1.cell? ⟨g+1,4,none⟩=some (.bool false):=(bkc BL.out 4).trans rfl
 have qf4:=bkf BL.out 4
 have qc5:w1.cell? ⟨g+1,5,none⟩=some (.bool false):=(bkc BL.out 5).trans rfl
 have qf5:=bkf BL.out 5
 have qc6:w1.cell? ⟨g+1,6,none⟩=some (.bool false):=(bkc BL.out 6).trans rfl
 have qf6:=bkf BL.out 6
 have qc7:w1.cell? ⟨g+1,7,none⟩=some (.slice none 0 0):=(bkc BL.out 7).trans rfl
 have qf7:=bkf BL.out 7
 have qc8:w1.cell? ⟨g+1,8,none⟩=some (.slice none 0 0):=(bkc BL.out 8).trans rfl
 have qf8:=bkf BL.out 8
 have qc9:w1.cell? ⟨g+1,9,none⟩=some (.bool false):=(bkc BL.out 9).trans rfl
 have qf9:=bkf BL.out 9
 have qc10:w1.cell? ⟨g+1,10,none⟩=some (.slice none 0 0):=(bkc BL.out 10).trans rfl
 have qf10:=bkf BL.out 10
 go_wp2_with fail
 clear qc0 qf0 qc1 qf1 qc2 qf2 qc3 qf3 qc4 qf4 qc5 qf5 qc6 qf6 qc7 qf7 qc8 qf8 qc9 qf9 qc10 qf10
 obtain ⟨w9,hw9,BK9,U9⟩:=flt_stored (g+1) w1 (.string ⟨#[]⟩) (.bool false) (.bool false) (.bool false) (.bool false) (.bool false) (.bool false) (.slice none 0 0) (.slice none 0 0) (.bool false) (.slice none 0 0) _ _ _ _ _ _ _ _ _ _ _ BL.out
 rw [hw9]
 clear hw9
 exact bodyPost_ret (flt_results69 _ w9 (g+1) _ _ _ _ _ _ _ _ _ _ _ _ rfl rfl BK9) rfl ⟨rfl,B1.out.trans (U9.toBelow (B:=w.heap.size) (fun k hk=>by rw [hk];have:=HGG.out;omega) B1.out.size)⟩

set_option maxHeartbeats 8000000 in
set_option maxRecDepth 100000 in
theorem add_n3 (m:ByteArray) (b1 b2 b3 b4 b5 b6:Bool) (A7:Option Addr) (c7:Nat) (us:List ByteArray) (A8:Option Addr) (c8:Nat) (ms:List ByteArray) (b9:Bool) (A10:Option Addr) (c10:Nat) (vs:List Int) (n:Int) (w:World) (h7:ReadsOf Value.string ByteArray.empty w A7 us.length us) (h8:ReadsOf Value.string ByteArray.empty w A8 ms.length ms) (h10:ReadsOf (Value.int .i64) 0 w A10 vs.length vs) (e0:0≤n) (e1:n≤4094) (e:netsS vs=false) :
  Calls Try.prog 69 #[.agg #[.string m,.bool b1,.bool b2,.bool b3,.bool b4,.bool b5,.bool b6,.slice A7 us.length c7,.slice A8 ms.length c8,.bool b9,.slice A10 vs.length c10],.int .i64 n] w fun e w'=>e=.returned (.tuple #[.agg #[.string ⟨#[]⟩,.bool false,.bool false,.bool false,.bool false,.bool false,.bool false,.slice none 0 0,.slice none 0 0,.bool false,.slice none 0 0],.int .i64 1])∧Below w.heap.size w w':=by
 have t1:decide (n < 0)=false:=decide_eq_false (by omega)
 have t2:decide (4094 < n)=false:=decide_eq_false (by omega)
 have HV:=amk e
 clear e e0 e1
 have R7:=amk h7
 have R8:=amk h8
 have R10:=amk h10
 clear h7 h8 h10
 have hu:=Try.underlying25
 have hmf:=hmf
 go_enter Try.func69,Try.ntmps69
 go_upto_region 1 with (fail)
 obtain ⟨wa,hwa⟩:∃ wa,(w.alloc (.cells #[.string m,.bool b1,.bool b2,.bool b3,.bool b4,.bool b5,.bool b6,.slice A7 us.length c7,.slice A8 ms.length c8,.bool b9,.slice A10 vs.length c10] 25))=wa:=⟨_,rfl⟩
 have za:wa.heap.size=w.heap.size+1:=by rw [← hwa];simp
 obtain ⟨w1,hw1⟩:∃ w1,wa.alloc (.cells #[.string ⟨#[]⟩,.bool false,.bool false,.bool false,.bool false,.bool false,.bool false,.slice none 0 0,.slice none 0 0,.bool false,.slice none 0 0] 25)=w1:=⟨_,rfl⟩
 have B1:Aside0 (Below w.heap.size w w1):=⟨by rw [← hw1,← hwa];exact bwa (bwa (Below.refl _ _) _) _⟩
 have BK:Aside0 (w1.heap[w.heap.size]?=some (.cells #[.string m,.bool b1,.bool b2,.bool b3,.bool b4,.bool b5,.bool b6,.slice A7 us.length c7,.slice A8 ms.length c8,.bool b9,.slice A10 vs.length c10] 25 (0,0))):=⟨by rw [← hw1,← hwa];exact bka (blk_new w _) _⟩
 have BL:Aside0 (w1.heap[w.heap.size+1]?=some (.cells #[.string ⟨#[]⟩,.bool false,.bool false,.bool false,.bool false,.bool false,.bool false,.slice none 0 0,.slice none 0 0,.bool false,.slice none 0 0] 25 (0,0))):=⟨by rw [← hw1];have q:=blk_new wa (.cells #[.string ⟨#[]⟩,.bool false,.bool false,.bool false,.bool false,.bool false,.bool false,.slice none 0 0,.slice none 0 0,.bool false,.slice none 0 0] 25);rw [za] at q;exact q⟩
 rw [hwa,hw1]
 clear hwa za hw1
 obtain ⟨g,hg⟩:∃ g,w.heap.size=g:=⟨_,rfl⟩
 have HGG:=amk (Nat.le_of_eq hg)
 rw [hg] at BK BL
 rw [hg]
 clear hg
 have hc10:w1.cell? ⟨g,10,none⟩=some (.slice A10 vs.length c10):=(bkc BK.out 10).trans rfl
 go_wp2_with fail
 refine (nets_at A10 c10 vs w1 HV.out (R10.out.below B1.out)).mono ?_
 rintro e w2 ⟨rfl,k2⟩
 have B2:=amk (bws B1.out k2)
 have BL2:=amk (bkb BL.out k2)
 clear k2 hc10
 have qc0:w2.cell? ⟨g+1,0,none⟩=some (.string ⟨#[]⟩):=(bkc BL2.out 0).trans rfl
 have qf0:=bkf BL2.out 0
 have qc1:w2.cell? ⟨g+1,1,none⟩=some (.bool false):=(bkc BL2.out 1).trans rfl
 have qf1:=bkf BL2.out 1
 have qc2:w2.cell? ⟨g+1,2,none⟩=some (.bool false):=(bkc BL2.out 2).trans rfl
 have qf2:=bkf BL2.out 2
 have qc3:w2.cell? ⟨g+1,3,none⟩=some (.bool false):=(bkc BL2.out 3).trans rfl
 have qf3:=bkf BL2.out 3
 have qc4:w2.cell? ⟨g+1,4,none⟩=some (.bool false):=(bkc BL2.out 4).trans rfl
 have qf4:=bkf BL2.out 4
 have qc5:w2.cell? ⟨g+1,5,none⟩=some (.bool false):=(bkc BL2.out 5).trans rfl
 have qf5:=bkf BL2.out 5
 have qc6:w2.cell? ⟨g+1,6,none⟩=some (.bool false):=(bkc BL2.out 6).trans rfl
 have qf6:=bkf BL2.out 6
 have qc7:w2.cell? ⟨g+1,7,none⟩=some (.slice none 0 0):=(bkc BL2.out 7).trans rfl
 have qf7:=bkf BL2.out 7
 have qc8:w2.cell? ⟨g+1,8,none⟩=some (.slice none 0 0):=(bkc BL2.out 8).trans rfl
 have qf8:=bkf BL2.out 8
 have qc9:w2.cell? ⟨g+1,9,none⟩=some (.bool false):=(bkc BL2.out 9).trans rfl
 have qf9:=bkf BL2.out 9
 have qc10:w2.cell? ⟨g+1,10,none⟩=some (.slice none 0 0):=(bkc BL2.out 10).trans rfl
 have qf10:=bkf BL2.out 10
 go_wp2_with fail
 clear qc0 qf0 qc1 qf1 qc2 qf2 qc3 qf3 qc4 qf4 qc5 qf5 qc6 qf6 qc7 qf7 qc8 qf8 qc9 qf9 qc10 qf10
 obtain ⟨w9,hw9,BK9,U9⟩:=flt_stored (g+1) w2 (.string ⟨#[]⟩) (.bool false) (.bool false) (.bool false) (.bool false) (.bool false) (.bool false) (.slice none 0 0) (.slice none 0 0) (.bool false) (.slice none 0 0) _ _ _ _ _ _ _ _ _ _ _ BL2.out
 rw [hw9]
 clear hw9
 exact bodyPost_ret (flt_results69 _ w9 (g+1) _ _ _ _ _ _ _ _ _ _ _ _ rfl rfl BK9) rfl ⟨rfl,B2.out.trans (U9.toBelow (B:=w.heap.size) (fun k hk=>by rw [hk];have:=HGG.out;omega) B2.out.size)⟩

set_option maxHeartbeats 8000000 in
set_option maxRecDepth 100000 in
theorem add_ok (m:ByteArray) (b1 b2 b3 b4 b5 b6:Bool) (A7:Option Addr) (c7:Nat) (us:List ByteArray) (A8:Option Addr) (c8:Nat) (ms:List ByteArray) (b9:Bool) (A10:Option Addr) (c10:Nat) (vs:List Int) (n:Int) (w:World) (h7:ReadsOf Value.string ByteArray.empty w A7 us.length us) (h8:ReadsOf Value.string ByteArray.empty w A8 ms.length ms) (h10:ReadsOf (Value.int .i64) 0 w A10 vs.length vs) (e7:us.length≤100000) (e8:ms.length≤100000) (e10:vs.length≤100000) (e0:0≤n) (e1:n≤4094) (e:netsS vs=true) :
  Calls Try.prog 69 #[.agg #[.string m,.bool b1,.bool b2,.bool b3,.bool b4,.bool b5,.bool b6,.slice A7 us.length c7,.slice A8 ms.length c8,.bool b9,.slice A10 vs.length c10],.int .i64 n] w fun e w'=>∃ X7 y7 X8 y8 X y,e=.returned (.tuple #[.agg #[.string m,.bool b1,.bool b2,.bool b3,.bool b4,.bool b5,.bool b6,.slice X7 us.length y7,.slice X8 ms.length y8,.bool b9,.slice X (insS n vs).length y],.int .i64 0])∧us.length≤y7∧ms.length≤y8∧(insS n vs).length≤y∧w'.ownsRow w.heap.size 9 1 (.slice X7 us.length y7) us.length (encs Value.string us)∧w'.ownsRow w.heap.size 9 1 (.slice X8 ms.length y8) ms.length (encs Value.string ms)∧w'.ownsRow w.heap.size 3 1 (.slice X (insS n vs).length y) (insS n vs).length (encs (Value.int .i64) (insS n vs))∧Below w.heap.size w w':=by
 have t1:decide (n < 0)=false:=decide_eq_false (by omega)
 have t2:decide (4094 < n)=false:=decide_eq_false (by omega)
 have HV:=amk e
 clear e
 have R7:=amk h7
 have R8:=amk h8
 have R10:=amk h10
 clear h7 h8 h10
 have hu:=Try.underlying25
 have hmf:=hmf
 go_enter Try.func69,Try.ntmps69
 go_upto_region 1 with (fail)
 obtain ⟨wa,hwa⟩:∃ wa,(w.alloc (.cells #[.string m,.bool b1,.bool b2,.bool b3,.bool b4,.bool b5,.bool b6,.slice A7 us.length c7,.slice A8 ms.length c8,.bool b9,.slice A10 vs.length c10] 25))=wa:=⟨_,rfl⟩
 have za:wa.heap.size=w.heap.size+1:=by rw [← hwa];simp
 obtain ⟨w1,hw1⟩:∃ w1,wa.alloc (.cells #[.string ⟨#[]⟩,.bool false,.bool false,.bool false,.bool false,.bool false,.bool false,.slice none 0 0,.slice none 0 0,.bool false,.slice none 0 0] 25)=w1:=⟨_,rfl⟩
 have B1:Aside0 (Below w.heap.size w w1):=⟨by rw [← hw1,← hwa];exact bwa (bwa (Below.refl _ _) _) _⟩
 have BK:Aside0 (w1.heap[w.heap.size]?=some (.cells #[.string m,.bool b1,.bool b2,.bool b3,.bool b4,.bool b5,.bool b6,.slice A7 us.length c7,.slice A8 ms.length c8,.bool b9,.slice A10 vs.length c10] 25 (0,0))):=⟨by rw [← hw1,← hwa];exact bka (blk_new w _) _⟩
 have BL:Aside0 (w1.heap[w.heap.size+1]?=some (.cells #[.string ⟨#[]⟩,.bool false,.bool false,.bool false,.bool false,.bool false,.bool false,.slice none 0 0,.slice none 0 0,.bool false,.slice none 0 0] 25 (0,0))):=⟨by rw [← hw1];have q:=blk_new wa (.cells #[.string ⟨#[]⟩,.bool false,.bool false,.bool false,.bool false,.bool false,.bool false,.slice none 0 0,.slice none 0 0,.bool false,.slice none 0 0] 25);rw [za] at q;exact q⟩
 rw [hwa,hw1]
 clear hwa za hw1
 obtain ⟨g,hg⟩:∃ g,w.heap.size=g:=⟨_,rfl⟩
 have HGG:=amk (Nat.le_of_eq hg)
 rw [hg] at BK BL
 rw [hg]
 clear hg
 have hc10:w1.cell? ⟨g,10,none⟩=some (.slice A10 vs.length c10):=(bkc BK.out 10).trans rfl
 go_wp2_with fail
 refine (nets_at A10 c10 vs w1 HV.out (R10.out.below B1.out)).mono ?_
 rintro e w2 ⟨rfl,k2⟩
 have B2:=amk (bws B1.out k2)
 have BK2:=amk (bkb BK.out k2)
 have BL2:=amk (bkb BL.out k2)
 clear k2 hc10
 have pc0:w2.cell? ⟨g,0,none⟩=some (.string m):=(bkc BK2.out 0).trans rfl
 have pc1:w2.cell? ⟨g,1,none⟩=some (.bool b1):=(bkc BK2.out 1).trans rfl
 have pc2:w2.cell? ⟨g,2,none⟩=some (.bool b2):=(bkc BK2.out 2).trans rfl
 have pc3:w2.cell? ⟨g,3,none⟩=some (.bool b3):=(bkc BK2.out 3).trans rfl
 have pc4:w2.cell? ⟨g,4,none⟩=some (.bool b4):=(bkc BK2.out 4).trans rfl
 have pc5:w2.cell? ⟨g,5,none⟩=some (.bool b5):=(bkc BK2.out 5).trans rfl
 have pc6:w2.cell? ⟨g,6,none⟩=some (.bool b6):=(bkc BK2.out 6).trans rfl
 have pc7:w2.cell? ⟨g,7,none⟩=some (.slice A7 us.length c7):=(bkc BK2.out 7).trans rfl
 have pc8:w2.cell? ⟨g,8,none⟩=some (.slice A8 ms.length c8):=(bkc BK2.out 8).trans rfl
 have pc9:w2.cell? ⟨g,9,none⟩=some (.bool b9):=(bkc BK2.out 9).trans rfl
 have pc10:w2.cell? ⟨g,10,none⟩=some (.slice A10 vs.length c10):=(bkc BK2.out 10).trans rfl
 go_wp2_with fail
 clear pc0 pc1 pc2 pc3 pc4 pc5 pc6 pc7 pc8 pc9 pc10
 refine (copied_calls m b1 b2 b3 b4 b5 b6 A7 c7 us A8 c8 ms b9 A10 c10 vs w2 (R7.out.below B2.out) (R8.out.below B2.out) (R10.out.below B2.out) (by omega) (by omega) (by omega)).mono ?_
 rintro e w3 ⟨X7,y7,X8,y8,X10,y10,rfl,l7,l8,l10,o7,o8,o10,k3⟩
 have B3:=amk (bws B2.out k3)
 have BK3:=amk (bkb BK2.out k3)
 have BL3:=amk (bkb BL2.out k3)
 have L7:=amk l7
 have L8:=amk l8
 have O7:=amk (own_weaken o7 B2.out.size)
 have O8:=amk (own_weaken o8 B2.out.size)
 have O10:=amk (own_weaken o10 B2.out.size)
 clear l7 l8 l10 o7 o8 o10 k3
 have pc0:w3.cell? ⟨g,0,none⟩=some (.string m):=(bkc BK3.out 0).trans rfl
 have pf0:=bkf BK3.out 0
 have pc1:w3.cell? ⟨g,1,none⟩=some (.bool b1):=(bkc BK3.out 1).trans rfl
 have pf1:=bkf BK3.out 1
 have pc2:w3.cell? ⟨g,2,none⟩=some (.bool b2):=(bkc BK3.out 2).trans rfl
 have pf2:=bkf BK3.out 2
 have pc3:w3.cell? ⟨g,3,none⟩=some (.bool b3):=(bkc BK3.out 3).trans rfl
 have pf3:=bkf BK3.out 3
 have pc4:w3.cell? ⟨g,4,none⟩=some (.bool b4):=(bkc BK3.out 4).trans rfl
 have pf4:=bkf BK3.out 4
 have pc5:w3.cell? ⟨g,5,none⟩=some (.bool b5):=(bkc BK3.out 5).trans rfl
 have pf5:=bkf BK3.out 5
 have pc6:w3.cell? ⟨g,6,none⟩=some (.bool b6):=(bkc BK3.out 6).trans rfl
 have pf6:=bkf BK3.out 6
 have pc7:w3.cell? ⟨g,7,none⟩=some (.slice A7 us.length c7):=(bkc BK3.out 7).trans rfl
 have pf7:=bkf BK3.out 7
 have pc8:w3.cell? ⟨g,8,none⟩=some (.slice A8 ms.length c8):=(bkc BK3.out 8).trans rfl
 have pf8:=bkf BK3.out 8
 have pc9:w3.cell? ⟨g,9,none⟩=some (.bool b9):=(bkc BK3.out 9).trans rfl
 have pf9:=bkf BK3.out 9
 have pc10:w3.cell? ⟨g,10,none⟩=some (.slice A10 vs.length c10):=(bkc BK3.out 10).trans rfl
 have pf10:=bkf BK3.out 10
 go_upto_region 4 with (fail)
 clear pc0 pf0 pc1 pf1 pc2 pf2 pc3 pf3 pc4 pf4 pc5 pf5 pc6 pf6 pc7 pf7 pc8 pf8 pc9 pf9 pc10 pf10
 obtain ⟨w4,hw4,k4,u4⟩:=flt_stored g w3 (.string m) (.bool b1) (.bool b2) (.bool b3) (.bool b4) (.bool b5) (.bool b6) (.slice X7 us.length y7) (.slice X8 ms.length y8) (.bool b9) (.slice X10 vs.length y10) _ _ _ _ _ _ _ _ _ _ _ BK3.out
 rw [hw4]
 clear hw4
 have BK4:=amk k4
 have BL4:=amk (u4.blk BL3.out (by omega))
 have P7:=amk (u4.own O7.out (fun k hk e=>own_ne O7.out BK3.out (by decide) (by rw [hk,← e])))
 have P8:=amk (u4.own O8.out (fun k hk e=>own_ne O8.out BK3.out (by decide) (by rw [hk,← e])))
 have P10:=amk (u4.own O10.out (fun k hk e=>own_ne O10.out BK3.out (by decide) (by rw [hk,← e])))
 have B4:=amk (B3.out.trans (u4.toBelow (B:=w.heap.size) (fun k hk=>by rw [hk];exact HGG.out) B3.out.size))
 clear k4 u4 O7 O8 O10 BK3 BL3
 have hc10:w4.cell? ⟨g,10,none⟩=some (.slice X10 vs.length y10):=(bkc BK4.out 10).trans rfl
 have hz10:=bkf BK4.out 10
 have RS:=amk (nets_iff.1 HV.out).1
 go_wp2_with fail
 refine (bs_calls X10 y10 vs n w4 (own_reads_of' P10.out) (by omega) RS.out).mono ?_
 rintro e w5 ⟨rfl,k5⟩
 have B5:=amk (bws B4.out k5)
 have BK5:=amk (bkb BK4.out k5)
 have BL5:=amk (bkb BL4.out k5)
 have Q7:=amk (pw_own_below P7.out k5)
 have Q8:=amk (pw_own_below P8.out k5)
 have Q10:=amk (pw_own_below P10.out k5)
 clear k5 hc10 hz10 BK4 BL4 P7 P8 P10
 cases hct:vs.contains n with
 | true =>
  have HI:=amk (ins_in RS.out hct)
  clear hct
  have pc0:w5.cell? ⟨g,0,none⟩=some (.string m):=(bkc BK5.out 0).trans rfl
  have pc1:w5.cell? ⟨g,1,none⟩=some (.bool b1):=(bkc BK5.out 1).trans rfl
  have pc2:w5.cell? ⟨g,2,none⟩=some (.bool b2):=(bkc BK5.out 2).trans rfl
  have pc3:w5.cell? ⟨g,3,none⟩=some (.bool b3):=(bkc BK5.out 3).trans rfl
  have pc4:w5.cell? ⟨g,4,none⟩=some (.bool b4):=(bkc BK5.out 4).trans rfl
  have pc5:w5.cell? ⟨g,5,none⟩=some (.bool b5):=(bkc BK5.out 5).trans rfl
  have pc6:w5.cell? ⟨g,6,none⟩=some (.bool b6):=(bkc BK5.out 6).trans rfl
  have pc7:w5.cell? ⟨g,7,none⟩=some (.slice X7 us.length y7):=(bkc BK5.out 7).trans rfl
  have pc8:w5.cell? ⟨g,8,none⟩=some (.slice X8 ms.length y8):=(bkc BK5.out 8).trans rfl
  have pc9:w5.cell? ⟨g,9,none⟩=some (.bool b9):=(bkc BK5.out 9).trans rfl
  have pc10:w5.cell? ⟨g,10,none⟩=some (.slice X10 vs.length y10):=(bkc BK5.out 10).trans rfl
  have qc0:w5.cell? ⟨g+1,0,none⟩=some (.string ⟨#[]⟩):=(bkc BL5.out 0).trans rfl
  have qf0:=bkf BL5.out 0
  have qc1:w5.cell? ⟨g+1,1,none⟩=some (.bool false):=(bkc BL5.out 1).trans rfl
  have qf1:=bkf BL5.out 1
  have qc2:w5.cell? ⟨g+1,2,none⟩=some (.bool false):=(bkc BL5.out 2).trans rfl
  have qf2:=bkf BL5.out 2
  have qc3:w5.cell? ⟨g+1,3,none⟩=some (.bool false):=(bkc BL5.out 3).trans rfl
  have qf3:=bkf BL5.out 3
  have qc4:w5.cell? ⟨g+1,4,none⟩=some (.bool false):=(bkc BL5.out 4).trans rfl
  have qf4:=bkf BL5.out 4
  have qc5:w5.cell? ⟨g+1,5,none⟩=some (.bool false):=(bkc BL5.out 5).trans rfl
  have qf5:=bkf BL5.out 5
  have qc6:w5.cell? ⟨g+1,6,none⟩=some (.bool false):=(bkc BL5.out 6).trans rfl
  have qf6:=bkf BL5.out 6
  have qc7:w5.cell? ⟨g+1,7,none⟩=some (.slice none 0 0):=(bkc BL5.out 7).trans rfl
  have qf7:=bkf BL5.out 7
  have qc8:w5.cell? ⟨g+1,8,none⟩=some (.slice none 0 0):=(bkc BL5.out 8).trans rfl
  have qf8:=bkf BL5.out 8
  have qc9:w5.cell? ⟨g+1,9,none⟩=some (.bool false):=(bkc BL5.out 9).trans rfl
  have qf9:=bkf BL5.out 9
  have qc10:w5.cell? ⟨g+1,10,none⟩=some (.slice none 0 0):=(bkc BL5.out 10).trans rfl
  have qf10:=bkf BL5.out 10
  go_wp2_with fail
  clear pc0 pc1 pc2 pc3 pc4 pc5 pc6 pc7 pc8 pc9 pc10
  clear qc0 qf0 qc1 qf1 qc2 qf2 qc3 qf3 qc4 qf4 qc5 qf5 qc6 qf6 qc7 qf7 qc8 qf8 qc9 qf9 qc10 qf10
  obtain ⟨w9,hw9,BK9,U9⟩:=flt_stored (g+1) w5 (.string m) (.bool b1) (.bool b2) (.bool b3) (.bool b4) (.bool b5) (.bool b6) (.slice X7 us.length y7) (.slice X8 ms.length y8) (.bool b9) (.slice X10 vs.length y10) _ _ _ _ _ _ _ _ _ _ _ BL5.out
  rw [hw9]
  clear hw9
  rw [HI.out]
  have T7:=amk (U9.own Q7.out (fun k hk e=>own_ne Q7.out BL5.out (by decide) (by rw [hk,← e])))
  have T8:=amk (U9.own Q8.out (fun k hk e=>own_ne Q8.out BL5.out (by decide) (by rw [hk,← e])))
  have T10:=amk (U9.own Q10.out (fun k hk e=>own_ne Q10.out BL5.out (by decide) (by rw [hk,← e])))
  exact bodyPost_ret (flt_results69 _ w9 (g+1) _ _ _ _ _ _ _ _ _ _ _ _ rfl rfl BK9) rfl ⟨X7,y7,X8,y8,X10,y10,rfl,L7.out,L8.out,own_le Q10.out,T7.out,T8.out,T10.out,B5.out.trans (U9.toBelow (B:=w.heap.size) (fun k hk=>by rw [hk];have:=HGG.out;omega) B5.out.size)⟩
 | false =>
  have HI:=amk (ins_out RS.out hct)
  have hlen:=ins_len RS.out hct
  have hcn:vs.countP (· < n)≤vs.length:=List.countP_le_length
  have HLN:=amk hlen
  clear hct hlen
  have hb10:w5.cell? ⟨g,10,none⟩=some (.slice X10 vs.length y10):=(bkc BK5.out 10).trans rfl
  have hz10:=bkf BK5.out 10
  go_wp2_with fail
  have BX:=amk (blk_new w5 (.cells #[.int .i64 n] 3))
  refine (insert_calls X10 vs.length y10 vs (vs.countP (· < n)) n w.heap.size w5.heap.size (w5.alloc (.cells #[.int .i64 n] 3)) rfl (by omega) hcn (Nat.le_trans B5.out.size (bwa (Below.refl _ _) _).size) (own_alloc Q10.out _) BX.out (own_ne_new Q10.out 0)).mono ?_
  rintro e w6 ⟨X,y,rfl,o6,u6⟩
  have BK6:=amk (u6.blk (bka BK5.out _) (fun e=>own_ne Q10.out BK5.out (by decide) e))
  have BL6:=amk (u6.blk (bka BL5.out _) (fun e=>own_ne Q10.out BL5.out (by decide) e))
  have S7:=amk (u6.own (own_alloc Q7.out _) (fun k hk e=>by rcases own_type_ne Q7.out Q10.out (by decide) with q | q;(rw [q] at hk;cases hk);exact q (hk.trans e)))
  have S8:=amk (u6.own (own_alloc Q8.out _) (fun k hk e=>by rcases own_type_ne Q8.out Q10.out (by decide) with q | q;(rw [q] at hk;cases hk);exact q (hk.trans e)))
  have S10:=amk o6
  have B6:=amk ((bwa B5.out (.cells #[.int .i64 n] 3)).trans (u6.toBelow (B:=w.heap.size) (fun k hk=>own_base Q10.out k hk.symm) (Nat.le_trans B5.out.size (bwa (Below.refl _ _) _).size)))
  clear o6 u6 hb10 hz10
  have hb10:w6.cell? ⟨g,10,none⟩=some (.slice X10 vs.length y10):=(bkc BK6.out 10).trans rfl
  have hz10:=bkf BK6.out 10
  go_upto_region 7 with (fail)
  clear hb10 hz10
  obtain ⟨w7,hw7⟩:∃ w7,w6.setCell ⟨g,10,none⟩ (.slice X (vs.length+1) y)=w7:=⟨_,rfl⟩
  have U7:Aside0 (Upd w6 w7 (fun k=>k=g)):=⟨by rw [← hw7];exact (Upd.refl w6 (fun k=>k=g)).set (p:=⟨g,10,none⟩) (.inl rfl) _⟩
  have BK7:Aside0 (w7.heap[g]?=some (.cells #[.string m,.bool b1,.bool b2,.bool b3,.bool b4,.bool b5,.bool b6,.slice X7 us.length y7,.slice X8 ms.length y8,.bool b9,.slice X (vs.length+1) y] 25 (0,0))):=⟨by rw [← hw7];exact blk_put (cs:=#[.string m,.bool b1,.bool b2,.bool b3,.bool b4,.bool b5,.bool b6,.slice X7 us.length y7,.slice X8 ms.length y8,.bool b9,.slice X10 vs.length y10]) BK6.out 10 _ rfl⟩
  rw [hw7]
  clear hw7
  have BL7:=amk (U7.out.blk BL6.out (by omega))
  have B7:=amk (B6.out.trans (U7.out.toBelow (B:=w.heap.size) (fun k hk=>by rw [hk];exact HGG.out) B6.out.size))
  have D7:=amk (U7.out.own S7.out (fun k hk e=>own_ne S7.out BK6.out (by decide) (by rw [hk,← e])))
  have D8:=amk (U7.out.own S8.out (fun k hk e=>own_ne S8.out BK6.out (by decide) (by rw [hk,← e])))
  have D10:=amk (U7.out.own S10.out (fun k hk e=>own_ne S10.out BK6.out (by decide) (by rw [hk,← e])))
  have pc0:w7.cell? ⟨g,0,none⟩=some (.string m):=(bkc BK7.out 0).trans rfl
  have pc1:w7.cell? ⟨g,1,none⟩=some (.bool b1):=(bkc BK7.out 1).trans rfl
  have pc2:w7.cell? ⟨g,2,none⟩=some (.bool b2):=(bkc BK7.out 2).trans rfl
  have pc3:w7.cell? ⟨g,3,none⟩=some (.bool b3):=(bkc BK7.out 3).trans rfl
  have pc4:w7.cell? ⟨g,4,none⟩=some (.bool b4):=(bkc BK7.out 4).trans rfl
  have pc5:w7.cell? ⟨g,5,none⟩=some (.bool b5):=(bkc BK7.out 5).trans rfl
  have pc6:w7.cell? ⟨g,6,none⟩=some (.bool b6):=(bkc BK7.out 6).trans rfl
  have pc7:w7.cell? ⟨g,7,none⟩=some (.slice X7 us.length y7):=(bkc BK7.out 7).trans rfl
  have pc8:w7.cell? ⟨g,8,none⟩=some (.slice X8 ms.length y8):=(bkc BK7.out 8).trans rfl
  have pc9:w7.cell? ⟨g,9,none⟩=some (.bool b9):=(bkc BK7.out 9).trans rfl
  have pc10:w7.cell? ⟨g,10,none⟩=some (.slice X (vs.length+1) y):=(bkc BK7.out 10).trans rfl
  have qc0:w7.cell? ⟨g+1,0,none⟩=some (.string ⟨#[]⟩):=(bkc BL7.out 0).trans rfl
  have qf0:=bkf BL7.out 0
  have qc1:w7.cell? ⟨g+1,1,none⟩=some (.bool false):=(bkc BL7.out 1).trans rfl
  have qf1:=bkf BL7.out 1
  have qc2:w7.cell? ⟨g+1,2,none⟩=some (.bool false):=(bkc BL7.out 2).trans rfl
  have qf2:=bkf BL7.out 2
  have qc3:w7.cell? ⟨g+1,3,none⟩=some (.bool false):=(bkc BL7.out 3).trans rfl
  have qf3:=bkf BL7.out 3
  have qc4:w7.cell? ⟨g+1,4,none⟩=some (.bool false):=(bkc BL7.out 4).trans rfl
  have qf4:=bkf BL7.out 4
  have qc5:w7.cell? ⟨g+1,5,none⟩=some (.bool false):=(bkc BL7.out 5).trans rfl
  have qf5:=bkf BL7.out 5
  have qc6:w7.cell? ⟨g+1,6,none⟩=some (.bool false):=(bkc BL7.out 6).trans rfl
  have qf6:=bkf BL7.out 6
  have qc7:w7.cell? ⟨g+1,7,none⟩=some (.slice none 0 0):=(bkc BL7.out 7).trans rfl
  have qf7:=bkf BL7.out 7
  have qc8:w7.cell? ⟨g+1,8,none⟩=some (.slice none 0 0):=(bkc BL7.out 8).trans rfl
  have qf8:=bkf BL7.out 8
  have qc9:w7.cell? ⟨g+1,9,none⟩=some (.bool false):=(bkc BL7.out 9).trans rfl
  have qf9:=bkf BL7.out 9
  have qc10:w7.cell? ⟨g+1,10,none⟩=some (.slice none 0 0):=(bkc BL7.out 10).trans rfl
  have qf10:=bkf BL7.out 10
  go_wp2_with fail
  clear pc0 pc1 pc2 pc3 pc4 pc5 pc6 pc7 pc8 pc9 pc10
  clear qc0 qf0 qc1 qf1 qc2 qf2 qc3 qf3 qc4 qf4 qc5 qf5 qc6 qf6 qc7 qf7 qc8 qf8 qc9 qf9 qc10 qf10
  obtain ⟨w9,hw9,BK9,U9⟩:=flt_stored (g+1) w7 (.string m) (.bool b1) (.bool b2) (.bool b3) (.bool b4) (.bool b5) (.bool b6) (.slice X7 us.length y7) (.slice X8 ms.length y8) (.bool b9) (.slice X (vs.length+1) y) _ _ _ _ _ _ _ _ _ _ _ BL7.out
  rw [hw9]
  clear hw9
  have T7:=amk (U9.own D7.out (fun k hk e=>own_ne D7.out BL7.out (by decide) (by rw [hk,← e])))
  have T8:=amk (U9.own D8.out (fun k hk e=>own_ne D8.out BL7.out (by decide) (by rw [hk,← e])))
  have T10:=amk (U9.own D10.out (fun k hk e=>own_ne D10.out BL7.out (by decide) (by rw [hk,← e])))
  refine bodyPost_ret (flt_results69 _ w9 (g+1) _ _ _ _ _ _ _ _ _ _ _ _ rfl rfl BK9) rfl ⟨X7,y7,X8,y8,X,y,by rw [HI.out,HLN.out];rfl,L7.out,L8.out,by rw [HI.out,HLN.out];exact own_le D10.out,T7.out,T8.out,by rw [HI.out,HLN.out];exact T10.out,B7.out.trans (U9.toBelow (B:=w.heap.size) (fun k hk=>by rw [hk];have:=HGG.out;omega) B7.out.size)⟩

set_option maxHeartbeats 8000000 in
set_option maxRecDepth 100000 in
theorem del_n1 (m:ByteArray) (b1 b2 b3 b4 b5 b6:Bool) (A7:Option Addr) (c7:Nat) (us:List ByteArray) (A8:Option Addr) (c8:Nat) (ms:List ByteArray) (b9:Bool) (A10:Option Addr) (c10:Nat) (vs:List Int) (n:Int) (w:World) (h7:ReadsOf Value.string ByteArray.empty w A7 us.length us) (h8:ReadsOf Value.string ByteArray.empty w A8 ms.length ms) (h10:ReadsOf (Value.int .i64) 0 w A10 vs.length vs) (e:n < 0) :
  Calls Try.prog 70 #[.agg #[.string m,.bool b1,.bool b2,.bool b3,.bool b4,.bool b5,.bool b6,.slice A7 us.length c7,.slice A8 ms.length c8,.bool b9,.slice A10 vs.length c10],.int .i64 n] w fun e w'=>e=.returned (.tuple #[.agg #[.string ⟨#[]⟩,.bool false,.bool false,.bool false,.bool false,.bool false,.bool false,.slice none 0 0,.slice none 0 0,.bool false,.slice none 0 0],.int .i64 1])∧Below w.heap.size w w':=by
 have t1:decide (n < 0)=true:=decide_eq_true e
 clear e
 have R7:=amk h7
 have R8:=amk h8
 have R10:=amk h10
 clear h7 h8 h10
 have hu:=Try.underlying25
 have hmf:=hmf
 go_enter Try.func70,Try.ntmps70
 go_upto_region 1 with (fail)
 obtain ⟨wa,hwa⟩:∃ wa,(w.alloc (.cells #[.string m,.bool b1,.bool b2,.bool b3,.bool b4,.bool b5,.bool b6,.slice A7 us.length c7,.slice A8 ms.length c8,.bool b9,.slice A10 vs.length c10] 25))=wa:=⟨_,rfl⟩
 have za:wa.heap.size=w.heap.size+1:=by rw [← hwa];simp
 obtain ⟨wb,hwb⟩:∃ wb,wa.alloc (.cells #[.int .i64 n] 3)=wb:=⟨_,rfl⟩
 have zb:wb.heap.size=w.heap.size+2:=by rw [← hwb];simp [za]
 obtain ⟨w1,hw1⟩:∃ w1,wb.alloc (.cells #[.string ⟨#[]⟩,.bool false,.bool false,.bool false,.bool false,.bool false,.bool false,.slice none 0 0,.slice none 0 0,.bool false,.slice none 0 0] 25)=w1:=⟨_,rfl⟩
 have B1:Aside0 (Below w.heap.size w w1):=⟨by rw [← hw1,← hwb,← hwa];exact bwa (bwa (bwa (Below.refl _ _) _) _) _⟩
 have BK:Aside0 (w1.heap[w.heap.size]?=some (.cells #[.string m,.bool b1,.bool b2,.bool b3,.bool b4,.bool b5,.bool b6,.slice A7 us.length c7,.slice A8 ms.length c8,.bool b9,.slice A10 vs.length c10] 25 (0,0))):=⟨by rw [← hw1,← hwb,← hwa];exact bka (bka (blk_new w _) _) _⟩
 have BN:Aside0 (w1.heap[w.heap.size+1]?=some (.cells #[.int .i64 n] 3 (0,0))):=⟨by rw [← hw1,← hwb];have q:=bka (blk_new wa (.cells #[.int .i64 n] 3)) (.cells #[.string ⟨#[]⟩,.bool false,.bool false,.bool false,.bool false,.bool false,.bool false,.slice none 0 0,.slice none 0 0,.bool false,.slice none 0 0] 25);rw [za] at q;exact q⟩
 have BL:Aside0 (w1.heap[w.heap.size+2]?=some (.cells #[.string ⟨#[]⟩,.bool false,.bool false,.bool false,.bool false,.bool false,.bool false,.slice none 0 0,.slice none 0 0,.bool false,.slice none 0 0] 25 (0,0))):=⟨by rw [← hw1];have q:=blk_new wb (.cells #[.string ⟨#[]⟩,.bool false,.bool false,.bool false,.bool false,.bool false,.bool false,.slice none 0 0,.slice none 0 0,.bool false,.slice none 0 0] 25);rw [zb] at q;exact q⟩
 rw [hwa,hwb,hw1]
 clear hwa za hwb zb hw1
 obtain ⟨g,hg⟩:∃ g,w.heap.size=g:=⟨_,rfl⟩
 have HGG:=amk (Nat.le_of_eq hg)
 rw [hg] at BK BL BN
 rw [hg]
 clear hg
 have hn:=(bkc BN.out 0).trans rfl
 have hn1:w1.cell? ⟨g+1,0,none⟩=some (.int .i64 n):=(bkc BN.out 0).trans rfl
 clear hn
 have qc0:w1.cell? ⟨g+2,0,none⟩=some (.string ⟨#[]⟩):=(bkc BL.out 0).trans rfl
 have qf0:=bkf BL.out 0
 have qc1:w1.cell? ⟨g+2,1,none⟩=some (.bool false):=(bkc BL.out 1).trans rfl
 have qf1:=bkf BL.out 1
 have qc2:w1.cell? ⟨g+2,2,none⟩=some (.bool false):=(bkc BL.out 2).trans rfl
 have qf2:=bkf BL.out 2
 have qc3:w1.cell? ⟨g+2,3,none⟩=some (.bool false):=(bkc BL.out 3).trans rfl
 have qf3:=bkf BL.out 3
 have qc4:w1.cell? ⟨g+2,4,none⟩=some (.bool false):=(bkc BL.out 4).trans rfl
 have qf4:=bkf BL.out 4
 have qc5:w1.cell? ⟨g+2,5,none⟩=some (.bool false):=(bkc BL.out 5).trans rfl
 have qf5:=bkf BL.out 5
 have qc6:w1.cell? ⟨g+2,6,none⟩=some (.bool false):=(bkc BL.out 6).trans rfl
 have qf6:=bkf BL.out 6
 have qc7:w1.cell? ⟨g+2,7,none⟩=some (.slice none 0 0):=(bkc BL.out 7).trans rfl
 have qf7:=bkf BL.out 7
 have qc8:w1.cell? ⟨g+2,8,none⟩=some (.slice none 0 0):=(bkc BL.out 8).trans rfl
 have qf8:=bkf BL.out 8
 have qc9:w1.cell? ⟨g+2,9,none⟩=some (.bool false):=(bkc BL.out 9).trans rfl
 have qf9:=bkf BL.out 9
 have qc10:w1.cell? ⟨g+2,10,none⟩=some (.slice none 0 0):=(bkc BL.out 10).trans rfl
 have qf10:=bkf BL.out 10
 go_wp2_with fail
 clear qc0 qf0 qc1 qf1 qc2 qf2 qc3 qf3 qc4 qf4 qc5 qf5 qc6 qf6 qc7 qf7 qc8 qf8 qc9 qf9 qc10 qf10
 obtain ⟨w9,hw9,BK9,U9⟩:=flt_stored (g+2) w1 (.string ⟨#[]⟩) (.bool false) (.bool false) (.bool false) (.bool false) (.bool false) (.bool false) (.slice none 0 0) (.slice none 0 0) (.bool false) (.slice none 0 0) _ _ _ _ _ _ _ _ _ _ _ BL.out
 rw [hw9]
 clear hw9
 exact bodyPost_ret (flt_results70 _ w9 (g+2) _ _ _ _ _ _ _ _ _ _ _ _ rfl rfl BK9) rfl ⟨rfl,B1.out.trans (U9.toBelow (B:=w.heap.size) (fun k hk=>by rw [hk];have:=HGG.out;omega) B1.out.size)⟩

set_option maxHeartbeats 8000000 in
set_option maxRecDepth 100000 in
theorem del_n2 (m:ByteArray) (b1 b2 b3 b4 b5 b6:Bool) (A7:Option Addr) (c7:Nat) (us:List ByteArray) (A8:Option Addr) (c8:Nat) (ms:List ByteArray) (b9:Bool) (A10:Option Addr) (c10:Nat) (vs:List Int) (n:Int) (w:World) (h7:ReadsOf Value.string ByteArray.empty w A7 us.length us) (h8:ReadsOf Value.string ByteArray.empty w A8 ms.length ms) (h10:ReadsOf (Value.int .i64) 0 w A10 vs.length vs) (e0:0≤n) (e:4094 < n) :
  Calls Try.prog 70 #[.agg #[.string m,.bool b1,.bool b2,.bool b3,.bool b4,.bool b5,.bool b6,.slice A7 us.length c7,.slice A8 ms.length c8,.bool b9,.slice A10 vs.length c10],.int .i64 n] w fun e w'=>e=.returned (.tuple #[.agg #[.string ⟨#[]⟩,.bool false,.bool false,.bool false,.bool false,.bool false,.bool false,.slice none 0 0,.slice none 0 0,.bool false,.slice none 0 0],.int .i64 1])∧Below w.heap.size w w':=by
 have t1:decide (n < 0)=false:=decide_eq_false (by omega)
 have t2:decide (4094 < n)=true:=decide_eq_true e
 clear e e0
 have R7:=amk h7
 have R8:=amk h8
 have R10:=amk h10
 clear h7 h8 h10
 have hu:=Try.underlying25
 have hmf:=hmf
 go_enter Try.func70,Try.ntmps70
 go_upto_region 1 with (fail)
 obtain ⟨wa,hwa⟩:∃ wa,(w.alloc (.cells #[.string m,.bool b1,.bool b2,.bool b3,.bool b4,.bool b5,.bool b6,.slice A7 us.length c7,.slice A8 ms.length c8,.bool b9,.slice A10 vs.length c10] 25))=wa:=⟨_,rfl⟩
 have za:wa.heap.size=w.heap.size+1:=by rw [← hwa];simp
 obtain ⟨wb,hwb⟩:∃ wb,wa.alloc (.cells #[.int .i64 n] 3)=wb:=⟨_,rfl⟩
 have zb:wb.heap.size=w.heap.size+2:=by rw [← hwb];simp [za]
 obtain ⟨w1,hw1⟩:∃ w1,wb.alloc (.cells #[.string ⟨#[]⟩,.bool false,.bool false,.bool false,.bool false,.bool false,.bool false,.slice none 0 0,.slice none 0 0,.bool false,.slice none 0 0] 25)=w1:=⟨_,rfl⟩
 have B1:Aside0 (Below w.heap.size w w1):=⟨by rw [← hw1,← hwb,← hwa];exact bwa (bwa (bwa (Below.refl _ _) _) _) _⟩
 have BK:Aside0 (w1.heap[w.heap.size]?=some (.cells #[.string m,.bool b1,.bool b2,.bool b3,.bool b4,.bool b5,.bool b6,.slice A7 us.length c7,.slice A8 ms.length c8,.bool b9,.slice A10 vs.length c10] 25 (0,0))):=⟨by rw [← hw1,← hwb,← hwa];exact bka (bka (blk_new w _) _) _⟩
 have BN:Aside0 (w1.heap[w.heap.size+1]?=some (.cells #[.int .i64 n] 3 (0,0))):=⟨by rw [← hw1,← hwb];have q:=bka (blk_new wa (.cells #[.int .i64 n] 3)) (.cells #[.string ⟨#[]⟩,.bool false,.bool false,.bool false,.bool false,.bool false,.bool false,.slice none 0 0,.slice none 0 0,.bool false,.slice none 0 0] 25);rw [za] at q;exact q⟩
 have BL:Aside0 (w1.heap[w.heap.size+2]?=some (.cells #[.string ⟨#[]⟩,.bool false,.bool false,.bool false,.bool false,.bool false,.bool false,.slice none 0 0,.slice none 0 0,.bool false,.slice none 0 0] 25 (0,0))):=⟨by rw [← hw1];have q:=blk_new wb (.cells #[.string ⟨#[]⟩,.bool false,.bool false,.bool false,.bool false,.bool false,.bool false,.slice none 0 0,.slice none 0 0,.bool false,.slice none 0 0] 25);rw [zb] at q;exact q⟩
 rw [hwa,hwb,hw1]
 clear hwa za hwb zb hw1
 obtain ⟨g,hg⟩:∃ g,w.heap.size=g:=⟨_,rfl⟩
 have HGG:=amk (Nat.le_of_eq hg)
 rw [hg] at BK BL BN
 rw [hg]
 clear hg
 have hn:=(bkc BN.out 0).trans rfl
 have hn1:w1.cell? ⟨g+1,0,none⟩=some (.int .i64 n):=(bkc BN.out 0).trans rfl
 clear hn
 have qc0:w1.cell? ⟨g+2,0,none⟩=some (.string ⟨#[]⟩):=(bkc BL.out 0).trans rfl
 have qf0:=bkf BL.out 0
 have qc1:w1.cell? ⟨g+2,1,none⟩=some (.bool false):=(bkc BL.out 1).trans rfl
 have qf1:=bkf BL.out 1
 have qc2:w1.cell? ⟨g+2,2,none⟩=some (.bool false):=(bkc BL.out 2).trans rfl
 have qf2:=bkf BL.out 2
 have qc3:w1.cell? ⟨g+2,3,none⟩=some (.bool false):=(bkc BL.out 3).trans rfl
 have qf3:=bkf BL.out 3
 have qc4:w1.cell? ⟨g+2,4,none⟩=some (.bool false):=(bkc BL.out 4).trans rfl
 have qf4:=bkf BL.out 4
 have qc5:w1.cell? ⟨g+2,5,none⟩=some (.bool false):=(bkc BL.out 5).trans rfl
 have qf5:=bkf BL.out 5
 have qc6:w1.cell? ⟨g+2,6,none⟩=some (.bool false):=(bkc BL.out 6).trans rfl
 have qf6:=bkf BL.out 6
 have qc7:w1.cell? ⟨g+2,7,none⟩=some (.slice none 0 0):=(bkc BL.out 7).trans rfl
 have qf7:=bkf BL.out 7
 have qc8:w1.cell? ⟨g+2,8,none⟩=some (.slice none 0 0):=(bkc BL.out 8).trans rfl
 have qf8:=bkf BL.out 8
 have qc9:w1.cell? ⟨g+2,9,none⟩=some (.bool false):=(bkc BL.out 9).trans rfl
 have qf9:=bkf BL.out 9
 have qc10:w1.cell? ⟨g+2,10,none⟩=some (.slice none 0 0):=(bkc BL.out 10).trans rfl
 have qf10:=bkf BL.out 10
 go_wp2_with fail
 clear qc0 qf0 qc1 qf1 qc2 qf2 qc3 qf3 qc4 qf4 qc5 qf5 qc6 qf6 qc7 qf7 qc8 qf8 qc9 qf9 qc10 qf10
 obtain ⟨w9,hw9,BK9,U9⟩:=flt_stored (g+2) w1 (.string ⟨#[]⟩) (.bool false) (.bool false) (.bool false) (.bool false) (.bool false) (.bool false) (.slice none 0 0) (.slice none 0 0) (.bool false) (.slice none 0 0) _ _ _ _ _ _ _ _ _ _ _ BL.out
 rw [hw9]
 clear hw9
 exact bodyPost_ret (flt_results70 _ w9 (g+2) _ _ _ _ _ _ _ _ _ _ _ _ rfl rfl BK9) rfl ⟨rfl,B1.out.trans (U9.toBelow (B:=w.heap.size) (fun k hk=>by rw [hk];have:=HGG.out;omega) B1.out.size)⟩

set_option maxHeartbeats 8000000 in
set_option maxRecDepth 100000 in
theorem del_n3 (m:ByteArray) (b1 b2 b3 b4 b5 b6:Bool) (A7:Option Addr) (c7:Nat) (us:List ByteArray) (A8:Option Addr) (c8:Nat) (ms:List ByteArray) (b9:Bool) (A10:Option Addr) (c10:Nat) (vs:List Int) (n:Int) (w:World) (h7:ReadsOf Value.string ByteArray.empty w A7 us.length us) (h8:ReadsOf Value.string ByteArray.empty w A8 ms.length ms) (h10:ReadsOf (Value.int .i64) 0 w A10 vs.length vs) (e0:0≤n) (e1:n≤4094) (e:netsS vs=false) :
  Calls Try.prog 70 #[.agg #[.string m,.bool b1,.bool b2,.bool b3,.bool b4,.bool b5,.bool b6,.slice A7 us.length c7,.slice A8 ms.length c8,.bool b9,.slice A10 vs.length c10],.int .i64 n] w fun e w'=>e=.returned (.tuple #[.agg #[.string ⟨#[]⟩,.bool false,.bool false,.bool false,.bool false,.bool false,.bool false,.slice none 0 0,.slice none 0 0,.bool false,.slice none 0 0],.int .i64 1])∧Below w.heap.size w w':=by
 have t1:decide (n < 0)=false:=decide_eq_false (by omega)
 have t2:decide (4094 < n)=false:=decide_eq_false (by omega)
 have HV:=amk e
 clear e e0 e1
 have R7:=amk h7
 have R8:=amk h8
 have R10:=amk h10
 clear h7 h8 h10
 have hu:=Try.underlying25
 have hmf:=hmf
 go_enter Try.func70,Try.ntmps70
 go_upto_region 1 with (fail)
 obtain ⟨wa,hwa⟩:∃ wa,(w.alloc (.cells #[.string m,.bool b1,.bool b2,.bool b3,.bool b4,.bool b5,.bool b6,.slice A7 us.length c7,.slice A8 ms.length c8,.bool b9,.slice A10 vs.length c10] 25))=wa:=⟨_,rfl⟩
 have za:wa.heap.size=w.heap.size+1:=by rw [← hwa];simp
 obtain ⟨wb,hwb⟩:∃ wb,wa.alloc (.cells #[.int .i64 n] 3)=wb:=⟨_,rfl⟩
 have zb:wb.heap.size=w.heap.size+2:=by rw [← hwb];simp [za]
 obtain ⟨w1,hw1⟩:∃ w1,wb.alloc (.cells #[.string ⟨#[]⟩,.bool false,.bool false,.bool false,.bool false,.bool false,.bool false,.slice none 0 0,.slice none 0 0,.bool false,.slice none 0 0] 25)=w1:=⟨_,rfl⟩
 have B1:Aside0 (Below w.heap.size w w1):=⟨by rw [← hw1,← hwb,← hwa];exact bwa (bwa (bwa (Below.refl _ _) _) _) _⟩
 have BK:Aside0 (w1.heap[w.heap.size]?=some (.cells #[.string m,.bool b1,.bool b2,.bool b3,.bool b4,.bool b5,.bool b6,.slice A7 us.length c7,.slice A8 ms.length c8,.bool b9,.slice A10 vs.length c10] 25 (0,0))):=⟨by rw [← hw1,← hwb,← hwa];exact bka (bka (blk_new w _) _) _⟩
 have BN:Aside0 (w1.heap[w.heap.size+1]?=some (.cells #[.int .i64 n] 3 (0,0))):=⟨by rw [← hw1,← hwb];have q:=bka (blk_new wa (.cells #[.int .i64 n] 3)) (.cells #[.string ⟨#[]⟩,.bool false,.bool false,.bool false,.bool false,.bool false,.bool false,.slice none 0 0,.slice none 0 0,.bool false,.slice none 0 0] 25);rw [za] at q;exact q⟩
 have BL:Aside0 (w1.heap[w.heap.size+2]?=some (.cells #[.string ⟨#[]⟩,.bool false,.bool false,.bool false,.bool false,.bool false,.bool false,.slice none 0 0,.slice none 0 0,.bool false,.slice none 0 0] 25 (0,0))):=⟨by rw [← hw1];have q:=blk_new wb (.cells #[.string ⟨#[]⟩,.bool false,.bool false,.bool false,.bool false,.bool false,.bool false,.slice none 0 0,.slice none 0 0,.bool false,.slice none 0 0] 25);rw [zb] at q;exact q⟩
 rw [hwa,hwb,hw1]
 clear hwa za hwb zb hw1
 obtain ⟨g,hg⟩:∃ g,w.heap.size=g:=⟨_,rfl⟩
 have HGG:=amk (Nat.le_of_eq hg)
 rw [hg] at BK BL BN
 rw [hg]
 clear hg
 have hn:=(bkc BN.out 0).trans rfl
 have hn1:w1.cell? ⟨g+1,0,none⟩=some (.int .i64 n):=(bkc BN.out 0).trans rfl
 clear hn
 have hc10:w1.cell? ⟨g,10,none⟩=some (.slice A10 vs.length c10):=(bkc BK.out 10).trans rfl
 go_wp2_with fail
 refine (nets_at A10 c10 vs w1 HV.out (R10.out.below B1.out)).mono ?_
 rintro e w2 ⟨rfl,k2⟩
 have B2:=amk (bws B1.out k2)
 have BL2:=amk (bkb BL.out k2)
 clear k2 hc10
 clear hn1
 have qc0:w2.cell? ⟨g+2,0,none⟩=some (.string ⟨#[]⟩):=(bkc BL2.out 0).trans rfl
 have qf0:=bkf BL2.out 0
 have qc1:w2.cell? ⟨g+2,1,none⟩=some (.bool false):=(bkc BL2.out 1).trans rfl
 have qf1:=bkf BL2.out 1
 have qc2:w2.cell? ⟨g+2,2,none⟩=some (.bool false):=(bkc BL2.out 2).trans rfl
 have qf2:=bkf BL2.out 2
 have qc3:w2.cell? ⟨g+2,3,none⟩=some (.bool false):=(bkc BL2.out 3).trans rfl
 have qf3:=bkf BL2.out 3
 have qc4:w2.cell? ⟨g+2,4,none⟩=some (.bool false):=(bkc BL2.out 4).trans rfl
 have qf4:=bkf BL2.out 4
 have qc5:w2.cell? ⟨g+2,5,none⟩=some (.bool false):=(bkc BL2.out 5).trans rfl
 have qf5:=bkf BL2.out 5
 have qc6:w2.cell? ⟨g+2,6,none⟩=some (.bool false):=(bkc BL2.out 6).trans rfl
 have qf6:=bkf BL2.out 6
 have qc7:w2.cell? ⟨g+2,7,none⟩=some (.slice none 0 0):=(bkc BL2.out 7).trans rfl
 have qf7:=bkf BL2.out 7
 have qc8:w2.cell? ⟨g+2,8,none⟩=some (.slice none 0 0):=(bkc BL2.out 8).trans rfl
 have qf8:=bkf BL2.out 8
 have qc9:w2.cell? ⟨g+2,9,none⟩=some (.bool false):=(bkc BL2.out 9).trans rfl
 have qf9:=bkf BL2.out 9
 have qc10:w2.cell? ⟨g+2,10,none⟩=some (.slice none 0 0):=(bkc BL2.out 10).trans rfl
 have qf10:=bkf BL2.out 10
 go_wp2_with fail
 clear qc0 qf0 qc1 qf1 qc2 qf2 qc3 qf3 qc4 qf4 qc5 qf5 qc6 qf6 qc7 qf7 qc8 qf8 qc9 qf9 qc10 qf10
 obtain ⟨w9,hw9,BK9,U9⟩:=flt_stored (g+2) w2 (.string ⟨#[]⟩) (.bool false) (.bool false) (.bool false) (.bool false) (.bool false) (.bool false) (.slice none 0 0) (.slice none 0 0) (.bool false) (.slice none 0 0) _ _ _ _ _ _ _ _ _ _ _ BL2.out
 rw [hw9]
 clear hw9
 exact bodyPost_ret (flt_results70 _ w9 (g+2) _ _ _ _ _ _ _ _ _ _ _ _ rfl rfl BK9) rfl ⟨rfl,B2.out.trans (U9.toBelow (B:=w.heap.size) (fun k hk=>by rw [hk];have:=HGG.out;omega) B2.out.size)⟩

set_option maxHeartbeats 8000000 in
set_option maxRecDepth 100000 in
theorem del_ok (m:ByteArray) (b1 b2 b3 b4 b5 b6:Bool) (A7:Option Addr) (c7:Nat) (us:List ByteArray) (A8:Option Addr) (c8:Nat) (ms:List ByteArray) (b9:Bool) (A10:Option Addr) (c10:Nat) (vs:List Int) (n:Int) (w:World) (h7:ReadsOf Value.string ByteArray.empty w A7 us.length us) (h8:ReadsOf Value.string ByteArray.empty w A8 ms.length ms) (h10:ReadsOf (Value.int .i64) 0 w A10 vs.length vs) (e7:us.length≤100000) (e8:ms.length≤100000) (e10:vs.length≤100000) (e0:0≤n) (e1:n≤4094) (e:netsS vs=true) :
  Calls Try.prog 70 #[.agg #[.string m,.bool b1,.bool b2,.bool b3,.bool b4,.bool b5,.bool b6,.slice A7 us.length c7,.slice A8 ms.length c8,.bool b9,.slice A10 vs.length c10],.int .i64 n] w fun e w'=>∃ X7 y7 X8 y8 X y,e=.returned (.tuple #[.agg #[.string m,.bool b1,.bool b2,.bool b3,.bool b4,.bool b5,.bool b6,.slice X7 us.length y7,.slice X8 ms.length y8,.bool b9,.slice X (delS n vs).length y],.int .i64 0])∧us.length≤y7∧ms.length≤y8∧(delS n vs).length≤y∧w'.ownsRow w.heap.size 9 1 (.slice X7 us.length y7) us.length (encs Value.string us)∧w'.ownsRow w.heap.size 9 1 (.slice X8 ms.length y8) ms.length (encs Value.string ms)∧w'.ownsRow w.heap.size 3 1 (.slice X (delS n vs).length y) (delS n vs).length (encs (Value.int .i64) (delS n vs))∧Below w.heap.size w w':=by
 have t1:decide (n < 0)=false:=decide_eq_false (by omega)
 have t2:decide (4094 < n)=false:=decide_eq_false (by omega)
 have HV:=amk e
 clear e
 have R7:=amk h7
 have R8:=amk h8
 have R10:=amk h10
 clear h7 h8 h10
 have hu:=Try.underlying25
 have hmf:=hmf
 go_enter Try.func70,Try.ntmps70
 go_upto_region 1 with (fail)
 obtain ⟨wa,hwa⟩:∃ wa,(w.alloc (.cells #[.string m,.bool b1,.bool b2,.bool b3,.bool b4,.bool b5,.bool b6,.slice A7 us.length c7,.slice A8 ms.length c8,.bool b9,.slice A10 vs.length c10] 25))=wa:=⟨_,rfl⟩
 have za:wa.heap.size=w.heap.size+1:=by rw [← hwa];simp
 obtain ⟨wb,hwb⟩:∃ wb,wa.alloc (.cells #[.int .i64 n] 3)=wb:=⟨_,rfl⟩
 have zb:wb.heap.size=w.heap.size+2:=by rw [← hwb];simp [za]
 obtain ⟨w1,hw1⟩:∃ w1,wb.alloc (.cells #[.string ⟨#[]⟩,.bool false,.bool false,.bool false,.bool false,.bool false,.bool false,.slice none 0 0,.slice none 0 0,.bool false,.slice none 0 0] 25)=w1:=⟨_,rfl⟩
 have B1:Aside0 (Below w.heap.size w w1):=⟨by rw [← hw1,← hwb,← hwa];exact bwa (bwa (bwa (Below.refl _ _) _) _) _⟩
 have BK:Aside0 (w1.heap[w.heap.size]?=some (.cells #[.string m,.bool b1,.bool b2,.bool b3,.bool b4,.bool b5,.bool b6,.slice A7 us.length c7,.slice A8 ms.length c8,.bool b9,.slice A10 vs.length c10] 25 (0,0))):=⟨by rw [← hw1,← hwb,← hwa];exact bka (bka (blk_new w _) _) _⟩
 have BN:Aside0 (w1.heap[w.heap.size+1]?=some (.cells #[.int .i64 n] 3 (0,0))):=⟨by rw [← hw1,← hwb];have q:=bka (blk_new wa (.cells #[.int .i64 n] 3)) (.cells #[.string ⟨#[]⟩,.bool false,.bool false,.bool false,.bool false,.bool false,.bool false,.slice none 0 0,.slice none 0 0,.bool false,.slice none 0 0] 25);rw [za] at q;exact q⟩
 have BL:Aside0 (w1.heap[w.heap.size+2]?=some (.cells #[.string ⟨#[]⟩,.bool false,.bool false,.bool false,.bool false,.bool false,.bool false,.slice none 0 0,.slice none 0 0,.bool false,.slice none 0 0] 25 (0,0))):=⟨by rw [← hw1];have q:=blk_new wb (.cells #[.string ⟨#[]⟩,.bool false,.bool false,.bool false,.bool false,.bool false,.bool false,.slice none 0 0,.slice none 0 0,.bool false,.slice none 0 0] 25);rw [zb] at q;exact q⟩
 rw [hwa,hwb,hw1]
 clear hwa za hwb zb hw1
 obtain ⟨g,hg⟩:∃ g,w.heap.size=g:=⟨_,rfl⟩
 have HGG:=amk (Nat.le_of_eq hg)
 rw [hg] at BK BL BN
 rw [hg]
 clear hg
 have hn1:w1.cell? ⟨g+1,0,none⟩=some (.int .i64 n):=(bkc BN.out 0).trans rfl
 have hc10:w1.cell? ⟨g,10,none⟩=some (.slice A10 vs.length c10):=(bkc BK.out 10).trans rfl
 go_wp2_with fail
 refine (nets_at A10 c10 vs w1 HV.out (R10.out.below B1.out)).mono ?_
 rintro e w2 ⟨rfl,k2⟩
 have B2:=amk (bws B1.out k2)
 have BK2:=amk (bkb BK.out k2)
 have BL2:=amk (bkb BL.out k2)
 have BN2:=amk (bkb BN.out k2)
 clear hn1
 clear k2 hc10
 have pc0:w2.cell? ⟨g,0,none⟩=some (.string m):=(bkc BK2.out 0).trans rfl
 have pc1:w2.cell? ⟨g,1,none⟩=some (.bool b1):=(bkc BK2.out 1).trans rfl
 have pc2:w2.cell? ⟨g,2,none⟩=some (.bool b2):=(bkc BK2.out 2).trans rfl
 have pc3:w2.cell? ⟨g,3,none⟩=some (.bool b3):=(bkc BK2.out 3).trans rfl
 have pc4:w2.cell? ⟨g,4,none⟩=some (.bool b4):=(bkc BK2.out 4).trans rfl
 have pc5:w2.cell? ⟨g,5,none⟩=some (.bool b5):=(bkc BK2.out 5).trans rfl
 have pc6:w2.cell? ⟨g,6,none⟩=some (.bool b6):=(bkc BK2.out 6).trans rfl
 have pc7:w2.cell? ⟨g,7,none⟩=some (.slice A7 us.length c7):=(bkc BK2.out 7).trans rfl
 have pc8:w2.cell? ⟨g,8,none⟩=some (.slice A8 ms.length c8):=(bkc BK2.out 8).trans rfl
 have pc9:w2.cell? ⟨g,9,none⟩=some (.bool b9):=(bkc BK2.out 9).trans rfl
 have pc10:w2.cell? ⟨g,10,none⟩=some (.slice A10 vs.length c10):=(bkc BK2.out 10).trans rfl
 go_wp2_with fail
 clear pc0 pc1 pc2 pc3 pc4 pc5 pc6 pc7 pc8 pc9 pc10
 refine (copied_calls m b1 b2 b3 b4 b5 b6 A7 c7 us A8 c8 ms b9 A10 c10 vs w2 (R7.out.below B2.out) (R8.out.below B2.out) (R10.out.below B2.out) (by omega) (by omega) (by omega)).mono ?_
 rintro e w3 ⟨X7,y7,X8,y8,X10,y10,rfl,l7,l8,l10,o7,o8,o10,k3⟩
 have B3:=amk (bws B2.out k3)
 have BK3:=amk (bkb BK2.out k3)
 have BL3:=amk (bkb BL2.out k3)
 have BN3:=amk (bkb BN2.out k3)
 have L7:=amk l7
 have L8:=amk l8
 have O7:=amk (own_weaken o7 B2.out.size)
 have O8:=amk (own_weaken o8 B2.out.size)
 have O10:=amk (own_weaken o10 B2.out.size)
 have NE4:Aside0 (some (g+1) ≠ (Value.slice X10 vs.length y10).ownBlock):=⟨fun e=>by have:=own_base o10 (g+1) e.symm;have:=blk_lt BN2.out;omega⟩
 clear l7 l8 l10 o7 o8 o10 k3
 have pc0:w3.cell? ⟨g,0,none⟩=some (.string m):=(bkc BK3.out 0).trans rfl
 have pf0:=bkf BK3.out 0
 have pc1:w3.cell? ⟨g,1,none⟩=some (.bool b1):=(bkc BK3.out 1).trans rfl
 have pf1:=bkf BK3.out 1
 have pc2:w3.cell? ⟨g,2,none⟩=some (.bool b2):=(bkc BK3.out 2).trans rfl
 have pf2:=bkf BK3.out 2
 have pc3:w3.cell? ⟨g,3,none⟩=some (.bool b3):=(bkc BK3.out 3).trans rfl
 have pf3:=bkf BK3.out 3
 have pc4:w3.cell? ⟨g,4,none⟩=some (.bool b4):=(bkc BK3.out 4).trans rfl
 have pf4:=bkf BK3.out 4
 have pc5:w3.cell? ⟨g,5,none⟩=some (.bool b5):=(bkc BK3.out 5).trans rfl
 have pf5:=bkf BK3.out 5
 have pc6:w3.cell? ⟨g,6,none⟩=some (.bool b6):=(bkc BK3.out 6).trans rfl
 have pf6:=bkf BK3.out 6
 have pc7:w3.cell? ⟨g,7,none⟩=some (.slice A7 us.length c7):=(bkc BK3.out 7).trans rfl
 have pf7:=bkf BK3.out 7
 have pc8:w3.cell? ⟨g,8,none⟩=some (.slice A8 ms.length c8):=(bkc BK3.out 8).trans rfl
 have pf8:=bkf BK3.out 8
 have pc9:w3.cell? ⟨g,9,none⟩=some (.bool b9):=(bkc BK3.out 9).trans rfl
 have pf9:=bkf BK3.out 9
 have pc10:w3.cell? ⟨g,10,none⟩=some (.slice A10 vs.length c10):=(bkc BK3.out 10).trans rfl
 have pf10:=bkf BK3.out 10
 go_upto_region 4 with (fail)
 clear pc0 pf0 pc1 pf1 pc2 pf2 pc3 pf3 pc4 pf4 pc5 pf5 pc6 pf6 pc7 pf7 pc8 pf8 pc9 pf9 pc10 pf10
 obtain ⟨w4,hw4,k4,u4⟩:=flt_stored g w3 (.string m) (.bool b1) (.bool b2) (.bool b3) (.bool b4) (.bool b5) (.bool b6) (.slice X7 us.length y7) (.slice X8 ms.length y8) (.bool b9) (.slice X10 vs.length y10) _ _ _ _ _ _ _ _ _ _ _ BK3.out
 rw [hw4]
 clear hw4
 have BK4:=amk k4
 have BL4:=amk (u4.blk BL3.out (by omega))
 have BN4:=amk (u4.blk BN3.out (by omega))
 have P7:=amk (u4.own O7.out (fun k hk e=>own_ne O7.out BK3.out (by decide) (by rw [hk,← e])))
 have P8:=amk (u4.own O8.out (fun k hk e=>own_ne O8.out BK3.out (by decide) (by rw [hk,← e])))
 have P10:=amk (u4.own O10.out (fun k hk e=>own_ne O10.out BK3.out (by decide) (by rw [hk,← e])))
 have B4:=amk (B3.out.trans (u4.toBelow (B:=w.heap.size) (fun k hk=>by rw [hk];exact HGG.out) B3.out.size))
 clear k4 u4 O7 O8 O10 BK3 BL3 BN3
 have hc10:w4.cell? ⟨g,10,none⟩=some (.slice X10 vs.length y10):=(bkc BK4.out 10).trans rfl
 have hz10:=bkf BK4.out 10
 go_wp2_with fail
 refine (delete_calls X10 y10 vs n w.heap.size (g+1) w4 (by omega) P10.out BN4.out NE4.out).mono ?_
 rintro e w6 ⟨X,y,rfl,hle,o6,u6⟩
 have BK6:=amk (u6.blk BK4.out (fun e=>own_ne P10.out BK4.out (by decide) e))
 have BL6:=amk (u6.blk BL4.out (fun e=>own_ne P10.out BL4.out (by decide) e))
 have S7:=amk (u6.own P7.out (fun k hk e=>by rcases own_type_ne P7.out P10.out (by decide) with q | q;(rw [q] at hk;cases hk);exact q (hk.trans e)))
 have S8:=amk (u6.own P8.out (fun k hk e=>by rcases own_type_ne P8.out P10.out (by decide) with q | q;(rw [q] at hk;cases hk);exact q (hk.trans e)))
 have S10:=amk o6
 have B6:=amk (B4.out.trans (u6.toBelow (B:=w.heap.size) (fun k hk=>own_base P10.out k hk.symm) B4.out.size))
 have HLE:=amk hle
 clear o6 u6 hc10 hz10 hle
 obtain ⟨ds,eds⟩:∃ ds,delS n vs=ds:=⟨_,rfl⟩
 rw [eds] at S10 HLE
 rw [eds]
 have EDS:=amk eds
 clear eds
 have hb10:w6.cell? ⟨g,10,none⟩=some (.slice X10 vs.length y10):=(bkc BK6.out 10).trans rfl
 have hz10:=bkf BK6.out 10
 go_upto_region 5 with (fail)
 clear hb10 hz10
 obtain ⟨w7,hw7⟩:∃ w7,w6.setCell ⟨g,10,none⟩ (.slice X ds.length y)=w7:=⟨_,rfl⟩
 have U7:Aside0 (Upd w6 w7 (fun k=>k=g)):=⟨by rw [← hw7];exact (Upd.refl w6 (fun k=>k=g)).set (p:=⟨g,10,none⟩) (.inl rfl) _⟩
 have BK7:Aside0 (w7.heap[g]?=some (.cells #[.string m,.bool b1,.bool b2,.bool b3,.bool b4,.bool b5,.bool b6,.slice X7 us.length y7,.slice X8 ms.length y8,.bool b9,.slice X ds.length y] 25 (0,0))):=⟨by rw [← hw7];exact blk_put (cs:=#[.string m,.bool b1,.bool b2,.bool b3,.bool b4,.bool b5,.bool b6,.slice X7 us.length y7,.slice X8 ms.length y8,.bool b9,.slice X10 vs.length y10]) BK6.out 10 _ rfl⟩
 rw [hw7]
 clear hw7
 have BL7:=amk (U7.out.blk BL6.out (by omega))
 have B7:=amk (B6.out.trans (U7.out.toBelow (B:=w.heap.size) (fun k hk=>by rw [hk];exact HGG.out) B6.out.size))
 have D7:=amk (U7.out.own S7.out (fun k hk e=>own_ne S7.out BK6.out (by decide) (by rw [hk,← e])))
 have D8:=amk (U7.out.own S8.out (fun k hk e=>own_ne S8.out BK6.out (by decide) (by rw [hk,← e])))
 have D10:=amk (U7.out.own S10.out (fun k hk e=>own_ne S10.out BK6.out (by decide) (by rw [hk,← e])))
 have pc0:w7.cell? ⟨g,0,none⟩=some (.string m):=(bkc BK7.out 0).trans rfl
 have pc1:w7.cell? ⟨g,1,none⟩=some (.bool b1):=(bkc BK7.out 1).trans rfl
 have pc2:w7.cell? ⟨g,2,none⟩=some (.bool b2):=(bkc BK7.out 2).trans rfl
 have pc3:w7.cell? ⟨g,3,none⟩=some (.bool b3):=(bkc BK7.out 3).trans rfl
 have pc4:w7.cell? ⟨g,4,none⟩=some (.bool b4):=(bkc BK7.out 4).trans rfl
 have pc5:w7.cell? ⟨g,5,none⟩=some (.bool b5):=(bkc BK7.out 5).trans rfl
 have pc6:w7.cell? ⟨g,6,none⟩=some (.bool b6):=(bkc BK7.out 6).trans rfl
 have pc7:w7.cell? ⟨g,7,none⟩=some (.slice X7 us.length y7):=(bkc BK7.out 7).trans rfl
 have pc8:w7.cell? ⟨g,8,none⟩=some (.slice X8 ms.length y8):=(bkc BK7.out 8).trans rfl
 have pc9:w7.cell? ⟨g,9,none⟩=some (.bool b9):=(bkc BK7.out 9).trans rfl
 have pc10:w7.cell? ⟨g,10,none⟩=some (.slice X ds.length y):=(bkc BK7.out 10).trans rfl
 have qc0:w7.cell? ⟨g+2,0,none⟩=some (.string ⟨#[]⟩):=(bkc BL7.out 0).trans rfl
 have qf0:=bkf BL7.out 0
 have qc1:w7.cell? ⟨g+2,1,none⟩=some (.bool false):=(bkc BL7.out 1).trans rfl
 have qf1:=bkf BL7.out 1
 have qc2:w7.cell? ⟨g+2,2,none⟩=some (.bool false):=(bkc BL7.out 2).trans rfl
 have qf2:=bkf BL7.out 2
 have qc3:w7.cell? ⟨g+2,3,none⟩=some (.bool false):=(bkc BL7.out 3).trans rfl
 have qf3:=bkf BL7.out 3
 have qc4:w7.cell? ⟨g+2,4,none⟩=some (.bool false):=(bkc BL7.out 4).trans rfl
 have qf4:=bkf BL7.out 4
 have qc5:w7.cell? ⟨g+2,5,none⟩=some (.bool false):=(bkc BL7.out 5).trans rfl
 have qf5:=bkf BL7.out 5
 have qc6:w7.cell? ⟨g+2,6,none⟩=some (.bool false):=(bkc BL7.out 6).trans rfl
 have qf6:=bkf BL7.out 6
 have qc7:w7.cell? ⟨g+2,7,none⟩=some (.slice none 0 0):=(bkc BL7.out 7).trans rfl
 have qf7:=bkf BL7.out 7
 have qc8:w7.cell? ⟨g+2,8,none⟩=some (.slice none 0 0):=(bkc BL7.out 8).trans rfl
 have qf8:=bkf BL7.out 8
 have qc9:w7.cell? ⟨g+2,9,none⟩=some (.bool false):=(bkc BL7.out 9).trans rfl
 have qf9:=bkf BL7.out 9
 have qc10:w7.cell? ⟨g+2,10,none⟩=some (.slice none 0 0):=(bkc BL7.out 10).trans rfl
 have qf10:=bkf BL7.out 10
 go_wp2_with fail
 clear pc0 pc1 pc2 pc3 pc4 pc5 pc6 pc7 pc8 pc9 pc10
 clear qc0 qf0 qc1 qf1 qc2 qf2 qc3 qf3 qc4 qf4 qc5 qf5 qc6 qf6 qc7 qf7 qc8 qf8 qc9 qf9 qc10 qf10
 obtain ⟨w9,hw9,BK9,U9⟩:=flt_stored (g+2) w7 (.string m) (.bool b1) (.bool b2) (.bool b3) (.bool b4) (.bool b5) (.bool b6) (.slice X7 us.length y7) (.slice X8 ms.length y8) (.bool b9) (.slice X ds.length y) _ _ _ _ _ _ _ _ _ _ _ BL7.out
 rw [hw9]
 clear hw9
 have T7:=amk (U9.own D7.out (fun k hk e=>own_ne D7.out BL7.out (by decide) (by rw [hk,← e])))
 have T8:=amk (U9.own D8.out (fun k hk e=>own_ne D8.out BL7.out (by decide) (by rw [hk,← e])))
 have T10:=amk (U9.own D10.out (fun k hk e=>own_ne D10.out BL7.out (by decide) (by rw [hk,← e])))
 rw [EDS.out]
 exact bodyPost_ret (flt_results70 _ w9 (g+2) _ _ _ _ _ _ _ _ _ _ _ _ rfl rfl BK9) rfl ⟨X7,y7,X8,y8,X,y,rfl,L7.out,L8.out,HLE.out,T7.out,T8.out,T10.out,B7.out.trans (U9.toBelow (B:=w.heap.size) (fun k hk=>by rw [hk];have:=HGG.out;omega) B7.out.size)⟩
end Go.Proofs.Ytkgbhlcbjflnlaa.Fl
