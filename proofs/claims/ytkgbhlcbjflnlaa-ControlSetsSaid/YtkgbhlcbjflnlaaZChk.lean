/- Commands and settings: contracts by hand, and the laws over them. -/
import Derived.Test.YtkgbhlcbjflnlaaZOwn
import Derived.Test.YtkgbhlcbjflnlaaZClo
import Derived.WalkLawsBesides
import Derived.Test.YtkgbhlcbjflnlaaZBs
namespace Go.Proofs.Ytkgbhlcbjflnlaa.Fl
open Go Go.RowKit Go.Proofs.YtkgbhlcbjflnlaaW.PrintWords Go.Proofs.YtkgbhlcbjflnlaaW.PrintLast Go.Proofs.YtkgbhlcbjflnlaaW.PrintMore Go.Proofs.Ytkgbhlcbjflnlaa.Mth Go.Proofs.Ytkgbhlcbjflnlaa.P Go.Proofs.Ytkgbhlcbjflnlaa.Own Go.Proofs
set_option linter.unusedVariables false
set_option linter.unusedSimpArgs false
/-! ### Check -/
theorem kind_at (s:ByteArray) (w:World):Calls Try.prog 41 #[.string s] w fun e w'=>e=.returned (.int .i64 (kindB s))∧Below w.heap.size w w' :=
 (kindCalls s w).mono fun _ _ h=>⟨h.1,by obtain ⟨n,hn⟩:=h.2.out;rw [hn];exact pwd (Below.refl _ _) n⟩
theorem of_at (k:Int) (w:World):Calls Try.prog 43 #[.int .i64 k] w fun e w'=>e=.returned (.func (.func 62) #[] #[.pointer (some ⟨w.heap.size,0,none⟩)])∧w'.cell? ⟨w.heap.size,0,none⟩=some (.int .i64 k)∧Below w.heap.size w w' :=
 (of_calls k w).mono fun _ _ h=>⟨h.1,by rw [h.2];exact (bkc (blk_new w _) 0).trans rfl,by rw [h.2];exact bwa (Below.refl _ _) _⟩
theorem all_at {b:Bool} (A:Option Addr) (c:Nat) (l:List ByteArray) (k:Int) (g:Nat) (w:World) (hb:(l.all fun s=>kindB s == k)=b) (hr:ReadsOf Value.string ByteArray.empty w A l.length l) (hc:w.cell? ⟨g,0,none⟩=some (.int .i64 k)) :
  Calls Try.prog 42 #[.slice A l.length c,.func (.func 62) #[] #[.pointer (some ⟨g,0,none⟩)]] w fun e w'=>e=.returned (.bool b)∧Below w.heap.size w w' :=
 (allS_calls A c l k g w hr hc).mono fun _ _ h=>⟨by rw [h.1,hb],by obtain ⟨n,hn⟩:=h.2;rw [hn];exact pwd (Below.refl _ _) n⟩
theorem nets_at {b:Bool} (A:Option Addr) (c:Nat) (l:List Int) (w:World) (hb:netsS l=b) (hr:ReadsOf (Value.int .i64) 0 w A l.length l) :
  Calls Try.prog 44 #[.slice A l.length c] w fun e w'=>e=.returned (.bool b)∧Below w.heap.size w w' :=
 (nets_calls A c l w hr).mono fun _ _ h=>⟨by rw [h.1,hb],h.2⟩
set_option maxHeartbeats 8000000 in
set_option maxRecDepth 100000 in
theorem check_c0 (m:ByteArray) (b1 b2 b3 b4 b5 b6:Bool) (A7:Option Addr) (c7:Nat) (us:List ByteArray) (A8:Option Addr) (c8:Nat) (ms:List ByteArray) (b9:Bool) (A10:Option Addr) (c10:Nat) (vs:List Int) (w:World) (h7:ReadsOf Value.string ByteArray.empty w A7 us.length us) (h8:ReadsOf Value.string ByteArray.empty w A8 ms.length ms) (h10:ReadsOf (Value.int .i64) 0 w A10 vs.length vs) (e0:kindB m ≠ 1) :
  Calls Try.prog 18 #[.agg #[.string m,.bool b1,.bool b2,.bool b3,.bool b4,.bool b5,.bool b6,.slice A7 us.length c7,.slice A8 ms.length c8,.bool b9,.slice A10 vs.length c10]] w fun e w'=>e=.returned (.int .i64 160)∧Below w.heap.size w w':=by
 have R7:=amk h7
 have R8:=amk h8
 have R10:=amk h10
 clear h7 h8 h10
 have z0:(kindB m != 1)=true:=bne_iff_ne.2 e0
 clear e0
 have hu:=Try.underlying25
 go_enter Try.func18,Try.ntmps18
 go_upto_region 1 with (fail)
 obtain ⟨w1,hw1⟩:∃ w1,w.alloc (.cells #[.string m,.bool b1,.bool b2,.bool b3,.bool b4,.bool b5,.bool b6,.slice A7 us.length c7,.slice A8 ms.length c8,.bool b9,.slice A10 vs.length c10] 25)=w1:=⟨_,rfl⟩
 have B1:Aside0 (Below w.heap.size w w1):=⟨by rw [← hw1];exact bwa (Below.refl _ _) _⟩
 have BK:Aside0 (w1.heap[w.heap.size]?=some (.cells #[.string m,.bool b1,.bool b2,.bool b3,.bool b4,.bool b5,.bool b6,.slice A7 us.length c7,.slice A8 ms.length c8,.bool b9,.slice A10 vs.length c10] 25 (0,0))):=⟨by rw [← hw1];exact blk_new w _⟩
 rw [hw1]
 clear hw1
 obtain ⟨g,hg⟩:∃ g,w.heap.size=g:=⟨_,rfl⟩
 rw [hg] at BK
 have B0:=B1
 rw [hg]
 have HGG:=amk hg
 clear hg
 refine start_ (n:=36) (S:=fun w'=>w'.cell? ⟨g,0,none⟩=some (.string m)∧w'.cell? ⟨g,7,none⟩=some (.slice A7 us.length c7)∧w'.cell? ⟨g,8,none⟩=some (.slice A8 ms.length c8)∧w'.cell? ⟨g,10,none⟩=some (.slice A10 vs.length c10)∧Below w1.heap.size w1 w') (ds:=[]) (bsq 36 0) (by kernel_rfl) rfl rfl ⟨(bkc BK.out 0).trans rfl,(bkc BK.out 7).trans rfl,(bkc BK.out 8).trans rfl,(bkc BK.out 10).trans rfl,bwd (Below.refl _ _)⟩ (fun hHeld=>?_)
 refine pure_ (i:=0) (N:=some 3) (v:=?_) (a':=?_) (bsq 36 1) rfl rfl (by kernel_rfl) (fun _ _ _ h=>h) (Or.inl ⟨by rfl,?_⟩) ?_ ?_
 rotate_left
 ·intro w'
  go_simp
  with_reducible rfl
 rotate_left
 ·simp only [Act.put,bq1,bq2,bq3,i64_w,i32_w]
  rfl
 refine take_ (i:=1) (N:=some 4) (v:=?_) (a':=?_) (bsq 36 3) rfl rfl (by kernel_rfl) (fun _ _ _ h=>h) (Or.inl ⟨by rfl,?_⟩) hHeld ?_ ?_
 rotate_left
 ·rintro w' ⟨s0,s1,s2,s3,s4⟩
  go_simp
  with_reducible rfl
 rotate_left
 ·simp only [Act.put,bq1,bq2,bq3,i64_w,i32_w]
  rfl
 refine one_ (i:=2) (N:=some 5) (bsq 36 7) rfl rfl (by kernel_rfl) (by decide) (fun K hK=>?_)
 refine goes_ Try.func41 (by kernel_rfl) rfl #[.string m] (by rfl) rfl rfl (by simp only [List.map_toArray,List.map_cons,List.map_nil];rfl) ?_
 with_reducible refine (kind_at m _).mono ?_
 rintro e w3 ⟨rfl,k3⟩
 refine ⟨_,rfl,?_⟩
 have K3:=amk k3
 clear k3
 refine hK.out _ _ ⟨pcb K3.out hHeld.1,pcb K3.out hHeld.2.1,pcb K3.out hHeld.2.2.1,pcb K3.out hHeld.2.2.2.1,bws hHeld.2.2.2.2 K3.out⟩ (fun hHeld=>?_)
 clear hK K
 refine norm_ (a':=?_) ?_ ?_
 rotate_left
 ·show Act.put _ (some 5) _=_
  simp only [Act.put,bq1,bq2,bq3,i64_w,i32_w]
  rfl
 refine pure_ (i:=3) (N:=some 6) (v:=?_) (a':=?_) (bsq 36 15) rfl rfl (by kernel_rfl) (fun _ _ _ h=>h) (Or.inl ⟨by rfl,?_⟩) ?_ ?_
 rotate_left
 ·intro w'
  go_simp
  with_reducible rfl
 rotate_left
 ·simp only [Act.put,bq1,bq2,bq3,i64_w,i32_w]
  rfl
 refine pure_ (i:=4) (N:=some 7) (v:=?_) (a':=?_) (bsq 36 31) rfl rfl (by kernel_rfl) (fun _ _ _ h=>h) (Or.inl ⟨by rfl,?_⟩) ?_ ?_
 rotate_left
 ·intro w'
  go_simp
  with_reducible rfl
 rotate_left
 ·simp only [Act.put,bq1,bq2,bq3,i64_w,i32_w]
  rfl
 refine pure_ (i:=5) (N:=some 8) (v:=undef) (a':=?_) (bsq 36 63) rfl rfl (by kernel_rfl) (fun _ _ _ h=>h) (Or.inr ⟨by rfl,rfl⟩) ?_ ?_
 rotate_left
 ·simp only [Act.put,bq1,bq2,bq3,i64_w,i32_w]
  rfl
 refine pure_ (i:=6) (N:=some 9) (v:=undef) (a':=?_) (bsq 36 127) rfl rfl (by kernel_rfl) (fun _ _ _ h=>h) (Or.inr ⟨by rfl,rfl⟩) ?_ ?_
 rotate_left
 ·simp only [Act.put,bq1,bq2,bq3,i64_w,i32_w]
  rfl
 refine pure_ (i:=7) (N:=some 10) (v:=undef) (a':=?_) (bsq 36 255) rfl rfl (by kernel_rfl) (fun _ _ _ h=>h) (Or.inr ⟨by rfl,rfl⟩) ?_ ?_
 rotate_left
 ·simp only [Act.put,bq1,bq2,bq3,i64_w,i32_w]
  rfl
 refine pure_ (i:=8) (N:=some 11) (v:=undef) (a':=?_) (bsq 36 511) rfl rfl (by kernel_rfl) (fun _ _ _ h=>h) (Or.inr ⟨by rfl,rfl⟩) ?_ ?_
 rotate_left
 ·simp only [Act.put,bq1,bq2,bq3,i64_w,i32_w]
  rfl
 refine pure_ (i:=9) (N:=some 12) (v:=?_) (a':=?_) (bsq 36 1023) rfl rfl (by kernel_rfl) (fun _ _ _ h=>h) (Or.inl ⟨by rfl,?_⟩) ?_ ?_
 rotate_left
 ·intro w'
  go_simp
  with_reducible rfl
 rotate_left
 ·simp only [Act.put,bq1,bq2,bq3,i64_w,i32_w]
  rfl
 refine pure_ (i:=10) (N:=some 13) (v:=?_) (a':=?_) (bsq 36 2047) rfl rfl (by kernel_rfl) (fun _ _ _ h=>h) (Or.inl ⟨by rfl,?_⟩) ?_ ?_
 rotate_left
 ·intro w'
  go_simp
  with_reducible rfl
 rotate_left
 ·simp only [Act.put,bq1,bq2,bq3,i64_w,i32_w]
  rfl
 refine pure_ (i:=11) (N:=some 14) (v:=undef) (a':=?_) (bsq 36 4095) rfl rfl (by kernel_rfl) (fun _ _ _ h=>h) (Or.inr ⟨by rfl,rfl⟩) ?_ ?_
 rotate_left
 ·simp only [Act.put,bq1,bq2,bq3,i64_w,i32_w]
  rfl
 refine pure_ (i:=12) (N:=some 15) (v:=undef) (a':=?_) (bsq 36 8191) rfl rfl (by kernel_rfl) (fun _ _ _ h=>h) (Or.inr ⟨by rfl,rfl⟩) ?_ ?_
 rotate_left
 ·simp only [Act.put,bq1,bq2,bq3,i64_w,i32_w]
  rfl
 refine pure_ (i:=13) (N:=some 16) (v:=undef) (a':=?_) (bsq 36 16383) rfl rfl (by kernel_rfl) (fun _ _ _ h=>h) (Or.inr ⟨by rfl,rfl⟩) ?_ ?_
 rotate_left
 ·simp only [Act.put,bq1,bq2,bq3,i64_w,i32_w]
  rfl
 refine pure_ (i:=14) (N:=some 17) (v:=undef) (a':=?_) (bsq 36 32767) rfl rfl (by kernel_rfl) (fun _ _ _ h=>h) (Or.inr ⟨by rfl,rfl⟩) ?_ ?_
 rotate_left
 ·simp only [Act.put,bq1,bq2,bq3,i64_w,i32_w]
  rfl
 refine pure_ (i:=15) (N:=some 18) (v:=?_) (a':=?_) (bsq 36 65535) rfl rfl (by kernel_rfl) (fun _ _ _ h=>h) (Or.inl ⟨by rfl,?_⟩) ?_ ?_
 rotate_left
 ·intro w'
  go_simp
  with_reducible rfl
 rotate_left
 ·simp only [Act.put,bq1,bq2,bq3,i64_w,i32_w]
  rfl
 refine pure_ (i:=16) (N:=some 19) (v:=?_) (a':=?_) (bsq 36 131071) rfl rfl (by kernel_rfl) (fun _ _ _ h=>h) (Or.inl ⟨by rfl,?_⟩) ?_ ?_
 rotate_left
 ·intro w'
  go_simp
  with_reducible rfl
 rotate_left
 ·simp only [Act.put,bq1,bq2,bq3,i64_w,i32_w]
  rfl
 refine pure_ (i:=17) (N:=some 20) (v:=undef) (a':=?_) (bsq 36 262143) rfl rfl (by kernel_rfl) (fun _ _ _ h=>h) (Or.inr ⟨by rfl,rfl⟩) ?_ ?_
 rotate_left
 ·simp only [Act.put,bq1,bq2,bq3,i64_w,i32_w]
  rfl
 refine pure_ (i:=18) (N:=some 21) (v:=undef) (a':=?_) (bsq 36 524287) rfl rfl (by kernel_rfl) (fun _ _ _ h=>h) (Or.inr ⟨by rfl,rfl⟩) ?_ ?_
 rotate_left
 ·simp only [Act.put,bq1,bq2,bq3,i64_w,i32_w]
  rfl
 refine pure_ (i:=19) (N:=some 22) (v:=undef) (a':=?_) (bsq 36 1048575) rfl rfl (by kernel_rfl) (fun _ _ _ h=>h) (Or.inr ⟨by rfl,rfl⟩) ?_ ?_
 rotate_left
 ·simp only [Act.put,bq1,bq2,bq3,i64_w,i32_w]
  rfl
 refine pure_ (i:=20) (N:=some 23) (v:=undef) (a':=?_) (bsq 36 2097151) rfl rfl (by kernel_rfl) (fun _ _ _ h=>h) (Or.inr ⟨by rfl,rfl⟩) ?_ ?_
 rotate_left
 ·simp only [Act.put,bq1,bq2,bq3,i64_w,i32_w]
  rfl
 refine pure_ (i:=21) (N:=some 24) (v:=undef) (a':=?_) (bsq 36 4194303) rfl rfl (by kernel_rfl) (fun _ _ _ h=>h) (Or.inr ⟨by rfl,rfl⟩) ?_ ?_
 rotate_left
 ·simp only [Act.put,bq1,bq2,bq3,i64_w,i32_w]
  rfl
 refine pure_ (i:=22) (N:=some 25) (v:=?_) (a':=?_) (bsq 36 8388607) rfl rfl (by kernel_rfl) (fun _ _ _ h=>h) (Or.inl ⟨by rfl,?_⟩) ?_ ?_
 rotate_left
 ·intro w'
  go_simp
  with_reducible rfl
 rotate_left
 ·simp only [Act.put,bq1,bq2,bq3,i64_w,i32_w]
  rfl
 refine pure_ (i:=23) (N:=some 26) (v:=?_) (a':=?_) (bsq 36 16777215) rfl rfl (by kernel_rfl) (fun _ _ _ h=>h) (Or.inl ⟨by rfl,?_⟩) ?_ ?_
 rotate_left
 ·intro w'
  go_simp
  with_reducible rfl
 rotate_left
 ·simp only [Act.put,bq1,bq2,bq3,i64_w,i32_w]
  rfl
 refine pure_ (i:=24) (N:=some 27) (v:=undef) (a':=?_) (bsq 36 33554431) rfl rfl (by kernel_rfl) (fun _ _ _ h=>h) (Or.inr ⟨by rfl,rfl⟩) ?_ ?_
 rotate_left
 ·simp only [Act.put,bq1,bq2,bq3,i64_w,i32_w]
  rfl
 refine pure_ (i:=25) (N:=some 28) (v:=undef) (a':=?_) (bsq 36 67108863) rfl rfl (by kernel_rfl) (fun _ _ _ h=>h) (Or.inr ⟨by rfl,rfl⟩) ?_ ?_
 rotate_left
 ·simp only [Act.put,bq1,bq2,bq3,i64_w,i32_w]
  rfl
 refine pure_ (i:=26) (N:=some 29) (v:=undef) (a':=?_) (bsq 36 134217727) rfl rfl (by kernel_rfl) (fun _ _ _ h=>h) (Or.inr ⟨by rfl,rfl⟩) ?_ ?_
 rotate_left
 ·simp only [Act.put,bq1,bq2,bq3,i64_w,i32_w]
  rfl
 refine pure_ (i:=27) (N:=some 30) (v:=undef) (a':=?_) (bsq 36 268435455) rfl rfl (by kernel_rfl) (fun _ _ _ h=>h) (Or.inr ⟨by rfl,rfl⟩) ?_ ?_
 rotate_left
 ·simp only [Act.put,bq1,bq2,bq3,i64_w,i32_w]
  rfl
 refine pure_ (i:=28) (N:=some 31) (v:=undef) (a':=?_) (bsq 36 536870911) rfl rfl (by kernel_rfl) (fun _ _ _ h=>h) (Or.inr ⟨by rfl,rfl⟩) ?_ ?_
 rotate_left
 ·simp only [Act.put,bq1,bq2,bq3,i64_w,i32_w]
  rfl
 refine pure_ (i:=29) (N:=some 32) (v:=?_) (a':=?_) (bsq 36 1073741823) rfl rfl (by kernel_rfl) (fun _ _ _ h=>h) (Or.inl ⟨by rfl,?_⟩) ?_ ?_
 rotate_left
 ·intro w'
  go_simp
  with_reducible rfl
 rotate_left
 ·simp only [Act.put,bq1,bq2,bq3,i64_w,i32_w]
  rfl
 refine pure_ (i:=30) (N:=some 33) (v:=?_) (a':=?_) (bsq 36 2147483647) rfl rfl (by kernel_rfl) (fun _ _ _ h=>h) (Or.inl ⟨by rfl,?_⟩) ?_ ?_
 rotate_left
 ·intro w'
  go_simp
  with_reducible rfl
 rotate_left
 ·simp only [Act.put,bq1,bq2,bq3,i64_w,i32_w]
  rfl
 refine pure_ (i:=31) (N:=some 34) (v:=undef) (a':=?_) (bsq 36 4294967295) rfl rfl (by kernel_rfl) (fun _ _ _ h=>h) (Or.inr ⟨by rfl,rfl⟩) ?_ ?_
 rotate_left
 ·simp only [Act.put,bq1,bq2,bq3,i64_w,i32_w]
  rfl
 refine pure_ (i:=32) (N:=some 35) (v:=undef) (a':=?_) (bsq 36 8589934591) rfl rfl (by kernel_rfl) (fun _ _ _ h=>h) (Or.inr ⟨by rfl,rfl⟩) ?_ ?_
 rotate_left
 ·simp only [Act.put,bq1,bq2,bq3,i64_w,i32_w]
  rfl
 refine pure_ (i:=33) (N:=some 36) (v:=undef) (a':=?_) (bsq 36 17179869183) rfl rfl (by kernel_rfl) (fun _ _ _ h=>h) (Or.inr ⟨by rfl,rfl⟩) ?_ ?_
 rotate_left
 ·simp only [Act.put,bq1,bq2,bq3,i64_w,i32_w]
  rfl
 refine pure_ (i:=34) (N:=some 37) (v:=undef) (a':=?_) (bsq 36 34359738367) rfl rfl (by kernel_rfl) (fun _ _ _ h=>h) (Or.inr ⟨by rfl,rfl⟩) ?_ ?_
 rotate_left
 ·simp only [Act.put,bq1,bq2,bq3,i64_w,i32_w]
  rfl
 refine pure_ (i:=35) (N:=some 38) (v:=?_) (a':=?_) (bsq 36 68719476735) rfl rfl (by kernel_rfl) (fun _ _ _ h=>h) (Or.inl ⟨by rfl,?_⟩) ?_ ?_
 rotate_left
 ·intro w'
  go_simp
  with_reducible rfl
 rotate_left
 ·simp only [Act.put,bq1,bq2,bq3,i64_w,i32_w]
  rfl
 refine done_ (by kernel_rfl) ?_
 go_wp2
 go_ret
 exact ⟨rfl,bws B0.out hHeld.2.2.2.2⟩
set_option maxHeartbeats 8000000 in
set_option maxRecDepth 100000 in
theorem check_c1 (m:ByteArray) (b1 b2 b3 b4 b5 b6:Bool) (A7:Option Addr) (c7:Nat) (us:List ByteArray) (A8:Option Addr) (c8:Nat) (ms:List ByteArray) (b9:Bool) (A10:Option Addr) (c10:Nat) (vs:List Int) (w:World) (h7:ReadsOf Value.string ByteArray.empty w A7 us.length us) (h8:ReadsOf Value.string ByteArray.empty w A8 ms.length ms) (h10:ReadsOf (Value.int .i64) 0 w A10 vs.length vs) (e0:kindB m=1) (e7:16 < us.length) :
  Calls Try.prog 18 #[.agg #[.string m,.bool b1,.bool b2,.bool b3,.bool b4,.bool b5,.bool b6,.slice A7 us.length c7,.slice A8 ms.length c8,.bool b9,.slice A10 vs.length c10]] w fun e w'=>e=.returned (.int .i64 160)∧Below w.heap.size w w':=by
 have R7:=amk h7
 have R8:=amk h8
 have R10:=amk h10
 clear h7 h8 h10
 have z0:(kindB m != 1)=false:=bne_eq_false_iff_eq.2 e0
 clear e0
 have z7:decide ((16:Int) < (us.length:Int))=true:=decide_eq_true (by omega)
 have y7:decide (16 < us.length)=true:=decide_eq_true e7
 have hu:=Try.underlying25
 go_enter Try.func18,Try.ntmps18
 go_upto_region 1 with (fail)
 obtain ⟨w1,hw1⟩:∃ w1,w.alloc (.cells #[.string m,.bool b1,.bool b2,.bool b3,.bool b4,.bool b5,.bool b6,.slice A7 us.length c7,.slice A8 ms.length c8,.bool b9,.slice A10 vs.length c10] 25)=w1:=⟨_,rfl⟩
 have B1:Aside0 (Below w.heap.size w w1):=⟨by rw [← hw1];exact bwa (Below.refl _ _) _⟩
 have BK:Aside0 (w1.heap[w.heap.size]?=some (.cells #[.string m,.bool b1,.bool b2,.bool b3,.bool b4,.bool b5,.bool b6,.slice A7 us.length c7,.slice A8 ms.length c8,.bool b9,.slice A10 vs.length c10] 25 (0,0))):=⟨by rw [← hw1];exact blk_new w _⟩
 rw [hw1]
 clear hw1
 obtain ⟨g,hg⟩:∃ g,w.heap.size=g:=⟨_,rfl⟩
 rw [hg] at BK
 have B0:=B1
 rw [hg]
 have HGG:=amk hg
 clear hg
 refine start_ (n:=36) (S:=fun w'=>w'.cell? ⟨g,0,none⟩=some (.string m)∧w'.cell? ⟨g,7,none⟩=some (.slice A7 us.length c7)∧w'.cell? ⟨g,8,none⟩=some (.slice A8 ms.length c8)∧w'.cell? ⟨g,10,none⟩=some (.slice A10 vs.length c10)∧Below w1.heap.size w1 w') (ds:=[]) (bsq 36 0) (by kernel_rfl) rfl rfl ⟨(bkc BK.out 0).trans rfl,(bkc BK.out 7).trans rfl,(bkc BK.out 8).trans rfl,(bkc BK.out 10).trans rfl,bwd (Below.refl _ _)⟩ (fun hHeld=>?_)
 refine pure_ (i:=0) (N:=some 3) (v:=?_) (a':=?_) (bsq 36 1) rfl rfl (by kernel_rfl) (fun _ _ _ h=>h) (Or.inl ⟨by rfl,?_⟩) ?_ ?_
 rotate_left
 ·intro w'
  go_simp
  with_reducible rfl
 rotate_left
 ·simp only [Act.put,bq1,bq2,bq3,i64_w,i32_w]
  rfl
 refine take_ (i:=1) (N:=some 4) (v:=?_) (a':=?_) (bsq 36 3) rfl rfl (by kernel_rfl) (fun _ _ _ h=>h) (Or.inl ⟨by rfl,?_⟩) hHeld ?_ ?_
 rotate_left
 ·rintro w' ⟨s0,s1,s2,s3,s4⟩
  go_simp
  with_reducible rfl
 rotate_left
 ·simp only [Act.put,bq1,bq2,bq3,i64_w,i32_w]
  rfl
 refine one_ (i:=2) (N:=some 5) (bsq 36 7) rfl rfl (by kernel_rfl) (by decide) (fun K hK=>?_)
 refine goes_ Try.func41 (by kernel_rfl) rfl #[.string m] (by rfl) rfl rfl (by simp only [List.map_toArray,List.map_cons,List.map_nil];rfl) ?_
 with_reducible refine (kind_at m _).mono ?_
 rintro e w3 ⟨rfl,k3⟩
 refine ⟨_,rfl,?_⟩
 have K3:=amk k3
 clear k3
 refine hK.out _ _ ⟨pcb K3.out hHeld.1,pcb K3.out hHeld.2.1,pcb K3.out hHeld.2.2.1,pcb K3.out hHeld.2.2.2.1,bws hHeld.2.2.2.2 K3.out⟩ (fun hHeld=>?_)
 clear hK K
 refine norm_ (a':=?_) ?_ ?_
 rotate_left
 ·show Act.put _ (some 5) _=_
  simp only [Act.put,bq1,bq2,bq3,i64_w,i32_w]
  rfl
 refine pure_ (i:=3) (N:=some 6) (v:=?_) (a':=?_) (bsq 36 15) rfl rfl (by kernel_rfl) (fun _ _ _ h=>h) (Or.inl ⟨by rfl,?_⟩) ?_ ?_
 rotate_left
 ·intro w'
  go_simp
  with_reducible rfl
 rotate_left
 ·simp only [Act.put,bq1,bq2,bq3,i64_w,i32_w]
  rfl
 refine pure_ (i:=4) (N:=some 7) (v:=?_) (a':=?_) (bsq 36 31) rfl rfl (by kernel_rfl) (fun _ _ _ h=>h) (Or.inl ⟨by rfl,?_⟩) ?_ ?_
 rotate_left
 ·intro w'
  go_simp
  with_reducible rfl
 rotate_left
 ·simp only [Act.put,bq1,bq2,bq3,i64_w,i32_w]
  rfl
 refine pure_ (i:=5) (N:=some 8) (v:=?_) (a':=?_) (bsq 36 63) rfl rfl (by kernel_rfl) (fun _ _ _ h=>h) (Or.inl ⟨by rfl,?_⟩) ?_ ?_
 rotate_left
 ·intro w'
  go_simp
  with_reducible rfl
 rotate_left
 ·simp only [Act.put,bq1,bq2,bq3,i64_w,i32_w]
  rfl
 refine take_ (i:=6) (N:=some 9) (v:=?_) (a':=?_) (bsq 36 127) rfl rfl (by kernel_rfl) (fun _ _ _ h=>h) (Or.inl ⟨by rfl,?_⟩) hHeld ?_ ?_
 rotate_left
 ·rintro w' ⟨s0,s1,s2,s3,s4⟩
  go_simp
  with_reducible rfl
 rotate_left
 ·simp only [Act.put,bq1,bq2,bq3,i64_w,i32_w]
  rfl
 refine pure_ (i:=7) (N:=some 10) (v:=?_) (a':=?_) (bsq 36 255) rfl rfl (by kernel_rfl) (fun _ _ _ h=>h) (Or.inl ⟨by rfl,?_⟩) ?_ ?_
 rotate_left
 ·intro w'
  go_simp
  with_reducible rfl
 rotate_left
 ·simp only [Act.put,bq1,bq2,bq3,i64_w,i32_w]
  rfl
 refine pure_ (i:=8) (N:=some 11) (v:=?_) (a':=?_) (bsq 36 511) rfl rfl (by kernel_rfl) (fun _ _ _ h=>h) (Or.inl ⟨by rfl,?_⟩) ?_ ?_
 rotate_left
 ·intro w'
  go_simp
  with_reducible rfl
 rotate_left
 ·simp only [Act.put,bq1,bq2,bq3,i64_w,i32_w]
  rfl
 refine pure_ (i:=9) (N:=some 12) (v:=?_) (a':=?_) (bsq 36 1023) rfl rfl (by kernel_rfl) (fun _ _ _ h=>h) (Or.inl ⟨by rfl,?_⟩) ?_ ?_
 rotate_left
 ·intro w'
  go_simp
  with_reducible rfl
 rotate_left
 ·simp only [Act.put,bq1,bq2,bq3,i64_w,i32_w]
  rfl
 refine pure_ (i:=10) (N:=some 13) (v:=?_) (a':=?_) (bsq 36 2047) rfl rfl (by kernel_rfl) (fun _ _ _ h=>h) (Or.inl ⟨by rfl,?_⟩) ?_ ?_
 rotate_left
 ·intro w'
  go_simp
  with_reducible rfl
 rotate_left
 ·simp only [Act.put,bq1,bq2,bq3,i64_w,i32_w]
  rfl
 refine pure_ (i:=11) (N:=some 14) (v:=undef) (a':=?_) (bsq 36 4095) rfl rfl (by kernel_rfl) (fun _ _ _ h=>h) (Or.inr ⟨by rfl,rfl⟩) ?_ ?_
 rotate_left
 ·simp only [Act.put,bq1,bq2,bq3,i64_w,i32_w]
  rfl
 refine pure_ (i:=12) (N:=some 15) (v:=undef) (a':=?_) (bsq 36 8191) rfl rfl (by kernel_rfl) (fun _ _ _ h=>h) (Or.inr ⟨by rfl,rfl⟩) ?_ ?_
 rotate_left
 ·simp only [Act.put,bq1,bq2,bq3,i64_w,i32_w]
  rfl
 refine pure_ (i:=13) (N:=some 16) (v:=undef) (a':=?_) (bsq 36 16383) rfl rfl (by kernel_rfl) (fun _ _ _ h=>h) (Or.inr ⟨by rfl,rfl⟩) ?_ ?_
 rotate_left
 ·simp only [Act.put,bq1,bq2,bq3,i64_w,i32_w]
  rfl
 refine pure_ (i:=14) (N:=some 17) (v:=undef) (a':=?_) (bsq 36 32767) rfl rfl (by kernel_rfl) (fun _ _ _ h=>h) (Or.inr ⟨by rfl,rfl⟩) ?_ ?_
 rotate_left
 ·simp only [Act.put,bq1,bq2,bq3,i64_w,i32_w]
  rfl
 refine pure_ (i:=15) (N:=some 18) (v:=?_) (a':=?_) (bsq 36 65535) rfl rfl (by kernel_rfl) (fun _ _ _ h=>h) (Or.inl ⟨by rfl,?_⟩) ?_ ?_
 rotate_left
 ·intro w'
  go_simp
  with_reducible rfl
 rotate_left
 ·simp only [Act.put,bq1,bq2,bq3,i64_w,i32_w]
  rfl
 refine pure_ (i:=16) (N:=some 19) (v:=?_) (a':=?_) (bsq 36 131071) rfl rfl (by kernel_rfl) (fun _ _ _ h=>h) (Or.inl ⟨by rfl,?_⟩) ?_ ?_
 rotate_left
 ·intro w'
  go_simp
  with_reducible rfl
 rotate_left
 ·simp only [Act.put,bq1,bq2,bq3,i64_w,i32_w]
  rfl
 refine pure_ (i:=17) (N:=some 20) (v:=undef) (a':=?_) (bsq 36 262143) rfl rfl (by kernel_rfl) (fun _ _ _ h=>h) (Or.inr ⟨by rfl,rfl⟩) ?_ ?_
 rotate_left
 ·simp only [Act.put,bq1,bq2,bq3,i64_w,i32_w]
  rfl
 refine pure_ (i:=18) (N:=some 21) (v:=undef) (a':=?_) (bsq 36 524287) rfl rfl (by kernel_rfl) (fun _ _ _ h=>h) (Or.inr ⟨by rfl,rfl⟩) ?_ ?_
 rotate_left
 ·simp only [Act.put,bq1,bq2,bq3,i64_w,i32_w]
  rfl
 refine pure_ (i:=19) (N:=some 22) (v:=undef) (a':=?_) (bsq 36 1048575) rfl rfl (by kernel_rfl) (fun _ _ _ h=>h) (Or.inr ⟨by rfl,rfl⟩) ?_ ?_
 rotate_left
 ·simp only [Act.put,bq1,bq2,bq3,i64_w,i32_w]
  rfl
 refine pure_ (i:=20) (N:=some 23) (v:=undef) (a':=?_) (bsq 36 2097151) rfl rfl (by kernel_rfl) (fun _ _ _ h=>h) (Or.inr ⟨by rfl,rfl⟩) ?_ ?_
 rotate_left
 ·simp only [Act.put,bq1,bq2,bq3,i64_w,i32_w]
  rfl
 refine pure_ (i:=21) (N:=some 24) (v:=undef) (a':=?_) (bsq 36 4194303) rfl rfl (by kernel_rfl) (fun _ _ _ h=>h) (Or.inr ⟨by rfl,rfl⟩) ?_ ?_
 rotate_left
 ·simp only [Act.put,bq1,bq2,bq3,i64_w,i32_w]
  rfl
 refine pure_ (i:=22) (N:=some 25) (v:=?_) (a':=?_) (bsq 36 8388607) rfl rfl (by kernel_rfl) (fun _ _ _ h=>h) (Or.inl ⟨by rfl,?_⟩) ?_ ?_
 rotate_left
 ·intro w'
  go_simp
  with_reducible rfl
 rotate_left
 ·simp only [Act.put,bq1,bq2,bq3,i64_w,i32_w]
  rfl
 refine pure_ (i:=23) (N:=some 26) (v:=?_) (a':=?_) (bsq 36 16777215) rfl rfl (by kernel_rfl) (fun _ _ _ h=>h) (Or.inl ⟨by rfl,?_⟩) ?_ ?_
 rotate_left
 ·intro w'
  go_simp
  with_reducible rfl
 rotate_left
 ·simp only [Act.put,bq1,bq2,bq3,i64_w,i32_w]
  rfl
 refine pure_ (i:=24) (N:=some 27) (v:=undef) (a':=?_) (bsq 36 33554431) rfl rfl (by kernel_rfl) (fun _ _ _ h=>h) (Or.inr ⟨by rfl,rfl⟩) ?_ ?_
 rotate_left
 ·simp only [Act.put,bq1,bq2,bq3,i64_w,i32_w]
  rfl
 refine pure_ (i:=25) (N:=some 28) (v:=undef) (a':=?_) (bsq 36 67108863) rfl rfl (by kernel_rfl) (fun _ _ _ h=>h) (Or.inr ⟨by rfl,rfl⟩) ?_ ?_
 rotate_left
 ·simp only [Act.put,bq1,bq2,bq3,i64_w,i32_w]
  rfl
 refine pure_ (i:=26) (N:=some 29) (v:=undef) (a':=?_) (bsq 36 134217727) rfl rfl (by kernel_rfl) (fun _ _ _ h=>h) (Or.inr ⟨by rfl,rfl⟩) ?_ ?_
 rotate_left
 ·simp only [Act.put,bq1,bq2,bq3,i64_w,i32_w]
  rfl
 refine pure_ (i:=27) (N:=some 30) (v:=undef) (a':=?_) (bsq 36 268435455) rfl rfl (by kernel_rfl) (fun _ _ _ h=>h) (Or.inr ⟨by rfl,rfl⟩) ?_ ?_
 rotate_left
 ·simp only [Act.put,bq1,bq2,bq3,i64_w,i32_w]
  rfl
 refine pure_ (i:=28) (N:=some 31) (v:=undef) (a':=?_) (bsq 36 536870911) rfl rfl (by kernel_rfl) (fun _ _ _ h=>h) (Or.inr ⟨by rfl,rfl⟩) ?_ ?_
 rotate_left
 ·simp only [Act.put,bq1,bq2,bq3,i64_w,i32_w]
  rfl
 refine pure_ (i:=29) (N:=some 32) (v:=?_) (a':=?_) (bsq 36 1073741823) rfl rfl (by kernel_rfl) (fun _ _ _ h=>h) (Or.inl ⟨by rfl,?_⟩) ?_ ?_
 rotate_left
 ·intro w'
  go_simp
  with_reducible rfl
 rotate_left
 ·simp only [Act.put,bq1,bq2,bq3,i64_w,i32_w]
  rfl
 refine pure_ (i:=30) (N:=some 33) (v:=?_) (a':=?_) (bsq 36 2147483647) rfl rfl (by kernel_rfl) (fun _ _ _ h=>h) (Or.inl ⟨by rfl,?_⟩) ?_ ?_
 rotate_left
 ·intro w'
  go_simp
  with_reducible rfl
 rotate_left
 ·simp only [Act.put,bq1,bq2,bq3,i64_w,i32_w]
  rfl
 refine pure_ (i:=31) (N:=some 34) (v:=undef) (a':=?_) (bsq 36 4294967295) rfl rfl (by kernel_rfl) (fun _ _ _ h=>h) (Or.inr ⟨by rfl,rfl⟩) ?_ ?_
 rotate_left
 ·simp only [Act.put,bq1,bq2,bq3,i64_w,i32_w]
  rfl
 refine pure_ (i:=32) (N:=some 35) (v:=undef) (a':=?_) (bsq 36 8589934591) rfl rfl (by kernel_rfl) (fun _ _ _ h=>h) (Or.inr ⟨by rfl,rfl⟩) ?_ ?_
 rotate_left
 ·simp only [Act.put,bq1,bq2,bq3,i64_w,i32_w]
  rfl
 refine pure_ (i:=33) (N:=some 36) (v:=undef) (a':=?_) (bsq 36 17179869183) rfl rfl (by kernel_rfl) (fun _ _ _ h=>h) (Or.inr ⟨by rfl,rfl⟩) ?_ ?_
 rotate_left
 ·simp only [Act.put,bq1,bq2,bq3,i64_w,i32_w]
  rfl
 refine pure_ (i:=34) (N:=some 37) (v:=undef) (a':=?_) (bsq 36 34359738367) rfl rfl (by kernel_rfl) (fun _ _ _ h=>h) (Or.inr ⟨by rfl,rfl⟩) ?_ ?_
 rotate_left
 ·simp only [Act.put,bq1,bq2,bq3,i64_w,i32_w]
  rfl
 refine pure_ (i:=35) (N:=some 38) (v:=?_) (a':=?_) (bsq 36 68719476735) rfl rfl (by kernel_rfl) (fun _ _ _ h=>h) (Or.inl ⟨by rfl,?_⟩) ?_ ?_
 rotate_left
 ·intro w'
  go_simp
  with_reducible rfl
 rotate_left
 ·simp only [Act.put,bq1,bq2,bq3,i64_w,i32_w]
  rfl
 refine done_ (by kernel_rfl) ?_
 go_wp2
 go_ret
 exact ⟨rfl,bws B0.out hHeld.2.2.2.2⟩
set_option maxHeartbeats 8000000 in
set_option maxRecDepth 100000 in
theorem check_c2 (m:ByteArray) (b1 b2 b3 b4 b5 b6:Bool) (A7:Option Addr) (c7:Nat) (us:List ByteArray) (A8:Option Addr) (c8:Nat) (ms:List ByteArray) (b9:Bool) (A10:Option Addr) (c10:Nat) (vs:List Int) (w:World) (h7:ReadsOf Value.string ByteArray.empty w A7 us.length us) (h8:ReadsOf Value.string ByteArray.empty w A8 ms.length ms) (h10:ReadsOf (Value.int .i64) 0 w A10 vs.length vs) (e0:kindB m=1) (e7:us.length≤16) (e8:16 < ms.length) :
  Calls Try.prog 18 #[.agg #[.string m,.bool b1,.bool b2,.bool b3,.bool b4,.bool b5,.bool b6,.slice A7 us.length c7,.slice A8 ms.length c8,.bool b9,.slice A10 vs.length c10]] w fun e w'=>e=.returned (.int .i64 160)∧Below w.heap.size w w':=by
 have R7:=amk h7
 have R8:=amk h8
 have R10:=amk h10
 clear h7 h8 h10
 have z0:(kindB m != 1)=false:=bne_eq_false_iff_eq.2 e0
 clear e0
 have z7:decide ((16:Int) < (us.length:Int))=false:=decide_eq_false (by omega)
 have y7:decide (16 < us.length)=false:=decide_eq_false (by omega)
 have z8:decide ((16:Int) < (ms.length:Int))=true:=decide_eq_true (by omega)
 have y8:decide (16 < ms.length)=true:=decide_eq_true e8
 have hu:=Try.underlying25
 go_enter Try.func18,Try.ntmps18
 go_upto_region 1 with (fail)
 obtain ⟨w1,hw1⟩:∃ w1,w.alloc (.cells #[.string m,.bool b1,.bool b2,.bool b3,.bool b4,.bool b5,.bool b6,.slice A7 us.length c7,.slice A8 ms.length c8,.bool b9,.slice A10 vs.length c10] 25)=w1:=⟨_,rfl⟩
 have B1:Aside0 (Below w.heap.size w w1):=⟨by rw [← hw1];exact bwa (Below.refl _ _) _⟩
 have BK:Aside0 (w1.heap[w.heap.size]?=some (.cells #[.string m,.bool b1,.bool b2,.bool b3,.bool b4,.bool b5,.bool b6,.slice A7 us.length c7,.slice A8 ms.length c8,.bool b9,.slice A10 vs.length c10] 25 (0,0))):=⟨by rw [← hw1];exact blk_new w _⟩
 rw [hw1]
 clear hw1
 obtain ⟨g,hg⟩:∃ g,w.heap.size=g:=⟨_,rfl⟩
 rw [hg] at BK
 have B0:=B1
 rw [hg]
 have HGG:=amk hg
 clear hg
 refine start_ (n:=36) (S:=fun w'=>w'.cell? ⟨g,0,none⟩=some (.string m)∧w'.cell? ⟨g,7,none⟩=some (.slice A7 us.length c7)∧w'.cell? ⟨g,8,none⟩=some (.slice A8 ms.length c8)∧w'.cell? ⟨g,10,none⟩=some (.slice A10 vs.length c10)∧Below w1.heap.size w1 w') (ds:=[]) (bsq 36 0) (by kernel_rfl) rfl rfl ⟨(bkc BK.out 0).trans rfl,(bkc BK.out 7).trans rfl,(bkc BK.out 8).trans rfl,(bkc BK.out 10).trans rfl,bwd (Below.refl _ _)⟩ (fun hHeld=>?_)
 refine pure_ (i:=0) (N:=some 3) (v:=?_) (a':=?_) (bsq 36 1) rfl rfl (by kernel_rfl) (fun _ _ _ h=>h) (Or.inl ⟨by rfl,?_⟩) ?_ ?_
 rotate_left
 ·intro w'
  go_simp
  with_reducible rfl
 rotate_left
 ·simp only [Act.put,bq1,bq2,bq3,i64_w,i32_w]
  rfl
 refine take_ (i:=1) (N:=some 4) (v:=?_) (a':=?_) (bsq 36 3) rfl rfl (by kernel_rfl) (fun _ _ _ h=>h) (Or.inl ⟨by rfl,?_⟩) hHeld ?_ ?_
 rotate_left
 ·rintro w' ⟨s0,s1,s2,s3,s4⟩
  go_simp
  with_reducible rfl
 rotate_left
 ·simp only [Act.put,bq1,bq2,bq3,i64_w,i32_w]
  rfl
 refine one_ (i:=2) (N:=some 5) (bsq 36 7) rfl rfl (by kernel_rfl) (by decide) (fun K hK=>?_)
 refine goes_ Try.func41 (by kernel_rfl) rfl #[.string m] (by rfl) rfl rfl (by simp only [List.map_toArray,List.map_cons,List.map_nil];rfl) ?_
 with_reducible refine (kind_at m _).mono ?_
 rintro e w3 ⟨rfl,k3⟩
 refine ⟨_,rfl,?_⟩
 have K3:=amk k3
 clear k3
 refine hK.out _ _ ⟨pcb K3.out hHeld.1,pcb K3.out hHeld.2.1,pcb K3.out hHeld.2.2.1,pcb K3.out hHeld.2.2.2.1,bws hHeld.2.2.2.2 K3.out⟩ (fun hHeld=>?_)
 clear hK K
 refine norm_ (a':=?_) ?_ ?_
 rotate_left
 ·show Act.put _ (some 5) _=_
  simp only [Act.put,bq1,bq2,bq3,i64_w,i32_w]
  rfl
 refine pure_ (i:=3) (N:=some 6) (v:=?_) (a':=?_) (bsq 36 15) rfl rfl (by kernel_rfl) (fun _ _ _ h=>h) (Or.inl ⟨by rfl,?_⟩) ?_ ?_
 rotate_left
 ·intro w'
  go_simp
  with_reducible rfl
 rotate_left
 ·simp only [Act.put,bq1,bq2,bq3,i64_w,i32_w]
  rfl
 refine pure_ (i:=4) (N:=some 7) (v:=?_) (a':=?_) (bsq 36 31) rfl rfl (by kernel_rfl) (fun _ _ _ h=>h) (Or.inl ⟨by rfl,?_⟩) ?_ ?_
 rotate_left
 ·intro w'
  go_simp
  with_reducible rfl
 rotate_left
 ·simp only [Act.put,bq1,bq2,bq3,i64_w,i32_w]
  rfl
 refine pure_ (i:=5) (N:=some 8) (v:=?_) (a':=?_) (bsq 36 63) rfl rfl (by kernel_rfl) (fun _ _ _ h=>h) (Or.inl ⟨by rfl,?_⟩) ?_ ?_
 rotate_left
 ·intro w'
  go_simp
  with_reducible rfl
 rotate_left
 ·simp only [Act.put,bq1,bq2,bq3,i64_w,i32_w]
  rfl
 refine take_ (i:=6) (N:=some 9) (v:=?_) (a':=?_) (bsq 36 127) rfl rfl (by kernel_rfl) (fun _ _ _ h=>h) (Or.inl ⟨by rfl,?_⟩) hHeld ?_ ?_
 rotate_left
 ·rintro w' ⟨s0,s1,s2,s3,s4⟩
  go_simp
  with_reducible rfl
 rotate_left
 ·simp only [Act.put,bq1,bq2,bq3,i64_w,i32_w]
  rfl
 refine pure_ (i:=7) (N:=some 10) (v:=?_) (a':=?_) (bsq 36 255) rfl rfl (by kernel_rfl) (fun _ _ _ h=>h) (Or.inl ⟨by rfl,?_⟩) ?_ ?_
 rotate_left
 ·intro w'
  go_simp
  with_reducible rfl
 rotate_left
 ·simp only [Act.put,bq1,bq2,bq3,i64_w,i32_w]
  rfl
 refine pure_ (i:=8) (N:=some 11) (v:=?_) (a':=?_) (bsq 36 511) rfl rfl (by kernel_rfl) (fun _ _ _ h=>h) (Or.inl ⟨by rfl,?_⟩) ?_ ?_
 rotate_left
 ·intro w'
  go_simp
  with_reducible rfl
 rotate_left
 ·simp only [Act.put,bq1,bq2,bq3,i64_w,i32_w]
  rfl
 refine pure_ (i:=9) (N:=some 12) (v:=?_) (a':=?_) (bsq 36 1023) rfl rfl (by kernel_rfl) (fun _ _ _ h=>h) (Or.inl ⟨by rfl,?_⟩) ?_ ?_
 rotate_left
 ·intro w'
  go_simp
  with_reducible rfl
 rotate_left
 ·simp only [Act.put,bq1,bq2,bq3,i64_w,i32_w]
  rfl
 refine pure_ (i:=10) (N:=some 13) (v:=?_) (a':=?_) (bsq 36 2047) rfl rfl (by kernel_rfl) (fun _ _ _ h=>h) (Or.inl ⟨by rfl,?_⟩) ?_ ?_
 rotate_left
 ·intro w'
  go_simp
  with_reducible rfl
 rotate_left
 ·simp only [Act.put,bq1,bq2,bq3,i64_w,i32_w]
  rfl
 refine pure_ (i:=11) (N:=some 14) (v:=?_) (a':=?_) (bsq 36 4095) rfl rfl (by kernel_rfl) (fun _ _ _ h=>h) (Or.inl ⟨by rfl,?_⟩) ?_ ?_
 rotate_left
 ·intro w'
  go_simp
  with_reducible rfl
 rotate_left
 ·simp only [Act.put,bq1,bq2,bq3,i64_w,i32_w]
  rfl
 refine take_ (i:=12) (N:=some 15) (v:=?_) (a':=?_) (bsq 36 8191) rfl rfl (by kernel_rfl) (fun _ _ _ h=>h) (Or.inl ⟨by rfl,?_⟩) hHeld ?_ ?_
 rotate_left
 ·rintro w' ⟨s0,s1,s2,s3,s4⟩
  go_simp
  with_reducible rfl
 rotate_left
 ·simp only [Act.put,bq1,bq2,bq3,i64_w,i32_w]
  rfl
 refine pure_ (i:=13) (N:=some 16) (v:=?_) (a':=?_) (bsq 36 16383) rfl rfl (by kernel_rfl) (fun _ _ _ h=>h) (Or.inl ⟨by rfl,?_⟩) ?_ ?_
 rotate_left
 ·intro w'
  go_simp
  with_reducible rfl
 rotate_left
 ·simp only [Act.put,bq1,bq2,bq3,i64_w,i32_w]
  rfl
 refine pure_ (i:=14) (N:=some 17) (v:=?_) (a':=?_) (bsq 36 32767) rfl rfl (by kernel_rfl) (fun _ _ _ h=>h) (Or.inl ⟨by rfl,?_⟩) ?_ ?_
 rotate_left
 ·intro w'
  go_simp
  with_reducible rfl
 rotate_left
 ·simp only [Act.put,bq1,bq2,bq3,i64_w,i32_w]
  rfl
 refine pure_ (i:=15) (N:=some 18) (v:=?_) (a':=?_) (bsq 36 65535) rfl rfl (by kernel_rfl) (fun _ _ _ h=>h) (Or.inl ⟨by rfl,?_⟩) ?_ ?_
 rotate_left
 ·intro w'
  go_simp
  with_reducible rfl
 rotate_left
 ·simp only [Act.put,bq1,bq2,bq3,i64_w,i32_w]
  rfl
 refine pure_ (i:=16) (N:=some 19) (v:=?_) (a':=?_) (bsq 36 131071) rfl rfl (by kernel_rfl) (fun _ _ _ h=>h) (Or.inl ⟨by rfl,?_⟩) ?_ ?_
 rotate_left
 ·intro w'
  go_simp
  with_reducible rfl
 rotate_left
 ·simp only [Act.put,bq1,bq2,bq3,i64_w,i32_w]
  rfl
 refine pure_ (i:=17) (N:=some 20) (v:=undef) (a':=?_) (bsq 36 262143) rfl rfl (by kernel_rfl) (fun _ _ _ h=>h) (Or.inr ⟨by rfl,rfl⟩) ?_ ?_
 rotate_left
 ·simp only [Act.put,bq1,bq2,bq3,i64_w,i32_w]
  rfl
 refine pure_ (i:=18) (N:=some 21) (v:=undef) (a':=?_) (bsq 36 524287) rfl rfl (by kernel_rfl) (fun _ _ _ h=>h) (Or.inr ⟨by rfl,rfl⟩) ?_ ?_
 rotate_left
 ·simp only [Act.put,bq1,bq2,bq3,i64_w,i32_w]
  rfl
 refine pure_ (i:=19) (N:=some 22) (v:=undef) (a':=?_) (bsq 36 1048575) rfl rfl (by kernel_rfl) (fun _ _ _ h=>h) (Or.inr ⟨by rfl,rfl⟩) ?_ ?_
 rotate_left
 ·simp only [Act.put,bq1,bq2,bq3,i64_w,i32_w]
  rfl
 refine pure_ (i:=20) (N:=some 23) (v:=undef) (a':=?_) (bsq 36 2097151) rfl rfl (by kernel_rfl) (fun _ _ _ h=>h) (Or.inr ⟨by rfl,rfl⟩) ?_ ?_
 rotate_left
 ·simp only [Act.put,bq1,bq2,bq3,i64_w,i32_w]
  rfl
 refine pure_ (i:=21) (N:=some 24) (v:=undef) (a':=?_) (bsq 36 4194303) rfl rfl (by kernel_rfl) (fun _ _ _ h=>h) (Or.inr ⟨by rfl,rfl⟩) ?_ ?_
 rotate_left
 ·simp only [Act.put,bq1,bq2,bq3,i64_w,i32_w]
  rfl
 refine pure_ (i:=22) (N:=some 25) (v:=?_) (a':=?_) (bsq 36 8388607) rfl rfl (by kernel_rfl) (fun _ _ _ h=>h) (Or.inl ⟨by rfl,?_⟩) ?_ ?_
 rotate_left
 ·intro w'
  go_simp
  with_reducible rfl
 rotate_left
 ·simp only [Act.put,bq1,bq2,bq3,i64_w,i32_w]
  rfl
 refine pure_ (i:=23) (N:=some 26) (v:=?_) (a':=?_) (bsq 36 16777215) rfl rfl (by kernel_rfl) (fun _ _ _ h=>h) (Or.inl ⟨by rfl,?_⟩) ?_ ?_
 rotate_left
 ·intro w'
  go_simp
  with_reducible rfl
 rotate_left
 ·simp only [Act.put,bq1,bq2,bq3,i64_w,i32_w]
  rfl
 refine pure_ (i:=24) (N:=some 27) (v:=undef) (a':=?_) (bsq 36 33554431) rfl rfl (by kernel_rfl) (fun _ _ _ h=>h) (Or.inr ⟨by rfl,rfl⟩) ?_ ?_
 rotate_left
 ·simp only [Act.put,bq1,bq2,bq3,i64_w,i32_w]
  rfl
 refine pure_ (i:=25) (N:=some 28) (v:=undef) (a':=?_) (bsq 36 67108863) rfl rfl (by kernel_rfl) (fun _ _ _ h=>h) (Or.inr ⟨by rfl,rfl⟩) ?_ ?_
 rotate_left
 ·simp only [Act.put,bq1,bq2,bq3,i64_w,i32_w]
  rfl
 refine pure_ (i:=26) (N:=some 29) (v:=undef) (a':=?_) (bsq 36 134217727) rfl rfl (by kernel_rfl) (fun _ _ _ h=>h) (Or.inr ⟨by rfl,rfl⟩) ?_ ?_
 rotate_left
 ·simp only [Act.put,bq1,bq2,bq3,i64_w,i32_w]
  rfl
 refine pure_ (i:=27) (N:=some 30) (v:=undef) (a':=?_) (bsq 36 268435455) rfl rfl (by kernel_rfl) (fun _ _ _ h=>h) (Or.inr ⟨by rfl,rfl⟩) ?_ ?_
 rotate_left
 ·simp only [Act.put,bq1,bq2,bq3,i64_w,i32_w]
  rfl
 refine pure_ (i:=28) (N:=some 31) (v:=undef) (a':=?_) (bsq 36 536870911) rfl rfl (by kernel_rfl) (fun _ _ _ h=>h) (Or.inr ⟨by rfl,rfl⟩) ?_ ?_
 rotate_left
 ·simp only [Act.put,bq1,bq2,bq3,i64_w,i32_w]
  rfl
 refine pure_ (i:=29) (N:=some 32) (v:=?_) (a':=?_) (bsq 36 1073741823) rfl rfl (by kernel_rfl) (fun _ _ _ h=>h) (Or.inl ⟨by rfl,?_⟩) ?_ ?_
 rotate_left
 ·intro w'
  go_simp
  with_reducible rfl
 rotate_left
 ·simp only [Act.put,bq1,bq2,bq3,i64_w,i32_w]
  rfl
 refine pure_ (i:=30) (N:=some 33) (v:=?_) (a':=?_) (bsq 36 2147483647) rfl rfl (by kernel_rfl) (fun _ _ _ h=>h) (Or.inl ⟨by rfl,?_⟩) ?_ ?_
 rotate_left
 ·intro w'
  go_simp
  with_reducible rfl
 rotate_left
 ·simp only [Act.put,bq1,bq2,bq3,i64_w,i32_w]
  rfl
 refine pure_ (i:=31) (N:=some 34) (v:=undef) (a':=?_) (bsq 36 4294967295) rfl rfl (by kernel_rfl) (fun _ _ _ h=>h) (Or.inr ⟨by rfl,rfl⟩) ?_ ?_
 rotate_left
 ·simp only [Act.put,bq1,bq2,bq3,i64_w,i32_w]
  rfl
 refine pure_ (i:=32) (N:=some 35) (v:=undef) (a':=?_) (bsq 36 8589934591) rfl rfl (by kernel_rfl) (fun _ _ _ h=>h) (Or.inr ⟨by rfl,rfl⟩) ?_ ?_
 rotate_left
 ·simp only [Act.put,bq1,bq2,bq3,i64_w,i32_w]
  rfl
 refine pure_ (i:=33) (N:=some 36) (v:=undef) (a':=?_) (bsq 36 17179869183) rfl rfl (by kernel_rfl) (fun _ _ _ h=>h) (Or.inr ⟨by rfl,rfl⟩) ?_ ?_
 rotate_left
 ·simp only [Act.put,bq1,bq2,bq3,i64_w,i32_w]
  rfl
 refine pure_ (i:=34) (N:=some 37) (v:=undef) (a':=?_) (bsq 36 34359738367) rfl rfl (by kernel_rfl) (fun _ _ _ h=>h) (Or.inr ⟨by rfl,rfl⟩) ?_ ?_
 rotate_left
 ·simp only [Act.put,bq1,bq2,bq3,i64_w,i32_w]
  rfl
 refine pure_ (i:=35) (N:=some 38) (v:=?_) (a':=?_) (bsq 36 68719476735) rfl rfl (by kernel_rfl) (fun _ _ _ h=>h) (Or.inl ⟨by rfl,?_⟩) ?_ ?_
 rotate_left
 ·intro w'
  go_simp
  with_reducible rfl
 rotate_left
 ·simp only [Act.put,bq1,bq2,bq3,i64_w,i32_w]
  rfl
 refine done_ (by kernel_rfl) ?_
 go_wp2
 go_ret
 exact ⟨rfl,bws B0.out hHeld.2.2.2.2⟩
set_option maxHeartbeats 8000000 in
set_option maxRecDepth 100000 in
theorem check_c3 (m:ByteArray) (b1 b2 b3 b4 b5 b6:Bool) (A7:Option Addr) (c7:Nat) (us:List ByteArray) (A8:Option Addr) (c8:Nat) (ms:List ByteArray) (b9:Bool) (A10:Option Addr) (c10:Nat) (vs:List Int) (w:World) (h7:ReadsOf Value.string ByteArray.empty w A7 us.length us) (h8:ReadsOf Value.string ByteArray.empty w A8 ms.length ms) (h10:ReadsOf (Value.int .i64) 0 w A10 vs.length vs) (e0:kindB m=1) (e7:us.length≤16) (e8:ms.length≤16) (eu:(us.all fun s=>kindB s == 1)=false) :
  Calls Try.prog 18 #[.agg #[.string m,.bool b1,.bool b2,.bool b3,.bool b4,.bool b5,.bool b6,.slice A7 us.length c7,.slice A8 ms.length c8,.bool b9,.slice A10 vs.length c10]] w fun e w'=>e=.returned (.int .i64 160)∧Below w.heap.size w w':=by
 have R7:=amk h7
 have R8:=amk h8
 have R10:=amk h10
 clear h7 h8 h10
 have z0:(kindB m != 1)=false:=bne_eq_false_iff_eq.2 e0
 clear e0
 have z7:decide ((16:Int) < (us.length:Int))=false:=decide_eq_false (by omega)
 have y7:decide (16 < us.length)=false:=decide_eq_false (by omega)
 have z8:decide ((16:Int) < (ms.length:Int))=false:=decide_eq_false (by omega)
 have y8:decide (16 < ms.length)=false:=decide_eq_false (by omega)
 have HU:=amk eu
 clear eu
 have hu:=Try.underlying25
 go_enter Try.func18,Try.ntmps18
 go_upto_region 1 with (fail)
 obtain ⟨w1,hw1⟩:∃ w1,w.alloc (.cells #[.string m,.bool b1,.bool b2,.bool b3,.bool b4,.bool b5,.bool b6,.slice A7 us.length c7,.slice A8 ms.length c8,.bool b9,.slice A10 vs.length c10] 25)=w1:=⟨_,rfl⟩
 have B1:Aside0 (Below w.heap.size w w1):=⟨by rw [← hw1];exact bwa (Below.refl _ _) _⟩
 have BK:Aside0 (w1.heap[w.heap.size]?=some (.cells #[.string m,.bool b1,.bool b2,.bool b3,.bool b4,.bool b5,.bool b6,.slice A7 us.length c7,.slice A8 ms.length c8,.bool b9,.slice A10 vs.length c10] 25 (0,0))):=⟨by rw [← hw1];exact blk_new w _⟩
 rw [hw1]
 clear hw1
 obtain ⟨g,hg⟩:∃ g,w.heap.size=g:=⟨_,rfl⟩
 rw [hg] at BK
 have B0:=B1
 rw [hg]
 have HGG:=amk hg
 clear hg
 refine start_ (n:=36) (S:=fun w'=>w'.cell? ⟨g,0,none⟩=some (.string m)∧w'.cell? ⟨g,7,none⟩=some (.slice A7 us.length c7)∧w'.cell? ⟨g,8,none⟩=some (.slice A8 ms.length c8)∧w'.cell? ⟨g,10,none⟩=some (.slice A10 vs.length c10)∧Below w1.heap.size w1 w') (ds:=[]) (bsq 36 0) (by kernel_rfl) rfl rfl ⟨(bkc BK.out 0).trans rfl,(bkc BK.out 7).trans rfl,(bkc BK.out 8).trans rfl,(bkc BK.out 10).trans rfl,bwd (Below.refl _ _)⟩ (fun hHeld=>?_)
 refine pure_ (i:=0) (N:=some 3) (v:=?_) (a':=?_) (bsq 36 1) rfl rfl (by kernel_rfl) (fun _ _ _ h=>h) (Or.inl ⟨by rfl,?_⟩) ?_ ?_
 rotate_left
 ·intro w'
  go_simp
  with_reducible rfl
 rotate_left
 ·simp only [Act.put,bq1,bq2,bq3,i64_w,i32_w]
  rfl
 refine take_ (i:=1) (N:=some 4) (v:=?_) (a':=?_) (bsq 36 3) rfl rfl (by kernel_rfl) (fun _ _ _ h=>h) (Or.inl ⟨by rfl,?_⟩) hHeld ?_ ?_
 rotate_left
 ·rintro w' ⟨s0,s1,s2,s3,s4⟩
  go_simp
  with_reducible rfl
 rotate_left
 ·simp only [Act.put,bq1,bq2,bq3,i64_w,i32_w]
  rfl
 refine one_ (i:=2) (N:=some 5) (bsq 36 7) rfl rfl (by kernel_rfl) (by decide) (fun K hK=>?_)
 refine goes_ Try.func41 (by kernel_rfl) rfl #[.string m] (by rfl) rfl rfl (by simp only [List.map_toArray,List.map_cons,List.map_nil];rfl) ?_
 with_reducible refine (kind_at m _).mono ?_
 rintro e w3 ⟨rfl,k3⟩
 refine ⟨_,rfl,?_⟩
 have K3:=amk k3
 clear k3
 refine hK.out _ _ ⟨pcb K3.out hHeld.1,pcb K3.out hHeld.2.1,pcb K3.out hHeld.2.2.1,pcb K3.out hHeld.2.2.2.1,bws hHeld.2.2.2.2 K3.out⟩ (fun hHeld=>?_)
 clear hK K
 refine norm_ (a':=?_) ?_ ?_
 rotate_left
 ·show Act.put _ (some 5) _=_
  simp only [Act.put,bq1,bq2,bq3,i64_w,i32_w]
  rfl
 refine pure_ (i:=3) (N:=some 6) (v:=?_) (a':=?_) (bsq 36 15) rfl rfl (by kernel_rfl) (fun _ _ _ h=>h) (Or.inl ⟨by rfl,?_⟩) ?_ ?_
 rotate_left
 ·intro w'
  go_simp
  with_reducible rfl
 rotate_left
 ·simp only [Act.put,bq1,bq2,bq3,i64_w,i32_w]
  rfl
 refine pure_ (i:=4) (N:=some 7) (v:=?_) (a':=?_) (bsq 36 31) rfl rfl (by kernel_rfl) (fun _ _ _ h=>h) (Or.inl ⟨by rfl,?_⟩) ?_ ?_
 rotate_left
 ·intro w'
  go_simp
  with_reducible rfl
 rotate_left
 ·simp only [Act.put,bq1,bq2,bq3,i64_w,i32_w]
  rfl
 refine pure_ (i:=5) (N:=some 8) (v:=?_) (a':=?_) (bsq 36 63) rfl rfl (by kernel_rfl) (fun _ _ _ h=>h) (Or.inl ⟨by rfl,?_⟩) ?_ ?_
 rotate_left
 ·intro w'
  go_simp
  with_reducible rfl
 rotate_left
 ·simp only [Act.put,bq1,bq2,bq3,i64_w,i32_w]
  rfl
 refine take_ (i:=6) (N:=some 9) (v:=?_) (a':=?_) (bsq 36 127) rfl rfl (by kernel_rfl) (fun _ _ _ h=>h) (Or.inl ⟨by rfl,?_⟩) hHeld ?_ ?_
 rotate_left
 ·rintro w' ⟨s0,s1,s2,s3,s4⟩
  go_simp
  with_reducible rfl
 rotate_left
 ·simp only [Act.put,bq1,bq2,bq3,i64_w,i32_w]
  rfl
 refine pure_ (i:=7) (N:=some 10) (v:=?_) (a':=?_) (bsq 36 255) rfl rfl (by kernel_rfl) (fun _ _ _ h=>h) (Or.inl ⟨by rfl,?_⟩) ?_ ?_
 rotate_left
 ·intro w'
  go_simp
  with_reducible rfl
 rotate_left
 ·simp only [Act.put,bq1,bq2,bq3,i64_w,i32_w]
  rfl
 refine pure_ (i:=8) (N:=some 11) (v:=?_) (a':=?_) (bsq 36 511) rfl rfl (by kernel_rfl) (fun _ _ _ h=>h) (Or.inl ⟨by rfl,?_⟩) ?_ ?_
 rotate_left
 ·intro w'
  go_simp
  with_reducible rfl
 rotate_left
 ·simp only [Act.put,bq1,bq2,bq3,i64_w,i32_w]
  rfl
 refine pure_ (i:=9) (N:=some 12) (v:=?_) (a':=?_) (bsq 36 1023) rfl rfl (by kernel_rfl) (fun _ _ _ h=>h) (Or.inl ⟨by rfl,?_⟩) ?_ ?_
 rotate_left
 ·intro w'
  go_simp
  with_reducible rfl
 rotate_left
 ·simp only [Act.put,bq1,bq2,bq3,i64_w,i32_w]
  rfl
 refine pure_ (i:=10) (N:=some 13) (v:=?_) (a':=?_) (bsq 36 2047) rfl rfl (by kernel_rfl) (fun _ _ _ h=>h) (Or.inl ⟨by rfl,?_⟩) ?_ ?_
 rotate_left
 ·intro w'
  go_simp
  with_reducible rfl
 rotate_left
 ·simp only [Act.put,bq1,bq2,bq3,i64_w,i32_w]
  rfl
 refine pure_ (i:=11) (N:=some 14) (v:=?_) (a':=?_) (bsq 36 4095) rfl rfl (by kernel_rfl) (fun _ _ _ h=>h) (Or.inl ⟨by rfl,?_⟩) ?_ ?_
 rotate_left
 ·intro w'
  go_simp
  with_reducible rfl
 rotate_left
 ·simp only [Act.put,bq1,bq2,bq3,i64_w,i32_w]
  rfl
 refine take_ (i:=12) (N:=some 15) (v:=?_) (a':=?_) (bsq 36 8191) rfl rfl (by kernel_rfl) (fun _ _ _ h=>h) (Or.inl ⟨by rfl,?_⟩) hHeld ?_ ?_
 rotate_left
 ·rintro w' ⟨s0,s1,s2,s3,s4⟩
  go_simp
  with_reducible rfl
 rotate_left
 ·simp only [Act.put,bq1,bq2,bq3,i64_w,i32_w]
  rfl
 refine pure_ (i:=13) (N:=some 16) (v:=?_) (a':=?_) (bsq 36 16383) rfl rfl (by kernel_rfl) (fun _ _ _ h=>h) (Or.inl ⟨by rfl,?_⟩) ?_ ?_
 rotate_left
 ·intro w'
  go_simp
  with_reducible rfl
 rotate_left
 ·simp only [Act.put,bq1,bq2,bq3,i64_w,i32_w]
  rfl
 refine pure_ (i:=14) (N:=some 17) (v:=?_) (a':=?_) (bsq 36 32767) rfl rfl (by kernel_rfl) (fun _ _ _ h=>h) (Or.inl ⟨by rfl,?_⟩) ?_ ?_
 rotate_left
 ·intro w'
  go_simp
  with_reducible rfl
 rotate_left
 ·simp only [Act.put,bq1,bq2,bq3,i64_w,i32_w]
  rfl
 refine pure_ (i:=15) (N:=some 18) (v:=?_) (a':=?_) (bsq 36 65535) rfl rfl (by kernel_rfl) (fun _ _ _ h=>h) (Or.inl ⟨by rfl,?_⟩) ?_ ?_
 rotate_left
 ·intro w'
  go_simp
  with_reducible rfl
 rotate_left
 ·simp only [Act.put,bq1,bq2,bq3,i64_w,i32_w]
  rfl
 refine pure_ (i:=16) (N:=some 19) (v:=?_) (a':=?_) (bsq 36 131071) rfl rfl (by kernel_rfl) (fun _ _ _ h=>h) (Or.inl ⟨by rfl,?_⟩) ?_ ?_
 rotate_left
 ·intro w'
  go_simp
  with_reducible rfl
 rotate_left
 ·simp only [Act.put,bq1,bq2,bq3,i64_w,i32_w]
  rfl
 refine pure_ (i:=17) (N:=some 20) (v:=?_) (a':=?_) (bsq 36 262143) rfl rfl (by kernel_rfl) (fun _ _ _ h=>h) (Or.inl ⟨by rfl,?_⟩) ?_ ?_
 rotate_left
 ·intro w'
  go_simp
  with_reducible rfl
 rotate_left
 ·simp only [Act.put,bq1,bq2,bq3,i64_w,i32_w]
  rfl
 refine take_ (i:=18) (N:=some 21) (v:=?_) (a':=?_) (bsq 36 524287) rfl rfl (by kernel_rfl) (fun _ _ _ h=>h) (Or.inl ⟨by rfl,?_⟩) hHeld ?_ ?_
 rotate_left
 ·rintro w' ⟨s0,s1,s2,s3,s4⟩
  go_simp
  with_reducible rfl
 rotate_left
 ·simp only [Act.put,bq1,bq2,bq3,i64_w,i32_w]
  rfl
 refine one_ (i:=19) (N:=some 22) (bsq 36 1048575) rfl rfl (by kernel_rfl) (by decide) (fun K hK=>?_)
 refine goes_ Try.func43 (by kernel_rfl) rfl #[.int .i64 1] (by rfl) rfl rfl (by simp only [List.map_toArray,List.map_cons,List.map_nil];rfl) ?_
 with_reducible refine (of_at 1 _).mono ?_
 rintro e w4 ⟨rfl,q4,k4⟩
 refine ⟨_,rfl,?_⟩
 have K4:=amk k4
 have Q4:=amk q4
 clear k4 q4
 refine hK.out _ _ ⟨pcb K4.out hHeld.1,pcb K4.out hHeld.2.1,pcb K4.out hHeld.2.2.1,pcb K4.out hHeld.2.2.2.1,bws hHeld.2.2.2.2 K4.out⟩ (fun hHeld=>?_)
 clear hK K
 refine norm_ (a':=?_) ?_ ?_
 rotate_left
 ·show Act.put _ (some 22) _=_
  simp only [Act.put,bq1,bq2,bq3,i64_w,i32_w]
  rfl
 refine one_ (i:=20) (N:=some 23) (bsq 36 2097151) rfl rfl (by kernel_rfl) (by decide) (fun K hK=>?_)
 refine goes_ Try.func42 (by kernel_rfl) rfl #[.slice A7 us.length c7,.func (.func 62) #[] #[.pointer (some ⟨w3.heap.size,0,none⟩)]] (by rfl) rfl rfl (by simp only [List.map_toArray,List.map_cons,List.map_nil];rfl) ?_
 with_reducible refine (all_at A7 c7 us 1 w3.heap.size w4 HU.out (R7.out.below (bws B1.out hHeld.2.2.2.2)) Q4.out).mono ?_
 rintro e w5 ⟨rfl,k5⟩
 refine ⟨_,rfl,?_⟩
 have K5:=amk k5
 clear k5
 refine hK.out _ _ ⟨pcb K5.out hHeld.1,pcb K5.out hHeld.2.1,pcb K5.out hHeld.2.2.1,pcb K5.out hHeld.2.2.2.1,bws hHeld.2.2.2.2 K5.out⟩ (fun hHeld=>?_)
 clear hK K
 refine norm_ (a':=?_) ?_ ?_
 rotate_left
 ·show Act.put _ (some 23) _=_
  simp only [Act.put,bq1,bq2,bq3,i64_w,i32_w]
  rfl
 refine pure_ (i:=21) (N:=some 24) (v:=?_) (a':=?_) (bsq 36 4194303) rfl rfl (by kernel_rfl) (fun _ _ _ h=>h) (Or.inl ⟨by rfl,?_⟩) ?_ ?_
 rotate_left
 ·intro w'
  go_simp
  with_reducible rfl
 rotate_left
 ·simp only [Act.put,bq1,bq2,bq3,i64_w,i32_w]
  rfl
 refine pure_ (i:=22) (N:=some 25) (v:=?_) (a':=?_) (bsq 36 8388607) rfl rfl (by kernel_rfl) (fun _ _ _ h=>h) (Or.inl ⟨by rfl,?_⟩) ?_ ?_
 rotate_left
 ·intro w'
  go_simp
  with_reducible rfl
 rotate_left
 ·simp only [Act.put,bq1,bq2,bq3,i64_w,i32_w]
  rfl
 refine pure_ (i:=23) (N:=some 26) (v:=?_) (a':=?_) (bsq 36 16777215) rfl rfl (by kernel_rfl) (fun _ _ _ h=>h) (Or.inl ⟨by rfl,?_⟩) ?_ ?_
 rotate_left
 ·intro w'
  go_simp
  with_reducible rfl
 rotate_left
 ·simp only [Act.put,bq1,bq2,bq3,i64_w,i32_w]
  rfl
 refine pure_ (i:=24) (N:=some 27) (v:=undef) (a':=?_) (bsq 36 33554431) rfl rfl (by kernel_rfl) (fun _ _ _ h=>h) (Or.inr ⟨by rfl,rfl⟩) ?_ ?_
 rotate_left
 ·simp only [Act.put,bq1,bq2,bq3,i64_w,i32_w]
  rfl
 refine pure_ (i:=25) (N:=some 28) (v:=undef) (a':=?_) (bsq 36 67108863) rfl rfl (by kernel_rfl) (fun _ _ _ h=>h) (Or.inr ⟨by rfl,rfl⟩) ?_ ?_
 rotate_left
 ·simp only [Act.put,bq1,bq2,bq3,i64_w,i32_w]
  rfl
 refine pure_ (i:=26) (N:=some 29) (v:=undef) (a':=?_) (bsq 36 134217727) rfl rfl (by kernel_rfl) (fun _ _ _ h=>h) (Or.inr ⟨by rfl,rfl⟩) ?_ ?_
 rotate_left
 ·simp only [Act.put,bq1,bq2,bq3,i64_w,i32_w]
  rfl
 refine pure_ (i:=27) (N:=some 30) (v:=undef) (a':=?_) (bsq 36 268435455) rfl rfl (by kernel_rfl) (fun _ _ _ h=>h) (Or.inr ⟨by rfl,rfl⟩) ?_ ?_
 rotate_left
 ·simp only [Act.put,bq1,bq2,bq3,i64_w,i32_w]
  rfl
 refine pure_ (i:=28) (N:=some 31) (v:=undef) (a':=?_) (bsq 36 536870911) rfl rfl (by kernel_rfl) (fun _ _ _ h=>h) (Or.inr ⟨by rfl,rfl⟩) ?_ ?_
 rotate_left
 ·simp only [Act.put,bq1,bq2,bq3,i64_w,i32_w]
  rfl
 refine pure_ (i:=29) (N:=some 32) (v:=?_) (a':=?_) (bsq 36 1073741823) rfl rfl (by kernel_rfl) (fun _ _ _ h=>h) (Or.inl ⟨by rfl,?_⟩) ?_ ?_
 rotate_left
 ·intro w'
  go_simp
  with_reducible rfl
 rotate_left
 ·simp only [Act.put,bq1,bq2,bq3,i64_w,i32_w]
  rfl
 refine pure_ (i:=30) (N:=some 33) (v:=?_) (a':=?_) (bsq 36 2147483647) rfl rfl (by kernel_rfl) (fun _ _ _ h=>h) (Or.inl ⟨by rfl,?_⟩) ?_ ?_
 rotate_left
 ·intro w'
  go_simp
  with_reducible rfl
 rotate_left
 ·simp only [Act.put,bq1,bq2,bq3,i64_w,i32_w]
  rfl
 refine pure_ (i:=31) (N:=some 34) (v:=undef) (a':=?_) (bsq 36 4294967295) rfl rfl (by kernel_rfl) (fun _ _ _ h=>h) (Or.inr ⟨by rfl,rfl⟩) ?_ ?_
 rotate_left
 ·simp only [Act.put,bq1,bq2,bq3,i64_w,i32_w]
  rfl
 refine pure_ (i:=32) (N:=some 35) (v:=undef) (a':=?_) (bsq 36 8589934591) rfl rfl (by kernel_rfl) (fun _ _ _ h=>h) (Or.inr ⟨by rfl,rfl⟩) ?_ ?_
 rotate_left
 ·simp only [Act.put,bq1,bq2,bq3,i64_w,i32_w]
  rfl
 refine pure_ (i:=33) (N:=some 36) (v:=undef) (a':=?_) (bsq 36 17179869183) rfl rfl (by kernel_rfl) (fun _ _ _ h=>h) (Or.inr ⟨by rfl,rfl⟩) ?_ ?_
 rotate_left
 ·simp only [Act.put,bq1,bq2,bq3,i64_w,i32_w]
  rfl
 refine pure_ (i:=34) (N:=some 37) (v:=undef) (a':=?_) (bsq 36 34359738367) rfl rfl (by kernel_rfl) (fun _ _ _ h=>h) (Or.inr ⟨by rfl,rfl⟩) ?_ ?_
 rotate_left
 ·simp only [Act.put,bq1,bq2,bq3,i64_w,i32_w]
  rfl
 refine pure_ (i:=35) (N:=some 38) (v:=?_) (a':=?_) (bsq 36 68719476735) rfl rfl (by kernel_rfl) (fun _ _ _ h=>h) (Or.inl ⟨by rfl,?_⟩) ?_ ?_
 rotate_left
 ·intro w'
  go_simp
  with_reducible rfl
 rotate_left
 ·simp only [Act.put,bq1,bq2,bq3,i64_w,i32_w]
  rfl
 refine done_ (by kernel_rfl) ?_
 go_wp2
 go_ret
 exact ⟨rfl,bws B0.out hHeld.2.2.2.2⟩
set_option maxHeartbeats 8000000 in
set_option maxRecDepth 100000 in
theorem check_c4 (m:ByteArray) (b1 b2 b3 b4 b5 b6:Bool) (A7:Option Addr) (c7:Nat) (us:List ByteArray) (A8:Option Addr) (c8:Nat) (ms:List ByteArray) (b9:Bool) (A10:Option Addr) (c10:Nat) (vs:List Int) (w:World) (h7:ReadsOf Value.string ByteArray.empty w A7 us.length us) (h8:ReadsOf Value.string ByteArray.empty w A8 ms.length ms) (h10:ReadsOf (Value.int .i64) 0 w A10 vs.length vs) (e0:kindB m=1) (e7:us.length≤16) (e8:ms.length≤16) (eu:(us.all fun s=>kindB s == 1)=true) (em:(ms.all fun s=>kindB s == 2)=false) :
  Calls Try.prog 18 #[.agg #[.string m,.bool b1,.bool b2,.bool b3,.bool b4,.bool b5,.bool b6,.slice A7 us.length c7,.slice A8 ms.length c8,.bool b9,.slice A10 vs.length c10]] w fun e w'=>e=.returned (.int .i64 160)∧Below w.heap.size w w':=by
 have R7:=amk h7
 have R8:=amk h8
 have R10:=amk h10
 clear h7 h8 h10
 have z0:(kindB m != 1)=false:=bne_eq_false_iff_eq.2 e0
 clear e0
 have z7:decide ((16:Int) < (us.length:Int))=false:=decide_eq_false (by omega)
 have y7:decide (16 < us.length)=false:=decide_eq_false (by omega)
 have z8:decide ((16:Int) < (ms.length:Int))=false:=decide_eq_false (by omega)
 have y8:decide (16 < ms.length)=false:=decide_eq_false (by omega)
 have HU:=amk eu
 clear eu
 have HM:=amk em
 clear em
 have hu:=Try.underlying25
 go_enter Try.func18,Try.ntmps18
 go_upto_region 1 with (fail)
 obtain ⟨w1,hw1⟩:∃ w1,w.alloc (.cells #[.string m,.bool b1,.bool b2,.bool b3,.bool b4,.bool b5,.bool b6,.slice A7 us.length c7,.slice A8 ms.length c8,.bool b9,.slice A10 vs.length c10] 25)=w1:=⟨_,rfl⟩
 have B1:Aside0 (Below w.heap.size w w1):=⟨by rw [← hw1];exact bwa (Below.refl _ _) _⟩
 have BK:Aside0 (w1.heap[w.heap.size]?=some (.cells #[.string m,.bool b1,.bool b2,.bool b3,.bool b4,.bool b5,.bool b6,.slice A7 us.length c7,.slice A8 ms.length c8,.bool b9,.slice A10 vs.length c10] 25 (0,0))):=⟨by rw [← hw1];exact blk_new w _⟩
 rw [hw1]
 clear hw1
 obtain ⟨g,hg⟩:∃ g,w.heap.size=g:=⟨_,rfl⟩
 rw [hg] at BK
 have B0:=B1
 rw [hg]
 have HGG:=amk hg
 clear hg
 refine start_ (n:=36) (S:=fun w'=>w'.cell? ⟨g,0,none⟩=some (.string m)∧w'.cell? ⟨g,7,none⟩=some (.slice A7 us.length c7)∧w'.cell? ⟨g,8,none⟩=some (.slice A8 ms.length c8)∧w'.cell? ⟨g,10,none⟩=some (.slice A10 vs.length c10)∧Below w1.heap.size w1 w') (ds:=[]) (bsq 36 0) (by kernel_rfl) rfl rfl ⟨(bkc BK.out 0).trans rfl,(bkc BK.out 7).trans rfl,(bkc BK.out 8).trans rfl,(bkc BK.out 10).trans rfl,bwd (Below.refl _ _)⟩ (fun hHeld=>?_)
 refine pure_ (i:=0) (N:=some 3) (v:=?_) (a':=?_) (bsq 36 1) rfl rfl (by kernel_rfl) (fun _ _ _ h=>h) (Or.inl ⟨by rfl,?_⟩) ?_ ?_
 rotate_left
 ·intro w'
  go_simp
  with_reducible rfl
 rotate_left
 ·simp only [Act.put,bq1,bq2,bq3,i64_w,i32_w]
  rfl
 refine take_ (i:=1) (N:=some 4) (v:=?_) (a':=?_) (bsq 36 3) rfl rfl (by kernel_rfl) (fun _ _ _ h=>h) (Or.inl ⟨by rfl,?_⟩) hHeld ?_ ?_
 rotate_left
 ·rintro w' ⟨s0,s1,s2,s3,s4⟩
  go_simp
  with_reducible rfl
 rotate_left
 ·simp only [Act.put,bq1,bq2,bq3,i64_w,i32_w]
  rfl
 refine one_ (i:=2) (N:=some 5) (bsq 36 7) rfl rfl (by kernel_rfl) (by decide) (fun K hK=>?_)
 refine goes_ Try.func41 (by kernel_rfl) rfl #[.string m] (by rfl) rfl rfl (by simp only [List.map_toArray,List.map_cons,List.map_nil];rfl) ?_
 with_reducible refine (kind_at m _).mono ?_
 rintro e w3 ⟨rfl,k3⟩
 refine ⟨_,rfl,?_⟩
 have K3:=amk k3
 clear k3
 refine hK.out _ _ ⟨pcb K3.out hHeld.1,pcb K3.out hHeld.2.1,pcb K3.out hHeld.2.2.1,pcb K3.out hHeld.2.2.2.1,bws hHeld.2.2.2.2 K3.out⟩ (fun hHeld=>?_)
 clear hK K
 refine norm_ (a':=?_) ?_ ?_
 rotate_left
 ·show Act.put _ (some 5) _=_
  simp only [Act.put,bq1,bq2,bq3,i64_w,i32_w]
  rfl
 refine pure_ (i:=3) (N:=some 6) (v:=?_) (a':=?_) (bsq 36 15) rfl rfl (by kernel_rfl) (fun _ _ _ h=>h) (Or.inl ⟨by rfl,?_⟩) ?_ ?_
 rotate_left
 ·intro w'
  go_simp
  with_reducible rfl
 rotate_left
 ·simp only [Act.put,bq1,bq2,bq3,i64_w,i32_w]
  rfl
 refine pure_ (i:=4) (N:=some 7) (v:=?_) (a':=?_) (bsq 36 31) rfl rfl (by kernel_rfl) (fun _ _ _ h=>h) (Or.inl ⟨by rfl,?_⟩) ?_ ?_
 rotate_left
 ·intro w'
  go_simp
  with_reducible rfl
 rotate_left
 ·simp only [Act.put,bq1,bq2,bq3,i64_w,i32_w]
  rfl
 refine pure_ (i:=5) (N:=some 8) (v:=?_) (a':=?_) (bsq 36 63) rfl rfl (by kernel_rfl) (fun _ _ _ h=>h) (Or.inl ⟨by rfl,?_⟩) ?_ ?_
 rotate_left
 ·intro w'
  go_simp
  with_reducible rfl
 rotate_left
 ·simp only [Act.put,bq1,bq2,bq3,i64_w,i32_w]
  rfl
 refine take_ (i:=6) (N:=some 9) (v:=?_) (a':=?_) (bsq 36 127) rfl rfl (by kernel_rfl) (fun _ _ _ h=>h) (Or.inl ⟨by rfl,?_⟩) hHeld ?_ ?_
 rotate_left
 ·rintro w' ⟨s0,s1,s2,s3,s4⟩
  go_simp
  with_reducible rfl
 rotate_left
 ·simp only [Act.put,bq1,bq2,bq3,i64_w,i32_w]
  rfl
 refine pure_ (i:=7) (N:=some 10) (v:=?_) (a':=?_) (bsq 36 255) rfl rfl (by kernel_rfl) (fun _ _ _ h=>h) (Or.inl ⟨by rfl,?_⟩) ?_ ?_
 rotate_left
 ·intro w'
  go_simp
  with_reducible rfl
 rotate_left
 ·simp only [Act.put,bq1,bq2,bq3,i64_w,i32_w]
  rfl
 refine pure_ (i:=8) (N:=some 11) (v:=?_) (a':=?_) (bsq 36 511) rfl rfl (by kernel_rfl) (fun _ _ _ h=>h) (Or.inl ⟨by rfl,?_⟩) ?_ ?_
 rotate_left
 ·intro w'
  go_simp
  with_reducible rfl
 rotate_left
 ·simp only [Act.put,bq1,bq2,bq3,i64_w,i32_w]
  rfl
 refine pure_ (i:=9) (N:=some 12) (v:=?_) (a':=?_) (bsq 36 1023) rfl rfl (by kernel_rfl) (fun _ _ _ h=>h) (Or.inl ⟨by rfl,?_⟩) ?_ ?_
 rotate_left
 ·intro w'
  go_simp
  with_reducible rfl
 rotate_left
 ·simp only [Act.put,bq1,bq2,bq3,i64_w,i32_w]
  rfl
 refine pure_ (i:=10) (N:=some 13) (v:=?_) (a':=?_) (bsq 36 2047) rfl rfl (by kernel_rfl) (fun _ _ _ h=>h) (Or.inl ⟨by rfl,?_⟩) ?_ ?_
 rotate_left
 ·intro w'
  go_simp
  with_reducible rfl
 rotate_left
 ·simp only [Act.put,bq1,bq2,bq3,i64_w,i32_w]
  rfl
 refine pure_ (i:=11) (N:=some 14) (v:=?_) (a':=?_) (bsq 36 4095) rfl rfl (by kernel_rfl) (fun _ _ _ h=>h) (Or.inl ⟨by rfl,?_⟩) ?_ ?_
 rotate_left
 ·intro w'
  go_simp
  with_reducible rfl
 rotate_left
 ·simp only [Act.put,bq1,bq2,bq3,i64_w,i32_w]
  rfl
 refine take_ (i:=12) (N:=some 15) (v:=?_) (a':=?_) (bsq 36 8191) rfl rfl (by kernel_rfl) (fun _ _ _ h=>h) (Or.inl ⟨by rfl,?_⟩) hHeld ?_ ?_
 rotate_left
 ·rintro w' ⟨s0,s1,s2,s3,s4⟩
  go_simp
  with_reducible rfl
 rotate_left
 ·simp only [Act.put,bq1,bq2,bq3,i64_w,i32_w]
  rfl
 refine pure_ (i:=13) (N:=some 16) (v:=?_) (a':=?_) (bsq 36 16383) rfl rfl (by kernel_rfl) (fun _ _ _ h=>h) (Or.inl ⟨by rfl,?_⟩) ?_ ?_
 rotate_left
 ·intro w'
  go_simp
  with_reducible rfl
 rotate_left
 ·simp only [Act.put,bq1,bq2,bq3,i64_w,i32_w]
  rfl
 refine pure_ (i:=14) (N:=some 17) (v:=?_) (a':=?_) (bsq 36 32767) rfl rfl (by kernel_rfl) (fun _ _ _ h=>h) (Or.inl ⟨by rfl,?_⟩) ?_ ?_
 rotate_left
 ·intro w'
  go_simp
  with_reducible rfl
 rotate_left
 ·simp only [Act.put,bq1,bq2,bq3,i64_w,i32_w]
  rfl
 refine pure_ (i:=15) (N:=some 18) (v:=?_) (a':=?_) (bsq 36 65535) rfl rfl (by kernel_rfl) (fun _ _ _ h=>h) (Or.inl ⟨by rfl,?_⟩) ?_ ?_
 rotate_left
 ·intro w'
  go_simp
  with_reducible rfl
 rotate_left
 ·simp only [Act.put,bq1,bq2,bq3,i64_w,i32_w]
  rfl
 refine pure_ (i:=16) (N:=some 19) (v:=?_) (a':=?_) (bsq 36 131071) rfl rfl (by kernel_rfl) (fun _ _ _ h=>h) (Or.inl ⟨by rfl,?_⟩) ?_ ?_
 rotate_left
 ·intro w'
  go_simp
  with_reducible rfl
 rotate_left
 ·simp only [Act.put,bq1,bq2,bq3,i64_w,i32_w]
  rfl
 refine pure_ (i:=17) (N:=some 20) (v:=?_) (a':=?_) (bsq 36 262143) rfl rfl (by kernel_rfl) (fun _ _ _ h=>h) (Or.inl ⟨by rfl,?_⟩) ?_ ?_
 rotate_left
 ·intro w'
  go_simp
  with_reducible rfl
 rotate_left
 ·simp only [Act.put,bq1,bq2,bq3,i64_w,i32_w]
  rfl
 refine take_ (i:=18) (N:=some 21) (v:=?_) (a':=?_) (bsq 36 524287) rfl rfl (by kernel_rfl) (fun _ _ _ h=>h) (Or.inl ⟨by rfl,?_⟩) hHeld ?_ ?_
 rotate_left
 ·rintro w' ⟨s0,s1,s2,s3,s4⟩
  go_simp
  with_reducible rfl
 rotate_left
 ·simp only [Act.put,bq1,bq2,bq3,i64_w,i32_w]
  rfl
 refine one_ (i:=19) (N:=some 22) (bsq 36 1048575) rfl rfl (by kernel_rfl) (by decide) (fun K hK=>?_)
 refine goes_ Try.func43 (by kernel_rfl) rfl #[.int .i64 1] (by rfl) rfl rfl (by simp only [List.map_toArray,List.map_cons,List.map_nil];rfl) ?_
 with_reducible refine (of_at 1 _).mono ?_
 rintro e w4 ⟨rfl,q4,k4⟩
 refine ⟨_,rfl,?_⟩
 have K4:=amk k4
 have Q4:=amk q4
 clear k4 q4
 refine hK.out _ _ ⟨pcb K4.out hHeld.1,pcb K4.out hHeld.2.1,pcb K4.out hHeld.2.2.1,pcb K4.out hHeld.2.2.2.1,bws hHeld.2.2.2.2 K4.out⟩ (fun hHeld=>?_)
 clear hK K
 refine norm_ (a':=?_) ?_ ?_
 rotate_left
 ·show Act.put _ (some 22) _=_
  simp only [Act.put,bq1,bq2,bq3,i64_w,i32_w]
  rfl
 refine one_ (i:=20) (N:=some 23) (bsq 36 2097151) rfl rfl (by kernel_rfl) (by decide) (fun K hK=>?_)
 refine goes_ Try.func42 (by kernel_rfl) rfl #[.slice A7 us.length c7,.func (.func 62) #[] #[.pointer (some ⟨w3.heap.size,0,none⟩)]] (by rfl) rfl rfl (by simp only [List.map_toArray,List.map_cons,List.map_nil];rfl) ?_
 with_reducible refine (all_at A7 c7 us 1 w3.heap.size w4 HU.out (R7.out.below (bws B1.out hHeld.2.2.2.2)) Q4.out).mono ?_
 rintro e w5 ⟨rfl,k5⟩
 refine ⟨_,rfl,?_⟩
 have K5:=amk k5
 clear k5
 refine hK.out _ _ ⟨pcb K5.out hHeld.1,pcb K5.out hHeld.2.1,pcb K5.out hHeld.2.2.1,pcb K5.out hHeld.2.2.2.1,bws hHeld.2.2.2.2 K5.out⟩ (fun hHeld=>?_)
 clear hK K
 refine norm_ (a':=?_) ?_ ?_
 rotate_left
 ·show Act.put _ (some 23) _=_
  simp only [Act.put,bq1,bq2,bq3,i64_w,i32_w]
  rfl
 refine pure_ (i:=21) (N:=some 24) (v:=?_) (a':=?_) (bsq 36 4194303) rfl rfl (by kernel_rfl) (fun _ _ _ h=>h) (Or.inl ⟨by rfl,?_⟩) ?_ ?_
 rotate_left
 ·intro w'
  go_simp
  with_reducible rfl
 rotate_left
 ·simp only [Act.put,bq1,bq2,bq3,i64_w,i32_w]
  rfl
 refine pure_ (i:=22) (N:=some 25) (v:=?_) (a':=?_) (bsq 36 8388607) rfl rfl (by kernel_rfl) (fun _ _ _ h=>h) (Or.inl ⟨by rfl,?_⟩) ?_ ?_
 rotate_left
 ·intro w'
  go_simp
  with_reducible rfl
 rotate_left
 ·simp only [Act.put,bq1,bq2,bq3,i64_w,i32_w]
  rfl
 refine pure_ (i:=23) (N:=some 26) (v:=?_) (a':=?_) (bsq 36 16777215) rfl rfl (by kernel_rfl) (fun _ _ _ h=>h) (Or.inl ⟨by rfl,?_⟩) ?_ ?_
 rotate_left
 ·intro w'
  go_simp
  with_reducible rfl
 rotate_left
 ·simp only [Act.put,bq1,bq2,bq3,i64_w,i32_w]
  rfl
 refine pure_ (i:=24) (N:=some 27) (v:=?_) (a':=?_) (bsq 36 33554431) rfl rfl (by kernel_rfl) (fun _ _ _ h=>h) (Or.inl ⟨by rfl,?_⟩) ?_ ?_
 rotate_left
 ·intro w'
  go_simp
  with_reducible rfl
 rotate_left
 ·simp only [Act.put,bq1,bq2,bq3,i64_w,i32_w]
  rfl
 refine take_ (i:=25) (N:=some 28) (v:=?_) (a':=?_) (bsq 36 67108863) rfl rfl (by kernel_rfl) (fun _ _ _ h=>h) (Or.inl ⟨by rfl,?_⟩) hHeld ?_ ?_
 rotate_left
 ·rintro w' ⟨s0,s1,s2,s3,s4⟩
  go_simp
  with_reducible rfl
 rotate_left
 ·simp only [Act.put,bq1,bq2,bq3,i64_w,i32_w]
  rfl
 refine one_ (i:=26) (N:=some 29) (bsq 36 134217727) rfl rfl (by kernel_rfl) (by decide) (fun K hK=>?_)
 refine goes_ Try.func43 (by kernel_rfl) rfl #[.int .i64 2] (by rfl) rfl rfl (by simp only [List.map_toArray,List.map_cons,List.map_nil];rfl) ?_
 with_reducible refine (of_at 2 _).mono ?_
 rintro e w6 ⟨rfl,q6,k6⟩
 refine ⟨_,rfl,?_⟩
 have K6:=amk k6
 have Q6:=amk q6
 clear k6 q6
 refine hK.out _ _ ⟨pcb K6.out hHeld.1,pcb K6.out hHeld.2.1,pcb K6.out hHeld.2.2.1,pcb K6.out hHeld.2.2.2.1,bws hHeld.2.2.2.2 K6.out⟩ (fun hHeld=>?_)
 clear hK K
 refine norm_ (a':=?_) ?_ ?_
 rotate_left
 ·show Act.put _ (some 29) _=_
  simp only [Act.put,bq1,bq2,bq3,i64_w,i32_w]
  rfl
 refine one_ (i:=27) (N:=some 30) (bsq 36 268435455) rfl rfl (by kernel_rfl) (by decide) (fun K hK=>?_)
 refine goes_ Try.func42 (by kernel_rfl) rfl #[.slice A8 ms.length c8,.func (.func 62) #[] #[.pointer (some ⟨w5.heap.size,0,none⟩)]] (by rfl) rfl rfl (by simp only [List.map_toArray,List.map_cons,List.map_nil];rfl) ?_
 with_reducible refine (all_at A8 c8 ms 2 w5.heap.size w6 HM.out (R8.out.below (bws B1.out hHeld.2.2.2.2)) Q6.out).mono ?_
 rintro e w7 ⟨rfl,k7⟩
 refine ⟨_,rfl,?_⟩
 have K7:=amk k7
 clear k7
 refine hK.out _ _ ⟨pcb K7.out hHeld.1,pcb K7.out hHeld.2.1,pcb K7.out hHeld.2.2.1,pcb K7.out hHeld.2.2.2.1,bws hHeld.2.2.2.2 K7.out⟩ (fun hHeld=>?_)
 clear hK K
 refine norm_ (a':=?_) ?_ ?_
 rotate_left
 ·show Act.put _ (some 30) _=_
  simp only [Act.put,bq1,bq2,bq3,i64_w,i32_w]
  rfl
 refine pure_ (i:=28) (N:=some 31) (v:=?_) (a':=?_) (bsq 36 536870911) rfl rfl (by kernel_rfl) (fun _ _ _ h=>h) (Or.inl ⟨by rfl,?_⟩) ?_ ?_
 rotate_left
 ·intro w'
  go_simp
  with_reducible rfl
 rotate_left
 ·simp only [Act.put,bq1,bq2,bq3,i64_w,i32_w]
  rfl
 refine pure_ (i:=29) (N:=some 32) (v:=?_) (a':=?_) (bsq 36 1073741823) rfl rfl (by kernel_rfl) (fun _ _ _ h=>h) (Or.inl ⟨by rfl,?_⟩) ?_ ?_
 rotate_left
 ·intro w'
  go_simp
  with_reducible rfl
 rotate_left
 ·simp only [Act.put,bq1,bq2,bq3,i64_w,i32_w]
  rfl
 refine pure_ (i:=30) (N:=some 33) (v:=?_) (a':=?_) (bsq 36 2147483647) rfl rfl (by kernel_rfl) (fun _ _ _ h=>h) (Or.inl ⟨by rfl,?_⟩) ?_ ?_
 rotate_left
 ·intro w'
  go_simp
  with_reducible rfl
 rotate_left
 ·simp only [Act.put,bq1,bq2,bq3,i64_w,i32_w]
  rfl
 refine pure_ (i:=31) (N:=some 34) (v:=undef) (a':=?_) (bsq 36 4294967295) rfl rfl (by kernel_rfl) (fun _ _ _ h=>h) (Or.inr ⟨by rfl,rfl⟩) ?_ ?_
 rotate_left
 ·simp only [Act.put,bq1,bq2,bq3,i64_w,i32_w]
  rfl
 refine pure_ (i:=32) (N:=some 35) (v:=undef) (a':=?_) (bsq 36 8589934591) rfl rfl (by kernel_rfl) (fun _ _ _ h=>h) (Or.inr ⟨by rfl,rfl⟩) ?_ ?_
 rotate_left
 ·simp only [Act.put,bq1,bq2,bq3,i64_w,i32_w]
  rfl
 refine pure_ (i:=33) (N:=some 36) (v:=undef) (a':=?_) (bsq 36 17179869183) rfl rfl (by kernel_rfl) (fun _ _ _ h=>h) (Or.inr ⟨by rfl,rfl⟩) ?_ ?_
 rotate_left
 ·simp only [Act.put,bq1,bq2,bq3,i64_w,i32_w]
  rfl
 refine pure_ (i:=34) (N:=some 37) (v:=undef) (a':=?_) (bsq 36 34359738367) rfl rfl (by kernel_rfl) (fun _ _ _ h=>h) (Or.inr ⟨by rfl,rfl⟩) ?_ ?_
 rotate_left
 ·simp only [Act.put,bq1,bq2,bq3,i64_w,i32_w]
  rfl
 refine pure_ (i:=35) (N:=some 38) (v:=?_) (a':=?_) (bsq 36 68719476735) rfl rfl (by kernel_rfl) (fun _ _ _ h=>h) (Or.inl ⟨by rfl,?_⟩) ?_ ?_
 rotate_left
 ·intro w'
  go_simp
  with_reducible rfl
 rotate_left
 ·simp only [Act.put,bq1,bq2,bq3,i64_w,i32_w]
  rfl
 refine done_ (by kernel_rfl) ?_
 go_wp2
 go_ret
 exact ⟨rfl,bws B0.out hHeld.2.2.2.2⟩
set_option maxHeartbeats 8000000 in
set_option maxRecDepth 100000 in
theorem check_c5 (m:ByteArray) (b1 b2 b3 b4 b5 b6:Bool) (A7:Option Addr) (c7:Nat) (us:List ByteArray) (A8:Option Addr) (c8:Nat) (ms:List ByteArray) (b9:Bool) (A10:Option Addr) (c10:Nat) (vs:List Int) (w:World) (h7:ReadsOf Value.string ByteArray.empty w A7 us.length us) (h8:ReadsOf Value.string ByteArray.empty w A8 ms.length ms) (h10:ReadsOf (Value.int .i64) 0 w A10 vs.length vs) (e0:kindB m=1) (e7:us.length≤16) (e8:ms.length≤16) (eu:(us.all fun s=>kindB s == 1)=true) (em:(ms.all fun s=>kindB s == 2)=true) (ev:netsS vs=false) :
  Calls Try.prog 18 #[.agg #[.string m,.bool b1,.bool b2,.bool b3,.bool b4,.bool b5,.bool b6,.slice A7 us.length c7,.slice A8 ms.length c8,.bool b9,.slice A10 vs.length c10]] w fun e w'=>e=.returned (.int .i64 160)∧Below w.heap.size w w':=by
 have R7:=amk h7
 have R8:=amk h8
 have R10:=amk h10
 clear h7 h8 h10
 have z0:(kindB m != 1)=false:=bne_eq_false_iff_eq.2 e0
 clear e0
 have z7:decide ((16:Int) < (us.length:Int))=false:=decide_eq_false (by omega)
 have y7:decide (16 < us.length)=false:=decide_eq_false (by omega)
 have z8:decide ((16:Int) < (ms.length:Int))=false:=decide_eq_false (by omega)
 have y8:decide (16 < ms.length)=false:=decide_eq_false (by omega)
 have HU:=amk eu
 clear eu
 have HM:=amk em
 clear em
 have HV:=amk ev
 clear ev
 have hu:=Try.underlying25
 go_enter Try.func18,Try.ntmps18
 go_upto_region 1 with (fail)
 obtain ⟨w1,hw1⟩:∃ w1,w.alloc (.cells #[.string m,.bool b1,.bool b2,.bool b3,.bool b4,.bool b5,.bool b6,.slice A7 us.length c7,.slice A8 ms.length c8,.bool b9,.slice A10 vs.length c10] 25)=w1:=⟨_,rfl⟩
 have B1:Aside0 (Below w.heap.size w w1):=⟨by rw [← hw1];exact bwa (Below.refl _ _) _⟩
 have BK:Aside0 (w1.heap[w.heap.size]?=some (.cells #[.string m,.bool b1,.bool b2,.bool b3,.bool b4,.bool b5,.bool b6,.slice A7 us.length c7,.slice A8 ms.length c8,.bool b9,.slice A10 vs.length c10] 25 (0,0))):=⟨by rw [← hw1];exact blk_new w _⟩
 rw [hw1]
 clear hw1
 obtain ⟨g,hg⟩:∃ g,w.heap.size=g:=⟨_,rfl⟩
 rw [hg] at BK
 have B0:=B1
 rw [hg]
 have HGG:=amk hg
 clear hg
 refine start_ (n:=36) (S:=fun w'=>w'.cell? ⟨g,0,none⟩=some (.string m)∧w'.cell? ⟨g,7,none⟩=some (.slice A7 us.length c7)∧w'.cell? ⟨g,8,none⟩=some (.slice A8 ms.length c8)∧w'.cell? ⟨g,10,none⟩=some (.slice A10 vs.length c10)∧Below w1.heap.size w1 w') (ds:=[]) (bsq 36 0) (by kernel_rfl) rfl rfl ⟨(bkc BK.out 0).trans rfl,(bkc BK.out 7).trans rfl,(bkc BK.out 8).trans rfl,(bkc BK.out 10).trans rfl,bwd (Below.refl _ _)⟩ (fun hHeld=>?_)
 refine pure_ (i:=0) (N:=some 3) (v:=?_) (a':=?_) (bsq 36 1) rfl rfl (by kernel_rfl) (fun _ _ _ h=>h) (Or.inl ⟨by rfl,?_⟩) ?_ ?_
 rotate_left
 ·intro w'
  go_simp
  with_reducible rfl
 rotate_left
 ·simp only [Act.put,bq1,bq2,bq3,i64_w,i32_w]
  rfl
 refine take_ (i:=1) (N:=some 4) (v:=?_) (a':=?_) (bsq 36 3) rfl rfl (by kernel_rfl) (fun _ _ _ h=>h) (Or.inl ⟨by rfl,?_⟩) hHeld ?_ ?_
 rotate_left
 ·rintro w' ⟨s0,s1,s2,s3,s4⟩
  go_simp
  with_reducible rfl
 rotate_left
 ·simp only [Act.put,bq1,bq2,bq3,i64_w,i32_w]
  rfl
 refine one_ (i:=2) (N:=some 5) (bsq 36 7) rfl rfl (by kernel_rfl) (by decide) (fun K hK=>?_)
 refine goes_ Try.func41 (by kernel_rfl) rfl #[.string m] (by rfl) rfl rfl (by simp only [List.map_toArray,List.map_cons,List.map_nil];rfl) ?_
 with_reducible refine (kind_at m _).mono ?_
 rintro e w3 ⟨rfl,k3⟩
 refine ⟨_,rfl,?_⟩
 have K3:=amk k3
 clear k3
 refine hK.out _ _ ⟨pcb K3.out hHeld.1,pcb K3.out hHeld.2.1,pcb K3.out hHeld.2.2.1,pcb K3.out hHeld.2.2.2.1,bws hHeld.2.2.2.2 K3.out⟩ (fun hHeld=>?_)
 clear hK K
 refine norm_ (a':=?_) ?_ ?_
 rotate_left
 ·show Act.put _ (some 5) _=_
  simp only [Act.put,bq1,bq2,bq3,i64_w,i32_w]
  rfl
 refine pure_ (i:=3) (N:=some 6) (v:=?_) (a':=?_) (bsq 36 15) rfl rfl (by kernel_rfl) (fun _ _ _ h=>h) (Or.inl ⟨by rfl,?_⟩) ?_ ?_
 rotate_left
 ·intro w'
  go_simp
  with_reducible rfl
 rotate_left
 ·simp only [Act.put,bq1,bq2,bq3,i64_w,i32_w]
  rfl
 refine pure_ (i:=4) (N:=some 7) (v:=?_) (a':=?_) (bsq 36 31) rfl rfl (by kernel_rfl) (fun _ _ _ h=>h) (Or.inl ⟨by rfl,?_⟩) ?_ ?_
 rotate_left
 ·intro w'
  go_simp
  with_reducible rfl
 rotate_left
 ·simp only [Act.put,bq1,bq2,bq3,i64_w,i32_w]
  rfl
 refine pure_ (i:=5) (N:=some 8) (v:=?_) (a':=?_) (bsq 36 63) rfl rfl (by kernel_rfl) (fun _ _ _ h=>h) (Or.inl ⟨by rfl,?_⟩) ?_ ?_
 rotate_left
 ·intro w'
  go_simp
  with_reducible rfl
 rotate_left
 ·simp only [Act.put,bq1,bq2,bq3,i64_w,i32_w]
  rfl
 refine take_ (i:=6) (N:=some 9) (v:=?_) (a':=?_) (bsq 36 127) rfl rfl (by kernel_rfl) (fun _ _ _ h=>h) (Or.inl ⟨by rfl,?_⟩) hHeld ?_ ?_
 rotate_left
 ·rintro w' ⟨s0,s1,s2,s3,s4⟩
  go_simp
  with_reducible rfl
 rotate_left
 ·simp only [Act.put,bq1,bq2,bq3,i64_w,i32_w]
  rfl
 refine pure_ (i:=7) (N:=some 10) (v:=?_) (a':=?_) (bsq 36 255) rfl rfl (by kernel_rfl) (fun _ _ _ h=>h) (Or.inl ⟨by rfl,?_⟩) ?_ ?_
 rotate_left
 ·intro w'
  go_simp
  with_reducible rfl
 rotate_left
 ·simp only [Act.put,bq1,bq2,bq3,i64_w,i32_w]
  rfl
 refine pure_ (i:=8) (N:=some 11) (v:=?_) (a':=?_) (bsq 36 511) rfl rfl (by kernel_rfl) (fun _ _ _ h=>h) (Or.inl ⟨by rfl,?_⟩) ?_ ?_
 rotate_left
 ·intro w'
  go_simp
  with_reducible rfl
 rotate_left
 ·simp only [Act.put,bq1,bq2,bq3,i64_w,i32_w]
  rfl
 refine pure_ (i:=9) (N:=some 12) (v:=?_) (a':=?_) (bsq 36 1023) rfl rfl (by kernel_rfl) (fun _ _ _ h=>h) (Or.inl ⟨by rfl,?_⟩) ?_ ?_
 rotate_left
 ·intro w'
  go_simp
  with_reducible rfl
 rotate_left
 ·simp only [Act.put,bq1,bq2,bq3,i64_w,i32_w]
  rfl
 refine pure_ (i:=10) (N:=some 13) (v:=?_) (a':=?_) (bsq 36 2047) rfl rfl (by kernel_rfl) (fun _ _ _ h=>h) (Or.inl ⟨by rfl,?_⟩) ?_ ?_
 rotate_left
 ·intro w'
  go_simp
  with_reducible rfl
 rotate_left
 ·simp only [Act.put,bq1,bq2,bq3,i64_w,i32_w]
  rfl
 refine pure_ (i:=11) (N:=some 14) (v:=?_) (a':=?_) (bsq 36 4095) rfl rfl (by kernel_rfl) (fun _ _ _ h=>h) (Or.inl ⟨by rfl,?_⟩) ?_ ?_
 rotate_left
 ·intro w'
  go_simp
  with_reducible rfl
 rotate_left
 ·simp only [Act.put,bq1,bq2,bq3,i64_w,i32_w]
  rfl
 refine take_ (i:=12) (N:=some 15) (v:=?_) (a':=?_) (bsq 36 8191) rfl rfl (by kernel_rfl) (fun _ _ _ h=>h) (Or.inl ⟨by rfl,?_⟩) hHeld ?_ ?_
 rotate_left
 ·rintro w' ⟨s0,s1,s2,s3,s4⟩
  go_simp
  with_reducible rfl
 rotate_left
 ·simp only [Act.put,bq1,bq2,bq3,i64_w,i32_w]
  rfl
 refine pure_ (i:=13) (N:=some 16) (v:=?_) (a':=?_) (bsq 36 16383) rfl rfl (by kernel_rfl) (fun _ _ _ h=>h) (Or.inl ⟨by rfl,?_⟩) ?_ ?_
 rotate_left
 ·intro w'
  go_simp
  with_reducible rfl
 rotate_left
 ·simp only [Act.put,bq1,bq2,bq3,i64_w,i32_w]
  rfl
 refine pure_ (i:=14) (N:=some 17) (v:=?_) (a':=?_) (bsq 36 32767) rfl rfl (by kernel_rfl) (fun _ _ _ h=>h) (Or.inl ⟨by rfl,?_⟩) ?_ ?_
 rotate_left
 ·intro w'
  go_simp
  with_reducible rfl
 rotate_left
 ·simp only [Act.put,bq1,bq2,bq3,i64_w,i32_w]
  rfl
 refine pure_ (i:=15) (N:=some 18) (v:=?_) (a':=?_) (bsq 36 65535) rfl rfl (by kernel_rfl) (fun _ _ _ h=>h) (Or.inl ⟨by rfl,?_⟩) ?_ ?_
 rotate_left
 ·intro w'
  go_simp
  with_reducible rfl
 rotate_left
 ·simp only [Act.put,bq1,bq2,bq3,i64_w,i32_w]
  rfl
 refine pure_ (i:=16) (N:=some 19) (v:=?_) (a':=?_) (bsq 36 131071) rfl rfl (by kernel_rfl) (fun _ _ _ h=>h) (Or.inl ⟨by rfl,?_⟩) ?_ ?_
 rotate_left
 ·intro w'
  go_simp
  with_reducible rfl
 rotate_left
 ·simp only [Act.put,bq1,bq2,bq3,i64_w,i32_w]
  rfl
 refine pure_ (i:=17) (N:=some 20) (v:=?_) (a':=?_) (bsq 36 262143) rfl rfl (by kernel_rfl) (fun _ _ _ h=>h) (Or.inl ⟨by rfl,?_⟩) ?_ ?_
 rotate_left
 ·intro w'
  go_simp
  with_reducible rfl
 rotate_left
 ·simp only [Act.put,bq1,bq2,bq3,i64_w,i32_w]
  rfl
 refine take_ (i:=18) (N:=some 21) (v:=?_) (a':=?_) (bsq 36 524287) rfl rfl (by kernel_rfl) (fun _ _ _ h=>h) (Or.inl ⟨by rfl,?_⟩) hHeld ?_ ?_
 rotate_left
 ·rintro w' ⟨s0,s1,s2,s3,s4⟩
  go_simp
  with_reducible rfl
 rotate_left
 ·simp only [Act.put,bq1,bq2,bq3,i64_w,i32_w]
  rfl
 refine one_ (i:=19) (N:=some 22) (bsq 36 1048575) rfl rfl (by kernel_rfl) (by decide) (fun K hK=>?_)
 refine goes_ Try.func43 (by kernel_rfl) rfl #[.int .i64 1] (by rfl) rfl rfl (by simp only [List.map_toArray,List.map_cons,List.map_nil];rfl) ?_
 with_reducible refine (of_at 1 _).mono ?_
 rintro e w4 ⟨rfl,q4,k4⟩
 refine ⟨_,rfl,?_⟩
 have K4:=amk k4
 have Q4:=amk q4
 clear k4 q4
 refine hK.out _ _ ⟨pcb K4.out hHeld.1,pcb K4.out hHeld.2.1,pcb K4.out hHeld.2.2.1,pcb K4.out hHeld.2.2.2.1,bws hHeld.2.2.2.2 K4.out⟩ (fun hHeld=>?_)
 clear hK K
 refine norm_ (a':=?_) ?_ ?_
 rotate_left
 ·show Act.put _ (some 22) _=_
  simp only [Act.put,bq1,bq2,bq3,i64_w,i32_w]
  rfl
 refine one_ (i:=20) (N:=some 23) (bsq 36 2097151) rfl rfl (by kernel_rfl) (by decide) (fun K hK=>?_)
 refine goes_ Try.func42 (by kernel_rfl) rfl #[.slice A7 us.length c7,.func (.func 62) #[] #[.pointer (some ⟨w3.heap.size,0,none⟩)]] (by rfl) rfl rfl (by simp only [List.map_toArray,List.map_cons,List.map_nil];rfl) ?_
 with_reducible refine (all_at A7 c7 us 1 w3.heap.size w4 HU.out (R7.out.below (bws B1.out hHeld.2.2.2.2)) Q4.out).mono ?_
 rintro e w5 ⟨rfl,k5⟩
 refine ⟨_,rfl,?_⟩
 have K5:=amk k5
 clear k5
 refine hK.out _ _ ⟨pcb K5.out hHeld.1,pcb K5.out hHeld.2.1,pcb K5.out hHeld.2.2.1,pcb K5.out hHeld.2.2.2.1,bws hHeld.2.2.2.2 K5.out⟩ (fun hHeld=>?_)
 clear hK K
 refine norm_ (a':=?_) ?_ ?_
 rotate_left
 ·show Act.put _ (some 23) _=_
  simp only [Act.put,bq1,bq2,bq3,i64_w,i32_w]
  rfl
 refine pure_ (i:=21) (N:=some 24) (v:=?_) (a':=?_) (bsq 36 4194303) rfl rfl (by kernel_rfl) (fun _ _ _ h=>h) (Or.inl ⟨by rfl,?_⟩) ?_ ?_
 rotate_left
 ·intro w'
  go_simp
  with_reducible rfl
 rotate_left
 ·simp only [Act.put,bq1,bq2,bq3,i64_w,i32_w]
  rfl
 refine pure_ (i:=22) (N:=some 25) (v:=?_) (a':=?_) (bsq 36 8388607) rfl rfl (by kernel_rfl) (fun _ _ _ h=>h) (Or.inl ⟨by rfl,?_⟩) ?_ ?_
 rotate_left
 ·intro w'
  go_simp
  with_reducible rfl
 rotate_left
 ·simp only [Act.put,bq1,bq2,bq3,i64_w,i32_w]
  rfl
 refine pure_ (i:=23) (N:=some 26) (v:=?_) (a':=?_) (bsq 36 16777215) rfl rfl (by kernel_rfl) (fun _ _ _ h=>h) (Or.inl ⟨by rfl,?_⟩) ?_ ?_
 rotate_left
 ·intro w'
  go_simp
  with_reducible rfl
 rotate_left
 ·simp only [Act.put,bq1,bq2,bq3,i64_w,i32_w]
  rfl
 refine pure_ (i:=24) (N:=some 27) (v:=?_) (a':=?_) (bsq 36 33554431) rfl rfl (by kernel_rfl) (fun _ _ _ h=>h) (Or.inl ⟨by rfl,?_⟩) ?_ ?_
 rotate_left
 ·intro w'
  go_simp
  with_reducible rfl
 rotate_left
 ·simp only [Act.put,bq1,bq2,bq3,i64_w,i32_w]
  rfl
 refine take_ (i:=25) (N:=some 28) (v:=?_) (a':=?_) (bsq 36 67108863) rfl rfl (by kernel_rfl) (fun _ _ _ h=>h) (Or.inl ⟨by rfl,?_⟩) hHeld ?_ ?_
 rotate_left
 ·rintro w' ⟨s0,s1,s2,s3,s4⟩
  go_simp
  with_reducible rfl
 rotate_left
 ·simp only [Act.put,bq1,bq2,bq3,i64_w,i32_w]
  rfl
 refine one_ (i:=26) (N:=some 29) (bsq 36 134217727) rfl rfl (by kernel_rfl) (by decide) (fun K hK=>?_)
 refine goes_ Try.func43 (by kernel_rfl) rfl #[.int .i64 2] (by rfl) rfl rfl (by simp only [List.map_toArray,List.map_cons,List.map_nil];rfl) ?_
 with_reducible refine (of_at 2 _).mono ?_
 rintro e w6 ⟨rfl,q6,k6⟩
 refine ⟨_,rfl,?_⟩
 have K6:=amk k6
 have Q6:=amk q6
 clear k6 q6
 refine hK.out _ _ ⟨pcb K6.out hHeld.1,pcb K6.out hHeld.2.1,pcb K6.out hHeld.2.2.1,pcb K6.out hHeld.2.2.2.1,bws hHeld.2.2.2.2 K6.out⟩ (fun hHeld=>?_)
 clear hK K
 refine norm_ (a':=?_) ?_ ?_
 rotate_left
 ·show Act.put _ (some 29) _=_
  simp only [Act.put,bq1,bq2,bq3,i64_w,i32_w]
  rfl
 refine one_ (i:=27) (N:=some 30) (bsq 36 268435455) rfl rfl (by kernel_rfl) (by decide) (fun K hK=>?_)
 refine goes_ Try.func42 (by kernel_rfl) rfl #[.slice A8 ms.length c8,.func (.func 62) #[] #[.pointer (some ⟨w5.heap.size,0,none⟩)]] (by rfl) rfl rfl (by simp only [List.map_toArray,List.map_cons,List.map_nil];rfl) ?_
 with_reducible refine (all_at A8 c8 ms 2 w5.heap.size w6 HM.out (R8.out.below (bws B1.out hHeld.2.2.2.2)) Q6.out).mono ?_
 rintro e w7 ⟨rfl,k7⟩
 refine ⟨_,rfl,?_⟩
 have K7:=amk k7
 clear k7
 refine hK.out _ _ ⟨pcb K7.out hHeld.1,pcb K7.out hHeld.2.1,pcb K7.out hHeld.2.2.1,pcb K7.out hHeld.2.2.2.1,bws hHeld.2.2.2.2 K7.out⟩ (fun hHeld=>?_)
 clear hK K
 refine norm_ (a':=?_) ?_ ?_
 rotate_left
 ·show Act.put _ (some 30) _=_
  simp only [Act.put,bq1,bq2,bq3,i64_w,i32_w]
  rfl
 refine pure_ (i:=28) (N:=some 31) (v:=?_) (a':=?_) (bsq 36 536870911) rfl rfl (by kernel_rfl) (fun _ _ _ h=>h) (Or.inl ⟨by rfl,?_⟩) ?_ ?_
 rotate_left
 ·intro w'
  go_simp
  with_reducible rfl
 rotate_left
 ·simp only [Act.put,bq1,bq2,bq3,i64_w,i32_w]
  rfl
 refine pure_ (i:=29) (N:=some 32) (v:=?_) (a':=?_) (bsq 36 1073741823) rfl rfl (by kernel_rfl) (fun _ _ _ h=>h) (Or.inl ⟨by rfl,?_⟩) ?_ ?_
 rotate_left
 ·intro w'
  go_simp
  with_reducible rfl
 rotate_left
 ·simp only [Act.put,bq1,bq2,bq3,i64_w,i32_w]
  rfl
 refine pure_ (i:=30) (N:=some 33) (v:=?_) (a':=?_) (bsq 36 2147483647) rfl rfl (by kernel_rfl) (fun _ _ _ h=>h) (Or.inl ⟨by rfl,?_⟩) ?_ ?_
 rotate_left
 ·intro w'
  go_simp
  with_reducible rfl
 rotate_left
 ·simp only [Act.put,bq1,bq2,bq3,i64_w,i32_w]
  rfl
 refine pure_ (i:=31) (N:=some 34) (v:=?_) (a':=?_) (bsq 36 4294967295) rfl rfl (by kernel_rfl) (fun _ _ _ h=>h) (Or.inl ⟨by rfl,?_⟩) ?_ ?_
 rotate_left
 ·intro w'
  go_simp
  with_reducible rfl
 rotate_left
 ·simp only [Act.put,bq1,bq2,bq3,i64_w,i32_w]
  rfl
 refine take_ (i:=32) (N:=some 35) (v:=?_) (a':=?_) (bsq 36 8589934591) rfl rfl (by kernel_rfl) (fun _ _ _ h=>h) (Or.inl ⟨by rfl,?_⟩) hHeld ?_ ?_
 rotate_left
 ·rintro w' ⟨s0,s1,s2,s3,s4⟩
  go_simp
  with_reducible rfl
 rotate_left
 ·simp only [Act.put,bq1,bq2,bq3,i64_w,i32_w]
  rfl
 refine one_ (i:=33) (N:=some 36) (bsq 36 17179869183) rfl rfl (by kernel_rfl) (by decide) (fun K hK=>?_)
 refine goes_ Try.func44 (by kernel_rfl) rfl #[.slice A10 vs.length c10] (by rfl) rfl rfl (by simp only [List.map_toArray,List.map_cons,List.map_nil];rfl) ?_
 with_reducible refine (nets_at A10 c10 vs w7 HV.out (R10.out.below (bws B1.out hHeld.2.2.2.2))).mono ?_
 rintro e w8 ⟨rfl,k8⟩
 refine ⟨_,rfl,?_⟩
 have K8:=amk k8
 clear k8
 refine hK.out _ _ ⟨pcb K8.out hHeld.1,pcb K8.out hHeld.2.1,pcb K8.out hHeld.2.2.1,pcb K8.out hHeld.2.2.2.1,bws hHeld.2.2.2.2 K8.out⟩ (fun hHeld=>?_)
 clear hK K
 refine norm_ (a':=?_) ?_ ?_
 rotate_left
 ·show Act.put _ (some 36) _=_
  simp only [Act.put,bq1,bq2,bq3,i64_w,i32_w]
  rfl
 refine pure_ (i:=34) (N:=some 37) (v:=?_) (a':=?_) (bsq 36 34359738367) rfl rfl (by kernel_rfl) (fun _ _ _ h=>h) (Or.inl ⟨by rfl,?_⟩) ?_ ?_
 rotate_left
 ·intro w'
  go_simp
  with_reducible rfl
 rotate_left
 ·simp only [Act.put,bq1,bq2,bq3,i64_w,i32_w]
  rfl
 refine pure_ (i:=35) (N:=some 38) (v:=?_) (a':=?_) (bsq 36 68719476735) rfl rfl (by kernel_rfl) (fun _ _ _ h=>h) (Or.inl ⟨by rfl,?_⟩) ?_ ?_
 rotate_left
 ·intro w'
  go_simp
  with_reducible rfl
 rotate_left
 ·simp only [Act.put,bq1,bq2,bq3,i64_w,i32_w]
  rfl
 refine done_ (by kernel_rfl) ?_
 go_wp2
 go_ret
 exact ⟨rfl,bws B0.out hHeld.2.2.2.2⟩
set_option maxHeartbeats 8000000 in
set_option maxRecDepth 100000 in
theorem check_c6 (m:ByteArray) (b1 b2 b3 b4 b5 b6:Bool) (A7:Option Addr) (c7:Nat) (us:List ByteArray) (A8:Option Addr) (c8:Nat) (ms:List ByteArray) (b9:Bool) (A10:Option Addr) (c10:Nat) (vs:List Int) (w:World) (h7:ReadsOf Value.string ByteArray.empty w A7 us.length us) (h8:ReadsOf Value.string ByteArray.empty w A8 ms.length ms) (h10:ReadsOf (Value.int .i64) 0 w A10 vs.length vs) (e0:kindB m=1) (e7:us.length≤16) (e8:ms.length≤16) (eu:(us.all fun s=>kindB s == 1)=true) (em:(ms.all fun s=>kindB s == 2)=true) (ev:netsS vs=true) :
  Calls Try.prog 18 #[.agg #[.string m,.bool b1,.bool b2,.bool b3,.bool b4,.bool b5,.bool b6,.slice A7 us.length c7,.slice A8 ms.length c8,.bool b9,.slice A10 vs.length c10]] w fun e w'=>e=.returned (.int .i64 0)∧Below w.heap.size w w':=by
 have R7:=amk h7
 have R8:=amk h8
 have R10:=amk h10
 clear h7 h8 h10
 have z0:(kindB m != 1)=false:=bne_eq_false_iff_eq.2 e0
 clear e0
 have z7:decide ((16:Int) < (us.length:Int))=false:=decide_eq_false (by omega)
 have y7:decide (16 < us.length)=false:=decide_eq_false (by omega)
 have z8:decide ((16:Int) < (ms.length:Int))=false:=decide_eq_false (by omega)
 have y8:decide (16 < ms.length)=false:=decide_eq_false (by omega)
 have HU:=amk eu
 clear eu
 have HM:=amk em
 clear em
 have HV:=amk ev
 clear ev
 have hu:=Try.underlying25
 go_enter Try.func18,Try.ntmps18
 go_upto_region 1 with (fail)
 obtain ⟨w1,hw1⟩:∃ w1,w.alloc (.cells #[.string m,.bool b1,.bool b2,.bool b3,.bool b4,.bool b5,.bool b6,.slice A7 us.length c7,.slice A8 ms.length c8,.bool b9,.slice A10 vs.length c10] 25)=w1:=⟨_,rfl⟩
 have B1:Aside0 (Below w.heap.size w w1):=⟨by rw [← hw1];exact bwa (Below.refl _ _) _⟩
 have BK:Aside0 (w1.heap[w.heap.size]?=some (.cells #[.string m,.bool b1,.bool b2,.bool b3,.bool b4,.bool b5,.bool b6,.slice A7 us.length c7,.slice A8 ms.length c8,.bool b9,.slice A10 vs.length c10] 25 (0,0))):=⟨by rw [← hw1];exact blk_new w _⟩
 rw [hw1]
 clear hw1
 obtain ⟨g,hg⟩:∃ g,w.heap.size=g:=⟨_,rfl⟩
 rw [hg] at BK
 have B0:=B1
 rw [hg]
 have HGG:=amk hg
 clear hg
 refine start_ (n:=36) (S:=fun w'=>w'.cell? ⟨g,0,none⟩=some (.string m)∧w'.cell? ⟨g,7,none⟩=some (.slice A7 us.length c7)∧w'.cell? ⟨g,8,none⟩=some (.slice A8 ms.length c8)∧w'.cell? ⟨g,10,none⟩=some (.slice A10 vs.length c10)∧Below w1.heap.size w1 w') (ds:=[]) (bsq 36 0) (by kernel_rfl) rfl rfl ⟨(bkc BK.out 0).trans rfl,(bkc BK.out 7).trans rfl,(bkc BK.out 8).trans rfl,(bkc BK.out 10).trans rfl,bwd (Below.refl _ _)⟩ (fun hHeld=>?_)
 refine pure_ (i:=0) (N:=some 3) (v:=?_) (a':=?_) (bsq 36 1) rfl rfl (by kernel_rfl) (fun _ _ _ h=>h) (Or.inl ⟨by rfl,?_⟩) ?_ ?_
 rotate_left
 ·intro w'
  go_simp
  with_reducible rfl
 rotate_left
 ·simp only [Act.put,bq1,bq2,bq3,i64_w,i32_w]
  rfl
 refine take_ (i:=1) (N:=some 4) (v:=?_) (a':=?_) (bsq 36 3) rfl rfl (by kernel_rfl) (fun _ _ _ h=>h) (Or.inl ⟨by rfl,?_⟩) hHeld ?_ ?_
 rotate_left
 ·rintro w' ⟨s0,s1,s2,s3,s4⟩
  go_simp
  with_reducible rfl
 rotate_left
 ·simp only [Act.put,bq1,bq2,bq3,i64_w,i32_w]
  rfl
 refine one_ (i:=2) (N:=some 5) (bsq 36 7) rfl rfl (by kernel_rfl) (by decide) (fun K hK=>?_)
 refine goes_ Try.func41 (by kernel_rfl) rfl #[.string m] (by rfl) rfl rfl (by simp only [List.map_toArray,List.map_cons,List.map_nil];rfl) ?_
 with_reducible refine (kind_at m _).mono ?_
 rintro e w3 ⟨rfl,k3⟩
 refine ⟨_,rfl,?_⟩
 have K3:=amk k3
 clear k3
 refine hK.out _ _ ⟨pcb K3.out hHeld.1,pcb K3.out hHeld.2.1,pcb K3.out hHeld.2.2.1,pcb K3.out hHeld.2.2.2.1,bws hHeld.2.2.2.2 K3.out⟩ (fun hHeld=>?_)
 clear hK K
 refine norm_ (a':=?_) ?_ ?_
 rotate_left
 ·show Act.put _ (some 5) _=_
  simp only [Act.put,bq1,bq2,bq3,i64_w,i32_w]
  rfl
 refine pure_ (i:=3) (N:=some 6) (v:=?_) (a':=?_) (bsq 36 15) rfl rfl (by kernel_rfl) (fun _ _ _ h=>h) (Or.inl ⟨by rfl,?_⟩) ?_ ?_
 rotate_left
 ·intro w'
  go_simp
  with_reducible rfl
 rotate_left
 ·simp only [Act.put,bq1,bq2,bq3,i64_w,i32_w]
  rfl
 refine pure_ (i:=4) (N:=some 7) (v:=?_) (a':=?_) (bsq 36 31) rfl rfl (by kernel_rfl) (fun _ _ _ h=>h) (Or.inl ⟨by rfl,?_⟩) ?_ ?_
 rotate_left
 ·intro w'
  go_simp
  with_reducible rfl
 rotate_left
 ·simp only [Act.put,bq1,bq2,bq3,i64_w,i32_w]
  rfl
 refine pure_ (i:=5) (N:=some 8) (v:=?_) (a':=?_) (bsq 36 63) rfl rfl (by kernel_rfl) (fun _ _ _ h=>h) (Or.inl ⟨by rfl,?_⟩) ?_ ?_
 rotate_left
 ·intro w'
  go_simp
  with_reducible rfl
 rotate_left
 ·simp only [Act.put,bq1,bq2,bq3,i64_w,i32_w]
  rfl
 refine take_ (i:=6) (N:=some 9) (v:=?_) (a':=?_) (bsq 36 127) rfl rfl (by kernel_rfl) (fun _ _ _ h=>h) (Or.inl ⟨by rfl,?_⟩) hHeld ?_ ?_
 rotate_left
 ·rintro w' ⟨s0,s1,s2,s3,s4⟩
  go_simp
  with_reducible rfl
 rotate_left
 ·simp only [Act.put,bq1,bq2,bq3,i64_w,i32_w]
  rfl
 refine pure_ (i:=7) (N:=some 10) (v:=?_) (a':=?_) (bsq 36 255) rfl rfl (by kernel_rfl) (fun _ _ _ h=>h) (Or.inl ⟨by rfl,?_⟩) ?_ ?_
 rotate_left
 ·intro w'
  go_simp
  with_reducible rfl
 rotate_left
 ·simp only [Act.put,bq1,bq2,bq3,i64_w,i32_w]
  rfl
 refine pure_ (i:=8) (N:=some 11) (v:=?_) (a':=?_) (bsq 36 511) rfl rfl (by kernel_rfl) (fun _ _ _ h=>h) (Or.inl ⟨by rfl,?_⟩) ?_ ?_
 rotate_left
 ·intro w'
  go_simp
  with_reducible rfl
 rotate_left
 ·simp only [Act.put,bq1,bq2,bq3,i64_w,i32_w]
  rfl
 refine pure_ (i:=9) (N:=some 12) (v:=?_) (a':=?_) (bsq 36 1023) rfl rfl (by kernel_rfl) (fun _ _ _ h=>h) (Or.inl ⟨by rfl,?_⟩) ?_ ?_
 rotate_left
 ·intro w'
  go_simp
  with_reducible rfl
 rotate_left
 ·simp only [Act.put,bq1,bq2,bq3,i64_w,i32_w]
  rfl
 refine pure_ (i:=10) (N:=some 13) (v:=?_) (a':=?_) (bsq 36 2047) rfl rfl (by kernel_rfl) (fun _ _ _ h=>h) (Or.inl ⟨by rfl,?_⟩) ?_ ?_
 rotate_left
 ·intro w'
  go_simp
  with_reducible rfl
 rotate_left
 ·simp only [Act.put,bq1,bq2,bq3,i64_w,i32_w]
  rfl
 refine pure_ (i:=11) (N:=some 14) (v:=?_) (a':=?_) (bsq 36 4095) rfl rfl (by kernel_rfl) (fun _ _ _ h=>h) (Or.inl ⟨by rfl,?_⟩) ?_ ?_
 rotate_left
 ·intro w'
  go_simp
  with_reducible rfl
 rotate_left
 ·simp only [Act.put,bq1,bq2,bq3,i64_w,i32_w]
  rfl
 refine take_ (i:=12) (N:=some 15) (v:=?_) (a':=?_) (bsq 36 8191) rfl rfl (by kernel_rfl) (fun _ _ _ h=>h) (Or.inl ⟨by rfl,?_⟩) hHeld ?_ ?_
 rotate_left
 ·rintro w' ⟨s0,s1,s2,s3,s4⟩
  go_simp
  with_reducible rfl
 rotate_left
 ·simp only [Act.put,bq1,bq2,bq3,i64_w,i32_w]
  rfl
 refine pure_ (i:=13) (N:=some 16) (v:=?_) (a':=?_) (bsq 36 16383) rfl rfl (by kernel_rfl) (fun _ _ _ h=>h) (Or.inl ⟨by rfl,?_⟩) ?_ ?_
 rotate_left
 ·intro w'
  go_simp
  with_reducible rfl
 rotate_left
 ·simp only [Act.put,bq1,bq2,bq3,i64_w,i32_w]
  rfl
 refine pure_ (i:=14) (N:=some 17) (v:=?_) (a':=?_) (bsq 36 32767) rfl rfl (by kernel_rfl) (fun _ _ _ h=>h) (Or.inl ⟨by rfl,?_⟩) ?_ ?_
 rotate_left
 ·intro w'
  go_simp
  with_reducible rfl
 rotate_left
 ·simp only [Act.put,bq1,bq2,bq3,i64_w,i32_w]
  rfl
 refine pure_ (i:=15) (N:=some 18) (v:=?_) (a':=?_) (bsq 36 65535) rfl rfl (by kernel_rfl) (fun _ _ _ h=>h) (Or.inl ⟨by rfl,?_⟩) ?_ ?_
 rotate_left
 ·intro w'
  go_simp
  with_reducible rfl
 rotate_left
 ·simp only [Act.put,bq1,bq2,bq3,i64_w,i32_w]
  rfl
 refine pure_ (i:=16) (N:=some 19) (v:=?_) (a':=?_) (bsq 36 131071) rfl rfl (by kernel_rfl) (fun _ _ _ h=>h) (Or.inl ⟨by rfl,?_⟩) ?_ ?_
 rotate_left
 ·intro w'
  go_simp
  with_reducible rfl
 rotate_left
 ·simp only [Act.put,bq1,bq2,bq3,i64_w,i32_w]
  rfl
 refine pure_ (i:=17) (N:=some 20) (v:=?_) (a':=?_) (bsq 36 262143) rfl rfl (by kernel_rfl) (fun _ _ _ h=>h) (Or.inl ⟨by rfl,?_⟩) ?_ ?_
 rotate_left
 ·intro w'
  go_simp
  with_reducible rfl
 rotate_left
 ·simp only [Act.put,bq1,bq2,bq3,i64_w,i32_w]
  rfl
 refine take_ (i:=18) (N:=some 21) (v:=?_) (a':=?_) (bsq 36 524287) rfl rfl (by kernel_rfl) (fun _ _ _ h=>h) (Or.inl ⟨by rfl,?_⟩) hHeld ?_ ?_
 rotate_left
 ·rintro w' ⟨s0,s1,s2,s3,s4⟩
  go_simp
  with_reducible rfl
 rotate_left
 ·simp only [Act.put,bq1,bq2,bq3,i64_w,i32_w]
  rfl
 refine one_ (i:=19) (N:=some 22) (bsq 36 1048575) rfl rfl (by kernel_rfl) (by decide) (fun K hK=>?_)
 refine goes_ Try.func43 (by kernel_rfl) rfl #[.int .i64 1] (by rfl) rfl rfl (by simp only [List.map_toArray,List.map_cons,List.map_nil];rfl) ?_
 with_reducible refine (of_at 1 _).mono ?_
 rintro e w4 ⟨rfl,q4,k4⟩
 refine ⟨_,rfl,?_⟩
 have K4:=amk k4
 have Q4:=amk q4
 clear k4 q4
 refine hK.out _ _ ⟨pcb K4.out hHeld.1,pcb K4.out hHeld.2.1,pcb K4.out hHeld.2.2.1,pcb K4.out hHeld.2.2.2.1,bws hHeld.2.2.2.2 K4.out⟩ (fun hHeld=>?_)
 clear hK K
 refine norm_ (a':=?_) ?_ ?_
 rotate_left
 ·show Act.put _ (some 22) _=_
  simp only [Act.put,bq1,bq2,bq3,i64_w,i32_w]
  rfl
 refine one_ (i:=20) (N:=some 23) (bsq 36 2097151) rfl rfl (by kernel_rfl) (by decide) (fun K hK=>?_)
 refine goes_ Try.func42 (by kernel_rfl) rfl #[.slice A7 us.length c7,.func (.func 62) #[] #[.pointer (some ⟨w3.heap.size,0,none⟩)]] (by rfl) rfl rfl (by simp only [List.map_toArray,List.map_cons,List.map_nil];rfl) ?_
 with_reducible refine (all_at A7 c7 us 1 w3.heap.size w4 HU.out (R7.out.below (bws B1.out hHeld.2.2.2.2)) Q4.out).mono ?_
 rintro e w5 ⟨rfl,k5⟩
 refine ⟨_,rfl,?_⟩
 have K5:=amk k5
 clear k5
 refine hK.out _ _ ⟨pcb K5.out hHeld.1,pcb K5.out hHeld.2.1,pcb K5.out hHeld.2.2.1,pcb K5.out hHeld.2.2.2.1,bws hHeld.2.2.2.2 K5.out⟩ (fun hHeld=>?_)
 clear hK K
 refine norm_ (a':=?_) ?_ ?_
 rotate_left
 ·show Act.put _ (some 23) _=_
  simp only [Act.put,bq1,bq2,bq3,i64_w,i32_w]
  rfl
 refine pure_ (i:=21) (N:=some 24) (v:=?_) (a':=?_) (bsq 36 4194303) rfl rfl (by kernel_rfl) (fun _ _ _ h=>h) (Or.inl ⟨by rfl,?_⟩) ?_ ?_
 rotate_left
 ·intro w'
  go_simp
  with_reducible rfl
 rotate_left
 ·simp only [Act.put,bq1,bq2,bq3,i64_w,i32_w]
  rfl
 refine pure_ (i:=22) (N:=some 25) (v:=?_) (a':=?_) (bsq 36 8388607) rfl rfl (by kernel_rfl) (fun _ _ _ h=>h) (Or.inl ⟨by rfl,?_⟩) ?_ ?_
 rotate_left
 ·intro w'
  go_simp
  with_reducible rfl
 rotate_left
 ·simp only [Act.put,bq1,bq2,bq3,i64_w,i32_w]
  rfl
 refine pure_ (i:=23) (N:=some 26) (v:=?_) (a':=?_) (bsq 36 16777215) rfl rfl (by kernel_rfl) (fun _ _ _ h=>h) (Or.inl ⟨by rfl,?_⟩) ?_ ?_
 rotate_left
 ·intro w'
  go_simp
  with_reducible rfl
 rotate_left
 ·simp only [Act.put,bq1,bq2,bq3,i64_w,i32_w]
  rfl
 refine pure_ (i:=24) (N:=some 27) (v:=?_) (a':=?_) (bsq 36 33554431) rfl rfl (by kernel_rfl) (fun _ _ _ h=>h) (Or.inl ⟨by rfl,?_⟩) ?_ ?_
 rotate_left
 ·intro w'
  go_simp
  with_reducible rfl
 rotate_left
 ·simp only [Act.put,bq1,bq2,bq3,i64_w,i32_w]
  rfl
 refine take_ (i:=25) (N:=some 28) (v:=?_) (a':=?_) (bsq 36 67108863) rfl rfl (by kernel_rfl) (fun _ _ _ h=>h) (Or.inl ⟨by rfl,?_⟩) hHeld ?_ ?_
 rotate_left
 ·rintro w' ⟨s0,s1,s2,s3,s4⟩
  go_simp
  with_reducible rfl
 rotate_left
 ·simp only [Act.put,bq1,bq2,bq3,i64_w,i32_w]
  rfl
 refine one_ (i:=26) (N:=some 29) (bsq 36 134217727) rfl rfl (by kernel_rfl) (by decide) (fun K hK=>?_)
 refine goes_ Try.func43 (by kernel_rfl) rfl #[.int .i64 2] (by rfl) rfl rfl (by simp only [List.map_toArray,List.map_cons,List.map_nil];rfl) ?_
 with_reducible refine (of_at 2 _).mono ?_
 rintro e w6 ⟨rfl,q6,k6⟩
 refine ⟨_,rfl,?_⟩
 have K6:=amk k6
 have Q6:=amk q6
 clear k6 q6
 refine hK.out _ _ ⟨pcb K6.out hHeld.1,pcb K6.out hHeld.2.1,pcb K6.out hHeld.2.2.1,pcb K6.out hHeld.2.2.2.1,bws hHeld.2.2.2.2 K6.out⟩ (fun hHeld=>?_)
 clear hK K
 refine norm_ (a':=?_) ?_ ?_
 rotate_left
 ·show Act.put _ (some 29) _=_
  simp only [Act.put,bq1,bq2,bq3,i64_w,i32_w]
  rfl
 refine one_ (i:=27) (N:=some 30) (bsq 36 268435455) rfl rfl (by kernel_rfl) (by decide) (fun K hK=>?_)
 refine goes_ Try.func42 (by kernel_rfl) rfl #[.slice A8 ms.length c8,.func (.func 62) #[] #[.pointer (some ⟨w5.heap.size,0,none⟩)]] (by rfl) rfl rfl (by simp only [List.map_toArray,List.map_cons,List.map_nil];rfl) ?_
 with_reducible refine (all_at A8 c8 ms 2 w5.heap.size w6 HM.out (R8.out.below (bws B1.out hHeld.2.2.2.2)) Q6.out).mono ?_
 rintro e w7 ⟨rfl,k7⟩
 refine ⟨_,rfl,?_⟩
 have K7:=amk k7
 clear k7
 refine hK.out _ _ ⟨pcb K7.out hHeld.1,pcb K7.out hHeld.2.1,pcb K7.out hHeld.2.2.1,pcb K7.out hHeld.2.2.2.1,bws hHeld.2.2.2.2 K7.out⟩ (fun hHeld=>?_)
 clear hK K
 refine norm_ (a':=?_) ?_ ?_
 rotate_left
 ·show Act.put _ (some 30) _=_
  simp only [Act.put,bq1,bq2,bq3,i64_w,i32_w]
  rfl
 refine pure_ (i:=28) (N:=some 31) (v:=?_) (a':=?_) (bsq 36 536870911) rfl rfl (by kernel_rfl) (fun _ _ _ h=>h) (Or.inl ⟨by rfl,?_⟩) ?_ ?_
 rotate_left
 ·intro w'
  go_simp
  with_reducible rfl
 rotate_left
 ·simp only [Act.put,bq1,bq2,bq3,i64_w,i32_w]
  rfl
 refine pure_ (i:=29) (N:=some 32) (v:=?_) (a':=?_) (bsq 36 1073741823) rfl rfl (by kernel_rfl) (fun _ _ _ h=>h) (Or.inl ⟨by rfl,?_⟩) ?_ ?_
 rotate_left
 ·intro w'
  go_simp
  with_reducible rfl
 rotate_left
 ·simp only [Act.put,bq1,bq2,bq3,i64_w,i32_w]
  rfl
 refine pure_ (i:=30) (N:=some 33) (v:=?_) (a':=?_) (bsq 36 2147483647) rfl rfl (by kernel_rfl) (fun _ _ _ h=>h) (Or.inl ⟨by rfl,?_⟩) ?_ ?_
 rotate_left
 ·intro w'
  go_simp
  with_reducible rfl
 rotate_left
 ·simp only [Act.put,bq1,bq2,bq3,i64_w,i32_w]
  rfl
 refine pure_ (i:=31) (N:=some 34) (v:=?_) (a':=?_) (bsq 36 4294967295) rfl rfl (by kernel_rfl) (fun _ _ _ h=>h) (Or.inl ⟨by rfl,?_⟩) ?_ ?_
 rotate_left
 ·intro w'
  go_simp
  with_reducible rfl
 rotate_left
 ·simp only [Act.put,bq1,bq2,bq3,i64_w,i32_w]
  rfl
 refine take_ (i:=32) (N:=some 35) (v:=?_) (a':=?_) (bsq 36 8589934591) rfl rfl (by kernel_rfl) (fun _ _ _ h=>h) (Or.inl ⟨by rfl,?_⟩) hHeld ?_ ?_
 rotate_left
 ·rintro w' ⟨s0,s1,s2,s3,s4⟩
  go_simp
  with_reducible rfl
 rotate_left
 ·simp only [Act.put,bq1,bq2,bq3,i64_w,i32_w]
  rfl
 refine one_ (i:=33) (N:=some 36) (bsq 36 17179869183) rfl rfl (by kernel_rfl) (by decide) (fun K hK=>?_)
 refine goes_ Try.func44 (by kernel_rfl) rfl #[.slice A10 vs.length c10] (by rfl) rfl rfl (by simp only [List.map_toArray,List.map_cons,List.map_nil];rfl) ?_
 with_reducible refine (nets_at A10 c10 vs w7 HV.out (R10.out.below (bws B1.out hHeld.2.2.2.2))).mono ?_
 rintro e w8 ⟨rfl,k8⟩
 refine ⟨_,rfl,?_⟩
 have K8:=amk k8
 clear k8
 refine hK.out _ _ ⟨pcb K8.out hHeld.1,pcb K8.out hHeld.2.1,pcb K8.out hHeld.2.2.1,pcb K8.out hHeld.2.2.2.1,bws hHeld.2.2.2.2 K8.out⟩ (fun hHeld=>?_)
 clear hK K
 refine norm_ (a':=?_) ?_ ?_
 rotate_left
 ·show Act.put _ (some 36) _=_
  simp only [Act.put,bq1,bq2,bq3,i64_w,i32_w]
  rfl
 refine pure_ (i:=34) (N:=some 37) (v:=?_) (a':=?_) (bsq 36 34359738367) rfl rfl (by kernel_rfl) (fun _ _ _ h=>h) (Or.inl ⟨by rfl,?_⟩) ?_ ?_
 rotate_left
 ·intro w'
  go_simp
  with_reducible rfl
 rotate_left
 ·simp only [Act.put,bq1,bq2,bq3,i64_w,i32_w]
  rfl
 refine pure_ (i:=35) (N:=some 38) (v:=?_) (a':=?_) (bsq 36 68719476735) rfl rfl (by kernel_rfl) (fun _ _ _ h=>h) (Or.inl ⟨by rfl,?_⟩) ?_ ?_
 rotate_left
 ·intro w'
  go_simp
  with_reducible rfl
 rotate_left
 ·simp only [Act.put,bq1,bq2,bq3,i64_w,i32_w]
  rfl
 refine done_ (by kernel_rfl) ?_
 go_wp2
 go_ret
 exact ⟨rfl,bws B0.out hHeld.2.2.2.2⟩
theorem check_calls (m:ByteArray) (b1 b2 b3 b4 b5 b6:Bool) (A7:Option Addr) (c7:Nat) (us:List ByteArray) (A8:Option Addr) (c8:Nat) (ms:List ByteArray) (b9:Bool) (A10:Option Addr) (c10:Nat) (vs:List Int) (w:World) (h7:ReadsOf Value.string ByteArray.empty w A7 us.length us) (h8:ReadsOf Value.string ByteArray.empty w A8 ms.length ms) (h10:ReadsOf (Value.int .i64) 0 w A10 vs.length vs) :
  Calls Try.prog 18 #[.agg #[.string m,.bool b1,.bool b2,.bool b3,.bool b4,.bool b5,.bool b6,.slice A7 us.length c7,.slice A8 ms.length c8,.bool b9,.slice A10 vs.length c10]] w fun e w'=>e=.returned (.int .i64 (checkS m us ms vs))∧Below w.heap.size w w':=by
 unfold checkS
 by_cases e0:kindB m=1
 ·by_cases e7:us.length≤16
  ·by_cases e8:ms.length≤16
   ·cases eu:us.all fun s=>kindB s == 1 with
    | false=>rw [if_neg (fun q=>absurd q.2.2.2.1 (by decide))];exact check_c3 m b1 b2 b3 b4 b5 b6 A7 c7 us A8 c8 ms b9 A10 c10 vs w h7 h8 h10 e0 e7 e8 eu
    | true =>
     cases em:ms.all fun s=>kindB s == 2 with
     | false=>rw [if_neg (fun q=>absurd q.2.2.2.2.1 (by decide))];exact check_c4 m b1 b2 b3 b4 b5 b6 A7 c7 us A8 c8 ms b9 A10 c10 vs w h7 h8 h10 e0 e7 e8 eu em
     | true =>
      cases ev:netsS vs with
      | false=>rw [if_neg (fun q=>absurd q.2.2.2.2.2 (by decide))];exact check_c5 m b1 b2 b3 b4 b5 b6 A7 c7 us A8 c8 ms b9 A10 c10 vs w h7 h8 h10 e0 e7 e8 eu em ev
      | true=>rw [if_pos ⟨e0,e7,e8,rfl,rfl,rfl⟩];exact check_c6 m b1 b2 b3 b4 b5 b6 A7 c7 us A8 c8 ms b9 A10 c10 vs w h7 h8 h10 e0 e7 e8 eu em ev
   ·rw [if_neg (fun q=>e8 q.2.2.1)];exact check_c2 m b1 b2 b3 b4 b5 b6 A7 c7 us A8 c8 ms b9 A10 c10 vs w h7 h8 h10 e0 e7 (by omega)
  ·rw [if_neg (fun q=>e7 q.2.1)];exact check_c1 m b1 b2 b3 b4 b5 b6 A7 c7 us A8 c8 ms b9 A10 c10 vs w h7 h8 h10 e0 (by omega)
 ·rw [if_neg (fun q=>e0 q.1)];exact check_c0 m b1 b2 b3 b4 b5 b6 A7 c7 us A8 c8 ms b9 A10 c10 vs w h7 h8 h10 e0
end Go.Proofs.Ytkgbhlcbjflnlaa.Fl
