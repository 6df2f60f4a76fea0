/- Commands and settings: contracts by hand, and the laws over them. -/
import Derived.Test.YtkgbhlcbjflnlaaZOwn
import Derived.Test.YtkgbhlcbjflnlaaZClo
import Derived.Test.YtkgbhlcbjflnlaaZShelf
import Derived.WalkLawsBesides
import Derived.Shelf.Spec.SlicesInsertGrow
import Derived.Lib.OwnBridge
import Derived.Test.YtkgbhlcbjflnlaaZBs
namespace Go.Proofs.Ytkgbhlcbjflnlaa.Fl
open Go Go.RowKit Go.Proofs.YtkgbhlcbjflnlaaW.PrintWords Go.Proofs.YtkgbhlcbjflnlaaW.PrintLast Go.Proofs.YtkgbhlcbjflnlaaW.PrintMore Go.Proofs.Ytkgbhlcbjflnlaa.Mth Go.Proofs.Ytkgbhlcbjflnlaa.P Go.Proofs.Ytkgbhlcbjflnlaa.Own Go.Proofs
set_option linter.unusedVariables false
set_option linter.unusedSimpArgs false
/-! ### Slices that are cloned -/
theorem plain_of_cell {w:World} {ad:Addr} {v:Value} (h:w.cell? ad=some v):ad=⟨ad.block,ad.off,none⟩:=by
 have:ad.spot=none:=by
  unfold World.cell? at h
  split at h
  ·split at h
   ·cases h
   ·next q=>simpa using q
  ·cases h
 cases ad
 simp at this
 simp [this]
theorem addj (b o j:Nat):(⟨b,o,none⟩:Addr).add j=⟨b,o+j,none⟩:=by
 unfold Addr.add
 by_cases h:j=0
 ·simp [h]
 ·simp [h]
/-- The cells of a slice that is not empty, at a plain address. -/
theorem reads_plain {α:Type} {enc:α→Value} {d:α} {w:World} {A:Option Addr} {l:List α} (h:ReadsOf enc d w A l.length l) (h0:0 < l.length):∃ b o,A=some ⟨b,o,none⟩∧∀ j,j < l.length→w.cell? ⟨b,o+j,none⟩=some (enc (l.getD j d)):=by
 obtain ⟨ad,rfl,hc⟩:=h.2.2 h0
 have e:=plain_of_cell (by simpa [Addr.add] using hc 0 h0)
 refine ⟨ad.block,ad.off,by rw [← e],fun j hj=>?_⟩
 have:=hc j hj
 rw [e,addj] at this
 exact this
theorem cloneS (A:Option Addr) (c:Nat) (l:List ByteArray) (w:World) (hr:ReadsOf Value.string ByteArray.empty w A l.length l) (hb:l.length≤1000000) :
  Calls Try.prog 59 #[.slice A l.length c] w fun e w'=>∃ A' c',e=.returned (.slice A' l.length c')∧l.length≤c'∧w'.ownsRow w.heap.size 9 1 (.slice A' l.length c') l.length (encs Value.string l)∧Below w.heap.size w w':=by
 rcases Nat.eq_zero_or_pos l.length with h0 | h0
 ·obtain rfl:=List.eq_nil_of_length_eq_zero h0
  cases A with
  | none =>
   refine (Try.slices_Clone_string_nil 0 c w).mono ?_
   rintro e w' ⟨rfl,rfl⟩
   exact ⟨none,0,rfl,Nat.le_refl _,own_nil _ _ _ _,Below.refl _ _⟩
  | some a =>
   refine (Try.slices_Clone_string_zero a c w).mono ?_
   rintro e w' ⟨v',rfl,ho,-,hb⟩
   obtain ⟨A',c',rfl⟩:=own_slice ho
   exact ⟨A',c',rfl,Nat.zero_le _,ho,hb⟩
 ·obtain ⟨b,o,rfl,hc⟩:=reads_plain hr h0
  refine (Try.slices_Clone_string b o l.length c l w (Nat.le_refl _) (by omega) hc).mono ?_
  rintro e w' ⟨v',rfl,ho,-,hb⟩
  rw [List.take_of_length_le (Nat.le_refl _)] at ho
  obtain ⟨A',c',rfl,hle,-⟩:=own_reads_of_le (enc:=Value.string) (d:=ByteArray.empty) (xs:=l) ho
  exact ⟨A',c',rfl,hle,ho,hb⟩
theorem cloneI (A:Option Addr) (c:Nat) (l:List Int) (w:World) (hr:ReadsOf (Value.int .i64) 0 w A l.length l) (hb:l.length≤1000000) :
  Calls Try.prog 60 #[.slice A l.length c] w fun e w'=>∃ A' c',e=.returned (.slice A' l.length c')∧l.length≤c'∧w'.ownsRow w.heap.size 3 1 (.slice A' l.length c') l.length (encs (Value.int .i64) l)∧Below w.heap.size w w':=by
 rcases Nat.eq_zero_or_pos l.length with h0 | h0
 ·obtain rfl:=List.eq_nil_of_length_eq_zero h0
  cases A with
  | none =>
   refine (Try.slices_Clone_int_nil 0 c w).mono ?_
   rintro e w' ⟨rfl,rfl⟩
   exact ⟨none,0,rfl,Nat.le_refl _,own_nil _ _ _ _,Below.refl _ _⟩
  | some a =>
   refine (Try.slices_Clone_int_zero a c w).mono ?_
   rintro e w' ⟨v',rfl,ho,-,hb⟩
   obtain ⟨A',c',rfl⟩:=own_slice ho
   exact ⟨A',c',rfl,Nat.zero_le _,ho,hb⟩
 ·obtain ⟨b,o,rfl,hc⟩:=reads_plain hr h0
  refine (Try.slices_Clone_int b o l.length c l w (Nat.le_refl _) (by omega) hc).mono ?_
  rintro e w' ⟨v',rfl,ho,-,hb⟩
  rw [List.take_of_length_le (Nat.le_refl _)] at ho
  obtain ⟨A',c',rfl,hle,-⟩:=own_reads_of_le (enc:=Value.int .i64) (d:=0) (xs:=l) ho
  exact ⟨A',c',rfl,hle,ho,hb⟩
/-- A struct in memory, all its cells stored. -/
theorem flt_stored (h:Nat) (w:World) (u0 u1 u2 u3 u4 u5 u6 u7 u8 u9 u10 c0 c1 c2 c3 c4 c5 c6 c7 c8 c9 c10:Value) (hb:w.heap[h]?=some (.cells #[c0,c1,c2,c3,c4,c5,c6,c7,c8,c9,c10] 25 (0,0))) :
  ∃ w',(((((((((((w.setCell ⟨h,0,none⟩ u0).setCell ⟨h,1,none⟩ u1).setCell ⟨h,2,none⟩ u2).setCell ⟨h,3,none⟩ u3).setCell ⟨h,4,none⟩ u4).setCell ⟨h,5,none⟩ u5).setCell ⟨h,6,none⟩ u6).setCell ⟨h,7,none⟩ u7).setCell ⟨h,8,none⟩ u8).setCell ⟨h,9,none⟩ u9).setCell ⟨h,10,none⟩ u10)=w'∧w'.heap[h]?=some (.cells #[u0,u1,u2,u3,u4,u5,u6,u7,u8,u9,u10] 25 (0,0))∧Upd w w' (fun k=>k=h):=by
 refine ⟨_,rfl,?_,?_⟩
 ·refine blk_put (cs:=#[u0,u1,u2,u3,u4,u5,u6,u7,u8,u9,c10]) ?_ 10 _ rfl
  refine blk_put (cs:=#[u0,u1,u2,u3,u4,u5,u6,u7,u8,c9,c10]) ?_ 9 _ rfl
  refine blk_put (cs:=#[u0,u1,u2,u3,u4,u5,u6,u7,c8,c9,c10]) ?_ 8 _ rfl
  refine blk_put (cs:=#[u0,u1,u2,u3,u4,u5,u6,c7,c8,c9,c10]) ?_ 7 _ rfl
  refine blk_put (cs:=#[u0,u1,u2,u3,u4,u5,c6,c7,c8,c9,c10]) ?_ 6 _ rfl
  refine blk_put (cs:=#[u0,u1,u2,u3,u4,c5,c6,c7,c8,c9,c10]) ?_ 5 _ rfl
  refine blk_put (cs:=#[u0,u1,u2,u3,c4,c5,c6,c7,c8,c9,c10]) ?_ 4 _ rfl
  refine blk_put (cs:=#[u0,u1,u2,c3,c4,c5,c6,c7,c8,c9,c10]) ?_ 3 _ rfl
  refine blk_put (cs:=#[u0,u1,c2,c3,c4,c5,c6,c7,c8,c9,c10]) ?_ 2 _ rfl
  refine blk_put (cs:=#[u0,c1,c2,c3,c4,c5,c6,c7,c8,c9,c10]) ?_ 1 _ rfl
  exact blk_put (cs:=#[c0,c1,c2,c3,c4,c5,c6,c7,c8,c9,c10]) hb 0 _ rfl
 ·exact (Upd.set (Upd.set (Upd.set (Upd.set (Upd.set (Upd.set (Upd.set (Upd.set (Upd.set (Upd.set (Upd.set (Upd.refl w (fun k=>k=h)) (p:=⟨h,0,none⟩) (.inl rfl) u0) (p:=⟨h,1,none⟩) (.inl rfl) u1) (p:=⟨h,2,none⟩) (.inl rfl) u2) (p:=⟨h,3,none⟩) (.inl rfl) u3) (p:=⟨h,4,none⟩) (.inl rfl) u4) (p:=⟨h,5,none⟩) (.inl rfl) u5) (p:=⟨h,6,none⟩) (.inl rfl) u6) (p:=⟨h,7,none⟩) (.inl rfl) u7) (p:=⟨h,8,none⟩) (.inl rfl) u8) (p:=⟨h,9,none⟩) (.inl rfl) u9) (p:=⟨h,10,none⟩) (.inl rfl) u10)
theorem flt_results77 (tmps:Array Value) (w:World) (g:Nat) (c0 c1 c2 c3 c4 c5 c6 c7 c8 c9 c10:Value) (hp:tmps.getD 2 undef=.pointer (some ⟨g,0,none⟩)) (hg:w.heap[g]?=some (.cells #[c0,c1,c2,c3,c4,c5,c6,c7,c8,c9,c10] 25 (0,0))) :
  (results Try.f77 tmps).run Try.prog w=.ok (.agg #[c0,c1,c2,c3,c4,c5,c6,c7,c8,c9,c10]) w:=by
 have h1:tmps[2]?.getD undef=.pointer (some ⟨g,0,none⟩):=by simpa using hp
 have a0:w.cell? ⟨g,0,none⟩=some c0:=(bkc hg 0).trans rfl
 have a1:w.cell? ⟨g,1,none⟩=some c1:=(bkc hg 1).trans rfl
 have a2:w.cell? ⟨g,2,none⟩=some c2:=(bkc hg 2).trans rfl
 have a3:w.cell? ⟨g,3,none⟩=some c3:=(bkc hg 3).trans rfl
 have a4:w.cell? ⟨g,4,none⟩=some c4:=(bkc hg 4).trans rfl
 have a5:w.cell? ⟨g,5,none⟩=some c5:=(bkc hg 5).trans rfl
 have a6:w.cell? ⟨g,6,none⟩=some c6:=(bkc hg 6).trans rfl
 have a7:w.cell? ⟨g,7,none⟩=some c7:=(bkc hg 7).trans rfl
 have a8:w.cell? ⟨g,8,none⟩=some c8:=(bkc hg 8).trans rfl
 have a9:w.cell? ⟨g,9,none⟩=some c9:=(bkc hg 9).trans rfl
 have a10:w.cell? ⟨g,10,none⟩=some c10:=(bkc hg 10).trans rfl
 have hu:=Try.underlying25
 simp [results,Try.results77,h1,asAddr,go_sem,a0,a1,a2,a3,a4,a5,a6,a7,a8,a9,a10]
set_option maxHeartbeats 8000000 in
set_option maxRecDepth 100000 in
theorem copied_calls (m:ByteArray) (b1 b2 b3 b4 b5 b6:Bool) (A7:Option Addr) (c7:Nat) (us:List ByteArray) (A8:Option Addr) (c8:Nat) (ms:List ByteArray) (b9:Bool) (A10:Option Addr) (c10:Nat) (vs:List Int) (w:World) (h7:ReadsOf Value.string ByteArray.empty w A7 us.length us) (h8:ReadsOf Value.string ByteArray.empty w A8 ms.length ms) (h10:ReadsOf (Value.int .i64) 0 w A10 vs.length vs) (e7:us.length≤1000000) (e8:ms.length≤1000000) (e10:vs.length≤1000000) :
  Calls Try.prog 77 #[.agg #[.string m,.bool b1,.bool b2,.bool b3,.bool b4,.bool b5,.bool b6,.slice A7 us.length c7,.slice A8 ms.length c8,.bool b9,.slice A10 vs.length c10]] w fun e w'=>∃ X7 y7 X8 y8 X10 y10,e=.returned (.agg #[.string m,.bool b1,.bool b2,.bool b3,.bool b4,.bool b5,.bool b6,.slice X7 us.length y7,.slice X8 ms.length y8,.bool b9,.slice X10 vs.length y10])∧us.length≤y7∧ms.length≤y8∧vs.length≤y10∧w'.ownsRow w.heap.size 9 1 (.slice X7 us.length y7) us.length (encs Value.string us)∧w'.ownsRow w.heap.size 9 1 (.slice X8 ms.length y8) ms.length (encs Value.string ms)∧w'.ownsRow w.heap.size 3 1 (.slice X10 vs.length y10) vs.length (encs (Value.int .i64) vs)∧Below w.heap.size w w':=by
 have R7:=amk h7
 have R8:=amk h8
 have R10:=amk h10
 clear h7 h8 h10
 have hu:=Try.underlying25
 go_enter Try.func77,Try.ntmps77
 go_upto_region 1 with (fail)
 obtain ⟨w0,hw0⟩:∃ w0,w.alloc (.cells #[.string m,.bool b1,.bool b2,.bool b3,.bool b4,.bool b5,.bool b6,.slice A7 us.length c7,.slice A8 ms.length c8,.bool b9,.slice A10 vs.length c10] 25)=w0:=⟨_,rfl⟩
 obtain ⟨w1,hw1⟩:∃ w1,w0.alloc (.cells #[.string ⟨#[]⟩,.bool false,.bool false,.bool false,.bool false,.bool false,.bool false,.slice none 0 0,.slice none 0 0,.bool false,.slice none 0 0] 25)=w1:=⟨_,rfl⟩
 have B1:Aside0 (Below w.heap.size w w1):=⟨by rw [← hw1,← hw0];exact bwa (bwa (Below.refl _ _) _) _⟩
 have BK:Aside0 (w1.heap[w.heap.size]?=some (.cells #[.string m,.bool b1,.bool b2,.bool b3,.bool b4,.bool b5,.bool b6,.slice A7 us.length c7,.slice A8 ms.length c8,.bool b9,.slice A10 vs.length c10] 25 (0,0))):=⟨by rw [← hw1,← hw0];exact bka (blk_new w _) _⟩
 have BL:Aside0 (w1.heap[w.heap.size+1]?=some (.cells #[.string ⟨#[]⟩,.bool false,.bool false,.bool false,.bool false,.bool false,.bool false,.slice none 0 0,.slice none 0 0,.bool false,.slice none 0 0] 25 (0,0))):=⟨by rw [← hw1];have q:=blk_new w0 (.cells #[.string ⟨#[]⟩,.bool false,.bool false,.bool false,.bool false,.bool false,.bool false,.slice none 0 0,.slice none 0 0,.bool false,.slice none 0 0] 25);rw [show w0.heap.size=w.heap.size+1 from by rw [← hw0];simp] at q;exact q⟩
 have B0:=B1
 rw [hw0,hw1]
 clear hw0 hw1
 obtain ⟨g,hg⟩:∃ g,w.heap.size=g:=⟨_,rfl⟩
 have HGG:=amk (Nat.le_of_eq hg)
 rw [hg] at BK BL
 rw [hg]
 clear hg
 refine start_ (n:=15) (S:=fun w'=>w'.cell? ⟨g,7,none⟩=some (.slice A7 us.length c7)∧w'.cell? ⟨g,8,none⟩=some (.slice A8 ms.length c8)∧w'.cell? ⟨g,10,none⟩=some (.slice A10 vs.length c10)∧Below w1.heap.size w1 w') (ds:=[10,12,14]) (bsq 15 0) (by kernel_rfl) rfl rfl ⟨(bkc BK.out 7).trans rfl,(bkc BK.out 8).trans rfl,(bkc BK.out 10).trans rfl,bwd (Below.refl _ _)⟩ (fun hHeld=>?_)
 refine pure_ (i:=0) (N:=some 3) (v:=?_) (a':=?_) (bsq 15 1) rfl rfl (by kernel_rfl) (fun _ _ _ h=>h) (Or.inl ⟨by rfl,?_⟩) ?_ ?_
 rotate_left
 ·intro w'
  go_simp
  with_reducible rfl
 rotate_left
 ·simp only [Act.put,bq1,bq2,bq3,i64_w,i32_w]
  rfl
 refine pure_ (i:=3) (N:=some 6) (v:=?_) (a':=?_) (bsq 15 9) rfl rfl (by kernel_rfl) (fun _ _ _ h=>h) (Or.inl ⟨by rfl,?_⟩) ?_ ?_
 rotate_left
 ·intro w'
  go_simp
  with_reducible rfl
 rotate_left
 ·simp only [Act.put,bq1,bq2,bq3,i64_w,i32_w]
  rfl
 refine pure_ (i:=6) (N:=some 9) (v:=?_) (a':=?_) (bsq 15 73) rfl rfl (by kernel_rfl) (fun _ _ _ h=>h) (Or.inl ⟨by rfl,?_⟩) ?_ ?_
 rotate_left
 ·intro w'
  go_simp
  with_reducible rfl
 rotate_left
 ·simp only [Act.put,bq1,bq2,bq3,i64_w,i32_w]
  rfl
 refine take_ (i:=1) (N:=some 4) (v:=?_) (a':=?_) (bsq 15 75) rfl rfl (by kernel_rfl) (fun _ _ _ h=>h) (Or.inl ⟨by rfl,?_⟩) hHeld ?_ ?_
 rotate_left
 ·rintro w' ⟨s0,s1,s2,s3⟩
  go_simp
  with_reducible rfl
 rotate_left
 ·simp only [Act.put,bq1,bq2,bq3,i64_w,i32_w]
  rfl
 refine take_ (i:=4) (N:=some 7) (v:=?_) (a':=?_) (bsq 15 91) rfl rfl (by kernel_rfl) (fun _ _ _ h=>h) (Or.inl ⟨by rfl,?_⟩) hHeld ?_ ?_
 rotate_left
 ·rintro w' ⟨s0,s1,s2,s3⟩
  go_simp
  with_reducible rfl
 rotate_left
 ·simp only [Act.put,bq1,bq2,bq3,i64_w,i32_w]
  rfl
 refine take_ (i:=7) (N:=some 10) (v:=?_) (a':=?_) (bsq 15 219) rfl rfl (by kernel_rfl) (fun _ _ _ h=>h) (Or.inl ⟨by rfl,?_⟩) hHeld ?_ ?_
 rotate_left
 ·rintro w' ⟨s0,s1,s2,s3⟩
  go_simp
  with_reducible rfl
 rotate_left
 ·simp only [Act.put,bq1,bq2,bq3,i64_w,i32_w]
  rfl
 refine one_ (i:=2) (N:=some 5) (bsq 15 223) rfl rfl (by kernel_rfl) (by decide) (fun K hK=>?_)
 refine goes_ Try.func59 (by kernel_rfl) rfl #[.slice A7 us.length c7] (by rfl) rfl rfl (by simp only [List.map_toArray,List.map_cons,List.map_nil];rfl) ?_
 with_reducible refine (cloneS A7 c7 us _ (R7.out.below (bws B1.out hHeld.2.2.2)) e7).mono ?_
 rintro e w3 ⟨X7,y7,rfl,l3,o3,k3⟩
 refine ⟨_,rfl,?_⟩
 have L3:=amk l3
 have O3:=amk o3
 have K3:=amk k3
 clear l3 o3 k3
 refine hK.out _ _ ⟨pcb K3.out hHeld.1,pcb K3.out hHeld.2.1,pcb K3.out hHeld.2.2.1,bws hHeld.2.2.2 K3.out⟩ (fun hHeld=>?_)
 clear hK K
 refine norm_ (a':=?_) ?_ ?_
 rotate_left
 ·show Act.put _ (some 5) _=_
  simp only [Act.put,bq1,bq2,bq3,i64_w,i32_w]
  rfl
 refine pure_ (i:=9) (N:=some 12) (v:=?_) (a':=?_) (bsq 15 735) rfl rfl (by kernel_rfl) (fun _ _ _ h=>h) (Or.inl ⟨by rfl,?_⟩) ?_ ?_
 rotate_left
 ·intro w'
  go_simp
  with_reducible rfl
 rotate_left
 ·simp only [Act.put,bq1,bq2,bq3,i64_w,i32_w]
  rfl
 refine one_ (i:=5) (N:=some 8) (bsq 15 767) rfl rfl (by kernel_rfl) (by decide) (fun K hK=>?_)
 refine goes_ Try.func59 (by kernel_rfl) rfl #[.slice A8 ms.length c8] (by rfl) rfl rfl (by simp only [List.map_toArray,List.map_cons,List.map_nil];rfl) ?_
 with_reducible refine (cloneS A8 c8 ms _ (R8.out.below (bws B1.out hHeld.2.2.2)) e8).mono ?_
 rintro e w4 ⟨X8,y8,rfl,l4,o4,k4⟩
 refine ⟨_,rfl,?_⟩
 have L4:=amk l4
 have O4:=amk o4
 have K4:=amk k4
 clear l4 o4 k4
 refine hK.out _ _ ⟨pcb K4.out hHeld.1,pcb K4.out hHeld.2.1,pcb K4.out hHeld.2.2.1,bws hHeld.2.2.2 K4.out⟩ (fun hHeld=>?_)
 clear hK K
 refine norm_ (a':=?_) ?_ ?_
 rotate_left
 ·show Act.put _ (some 8) _=_
  simp only [Act.put,bq1,bq2,bq3,i64_w,i32_w]
  rfl
 refine one_ (i:=8) (N:=some 11) (bsq 15 1023) rfl rfl (by kernel_rfl) (by decide) (fun K hK=>?_)
 refine goes_ Try.func60 (by kernel_rfl) rfl #[.slice A10 vs.length c10] (by rfl) rfl rfl (by simp only [List.map_toArray,List.map_cons,List.map_nil];rfl) ?_
 with_reducible refine (cloneI A10 c10 vs _ (R10.out.below (bws B1.out hHeld.2.2.2)) e10).mono ?_
 rintro e w5 ⟨X10,y10,rfl,l5,o5,k5⟩
 refine ⟨_,rfl,?_⟩
 have L5:=amk l5
 have O5:=amk o5
 have K5:=amk k5
 clear l5 o5 k5
 have B5:=amk (bws hHeld.2.2.2 K5.out)
 have BK5:=amk (bkb BK.out B5.out)
 have zc7:w5.cell? ⟨g,7,none⟩=some (.slice A7 us.length c7):=(bkc BK5.out 7).trans rfl
 have zc8:w5.cell? ⟨g,8,none⟩=some (.slice A8 ms.length c8):=(bkc BK5.out 8).trans rfl
 have zc10:w5.cell? ⟨g,10,none⟩=some (.slice A10 vs.length c10):=(bkc BK5.out 10).trans rfl
 have zf7:=bkf BK5.out 7
 have zf8:=bkf BK5.out 8
 have zf10:=bkf BK5.out 10
 refine hK.out _ _ ⟨pcb K5.out hHeld.1,pcb K5.out hHeld.2.1,pcb K5.out hHeld.2.2.1,bws hHeld.2.2.2 K5.out⟩ (fun hHeld=>?_)
 clear hK K
 refine norm_ (a':=?_) ?_ ?_
 rotate_left
 ·show Act.put _ (some 11) _=_
  simp only [Act.put,bq1,bq2,bq3,i64_w,i32_w]
  rfl
 refine last_ (i:=10) (N:=none) (bsq 15 2047) rfl rfl (by kernel_rfl) (by decide) (fun K hK=>?_)
 refine skip_ (w1:=?_) (by rfl) rfl ?_ ?_
 rotate_left
 ·go_simp
  rfl
 refine hK.out _ _ ?_
 clear hK K
 refine pure_ (i:=11) (N:=some 13) (v:=?_) (a':=?_) (bsq 15 4095) rfl rfl (by kernel_rfl) (fun _ _ _ h=>h) (Or.inl ⟨by rfl,?_⟩) ?_ ?_
 rotate_left
 ·intro w'
  go_simp
  with_reducible rfl
 rotate_left
 ·simp only [Act.put,bq1,bq2,bq3,i64_w,i32_w]
  rfl
 refine last_ (i:=12) (N:=none) (bsq 15 8191) rfl rfl (by kernel_rfl) (by decide) (fun K hK=>?_)
 refine skip_ (w1:=?_) (by rfl) rfl ?_ ?_
 rotate_left
 ·go_simp
  rfl
 refine hK.out _ _ ?_
 clear hK K
 refine pure_ (i:=13) (N:=some 14) (v:=?_) (a':=?_) (bsq 15 16383) rfl rfl (by kernel_rfl) (fun _ _ _ h=>h) (Or.inl ⟨by rfl,?_⟩) ?_ ?_
 rotate_left
 ·intro w'
  go_simp
  with_reducible rfl
 rotate_left
 ·simp only [Act.put,bq1,bq2,bq3,i64_w,i32_w]
  rfl
 refine last_ (i:=14) (N:=none) (bsq 15 32767) rfl rfl (by kernel_rfl) (by decide) (fun K hK=>?_)
 refine skip_ (w1:=?_) (by rfl) rfl ?_ ?_
 rotate_left
 ·go_simp
  rfl
 refine hK.out _ _ ?_
 clear hK K
 refine done_ (by kernel_rfl) ?_
 obtain ⟨w6,hw6⟩:∃ w6,((w5.setCell ⟨g,7,none⟩ (.slice X7 us.length y7)).setCell ⟨g,8,none⟩ (.slice X8 ms.length y8)).setCell ⟨g,10,none⟩ (.slice X10 vs.length y10)=w6:=⟨_,rfl⟩
 have U6:Aside0 (Upd w5 w6 (fun k=>k=g)):=⟨by rw [← hw6];exact (((Upd.refl w5 (fun k=>k=g)).set (p:=⟨g,7,none⟩) (.inl rfl) _).set (p:=⟨g,8,none⟩) (.inl rfl) _).set (p:=⟨g,10,none⟩) (.inl rfl) _⟩
 have BK6:Aside0 (w6.heap[g]?=some (.cells #[.string m,.bool b1,.bool b2,.bool b3,.bool b4,.bool b5,.bool b6,.slice X7 us.length y7,.slice X8 ms.length y8,.bool b9,.slice X10 vs.length y10] 25 (0,0))):=⟨by rw [← hw6];exact blk_put (cs:=#[.string m,.bool b1,.bool b2,.bool b3,.bool b4,.bool b5,.bool b6,.slice X7 us.length y7,.slice X8 ms.length y8,.bool b9,.slice A10 vs.length c10]) (blk_put (cs:=#[.string m,.bool b1,.bool b2,.bool b3,.bool b4,.bool b5,.bool b6,.slice X7 us.length y7,.slice A8 ms.length c8,.bool b9,.slice A10 vs.length c10]) (blk_put (cs:=#[.string m,.bool b1,.bool b2,.bool b3,.bool b4,.bool b5,.bool b6,.slice A7 us.length c7,.slice A8 ms.length c8,.bool b9,.slice A10 vs.length c10]) BK5.out 7 _ rfl) 8 _ rfl) 10 _ rfl⟩
 rw [hw6]
 clear hw6 zc7 zc8 zc10 zf7 zf8 zf10
 have BL6:=amk (U6.out.blk (bkb BL.out B5.out) (by omega))
 have hd0:w6.cell? ⟨g,0,none⟩=some (.string m):=(bkc BK6.out 0).trans rfl
 have hz0:w6.cell? ⟨g+1,0,none⟩=some (.string ⟨#[]⟩):=(bkc BL6.out 0).trans rfl
 have hy0:=bkf BL6.out 0
 have hd1:w6.cell? ⟨g,1,none⟩=some (.bool b1):=(bkc BK6.out 1).trans rfl
 have hz1:w6.cell? ⟨g+1,1,none⟩=some (.bool false):=(bkc BL6.out 1).trans rfl
 have hy1:=bkf BL6.out 1
 have hd2:w6.cell? ⟨g,2,none⟩=some (.bool b2):=(bkc BK6.out 2).trans rfl
 have hz2:w6.cell? ⟨g+1,2,none⟩=some (.bool false):=(bkc BL6.out 2).trans rfl
 have hy2:=bkf BL6.out 2
 have hd3:w6.cell? ⟨g,3,none⟩=some (.bool b3):=(bkc BK6.out 3).trans rfl
 have hz3:w6.cell? ⟨g+1,3,none⟩=some (.bool false):=(bkc BL6.out 3).trans rfl
 have hy3:=bkf BL6.out 3
 have hd4:w6.cell? ⟨g,4,none⟩=some (.bool b4):=(bkc BK6.out 4).trans rfl
 have hz4:w6.cell? ⟨g+1,4,none⟩=some (.bool false):=(bkc BL6.out 4).trans rfl
 have hy4:=bkf BL6.out 4
 have hd5:w6.cell? ⟨g,5,none⟩=some (.bool b5):=(bkc BK6.out 5).trans rfl
 have hz5:w6.cell? ⟨g+1,5,none⟩=some (.bool false):=(bkc BL6.out 5).trans rfl
 have hy5:=bkf BL6.out 5
 have hd6:w6.cell? ⟨g,6,none⟩=some (.bool b6):=(bkc BK6.out 6).trans rfl
 have hz6:w6.cell? ⟨g+1,6,none⟩=some (.bool false):=(bkc BL6.out 6).trans rfl
 have hy6:=bkf BL6.out 6
 have hd7:w6.cell? ⟨g,7,none⟩=some (.slice X7 us.length y7):=(bkc BK6.out 7).trans rfl
 have hz7:w6.cell? ⟨g+1,7,none⟩=some (.slice none 0 0):=(bkc BL6.out 7).trans rfl
 have hy7:=bkf BL6.out 7
 have hd8:w6.cell? ⟨g,8,none⟩=some (.slice X8 ms.length y8):=(bkc BK6.out 8).trans rfl
 have hz8:w6.cell? ⟨g+1,8,none⟩=some (.slice none 0 0):=(bkc BL6.out 8).trans rfl
 have hy8:=bkf BL6.out 8
 have hd9:w6.cell? ⟨g,9,none⟩=some (.bool b9):=(bkc BK6.out 9).trans rfl
 have hz9:w6.cell? ⟨g+1,9,none⟩=some (.bool false):=(bkc BL6.out 9).trans rfl
 have hy9:=bkf BL6.out 9
 have hd10:w6.cell? ⟨g,10,none⟩=some (.slice X10 vs.length y10):=(bkc BK6.out 10).trans rfl
 have hz10:w6.cell? ⟨g+1,10,none⟩=some (.slice none 0 0):=(bkc BL6.out 10).trans rfl
 have hy10:=bkf BL6.out 10
 have HB5:=amk (bws B0.out B5.out)
 have HB6:Aside0 (Below w.heap.size w w6):=⟨HB5.out.trans (U6.out.toBelow (B:=w.heap.size) (fun k hk=>by rw [hk];exact HGG.out) HB5.out.size)⟩
 clear R7 R8 R10
 go_wp2
 clear hd0 hd1 hd2 hd3 hd4 hd5 hd6 hd7 hd8 hd9 hd10 hz0 hz1 hz2 hz3 hz4 hz5 hz6 hz7 hz8 hz9 hz10 hy0 hy1 hy2 hy3 hy4 hy5 hy6 hy7 hy8 hy9 hy10
 obtain ⟨w7,hw7,BK7,U7⟩:=flt_stored (g+1) w6 (.string m) (.bool b1) (.bool b2) (.bool b3) (.bool b4) (.bool b5) (.bool b6) (.slice X7 us.length y7) (.slice X8 ms.length y8) (.bool b9) (.slice X10 vs.length y10) _ _ _ _ _ _ _ _ _ _ _ BL6.out
 rw [hw7]
 clear hw7
 refine bodyPost_ret (flt_results77 _ w7 (g+1) _ _ _ _ _ _ _ _ _ _ _ rfl BK7) rfl ⟨X7,y7,X8,y8,X10,y10,rfl,L3.out,L4.out,L5.out,?_,?_,?_,HB6.out.trans (U7.toBelow (B:=w.heap.size) (fun k hk=>by rw [hk];have:=HGG.out;omega) HB6.out.size)⟩
 ·have o6:=U6.out.own (pw_own_below (pw_own_below O3.out K4.out) K5.out) (fun k hk e=>own_ne (pw_own_below (pw_own_below O3.out K4.out) K5.out) BK5.out (by decide) (by rw [hk,← e]))
  exact own_weaken (U7.own o6 (fun k hk e=>own_ne o6 BL6.out (by decide) (by rw [hk,← e]))) B0.out.size
 ·have o6:=U6.out.own (pw_own_below O4.out K5.out) (fun k hk e=>own_ne (pw_own_below O4.out K5.out) BK5.out (by decide) (by rw [hk,← e]))
  exact own_weaken (U7.own o6 (fun k hk e=>own_ne o6 BL6.out (by decide) (by rw [hk,← e]))) (Nat.le_trans B0.out.size K3.out.size)
 ·have o6:=U6.out.own O5.out (fun k hk e=>own_ne O5.out BK5.out (by decide) (by rw [hk,← e]))
  exact own_weaken (U7.own o6 (fun k hk e=>own_ne o6 BL6.out (by decide) (by rw [hk,← e]))) (Nat.le_trans B0.out.size (Nat.le_trans K3.out.size K4.out.size))
/-! ### Insert into a row of one's own -/
theorem enc_one (l:List Int):∀ v∈encs (Value.int .i64) l,v.oneCell'=true:=by
 intro v hv
 simp only [encs,List.mem_map] at hv
 obtain ⟨x,_,rfl⟩:=hv
 rfl
def insRes (v:Value) (n:Nat) (l:List Int) (base:Nat) (w:World) (e:Ending) (w':World):Prop :=
 ∃ A' c',e=.returned (.slice A' (n+1) c')∧w'.ownsRow base 3 1 (.slice A' (n+1) c') (n+1) (encs (Value.int .i64) l)∧Upd w w' (fun k=>some k=v.ownBlock)
theorem upd_cells {w w1:World} {S:Nat→Prop} (g o:Nat) (vs:List Value) (h:Upd w w1 S) (hg:S g∨w.heap.size≤g):Upd w (w1.setCells g o vs) S:=by
 induction vs generalizing o w1 with
 | nil=>exact h
 | cons v r ih=>exact ih (o+1) (h.set (p:=⟨g,o,none⟩) hg v)
theorem own_mk {w:World} {base g cap:Nat} {cur:Array Value} {n:Nat} {xs:List Value} (hb:base≤g) (hh:w.heap[g]?=some (.cells cur 3 (0,0))) (hn:n≤cap) (hm:cap≤maxLen) (hs:cur.size=cap) (hx:cur.toList.take n=xs) :
  w.ownsRow base 3 1 (.slice (some ⟨g,0,none⟩) n cap) n xs:=by
 refine ⟨?_,.inr ⟨g,cap,cur,rfl,hb,hh,hn,hm,by omega,by rw [Nat.mul_one];exact hx⟩⟩
 rw [← hx,List.length_take,Array.length_toList,hs,Nat.mul_one];omega
theorem ins_end_grow (base:Option Addr) (n c vb:Nat) (cs:List Value) (x:Value) (w:World) (hnc:n≤c) (hroom:c < n+1) (hbig:(n+1) * 8≤140737488355328)
  (hcl:cs.length=n) (hnil:base=none→n=0) (hcs:∀ a,base=some a→∀ j v,cs[j]?=some v→w.cell? (a.add j)=some v) (hvs:∀ j v,[x][j]?=some v→w.cell? ⟨vb,0+j,none⟩=some v) (h1v:∀ v∈[x],v.oneCell'=true) :
  Calls Try.prog 79 #[.slice base n c,.int .i64 n,.slice (some ⟨vb,0,none⟩) 1 1] w fun e w'=>e=.returned (.slice (some ⟨w.heap.size,0,none⟩) (n+1) (grownCap w (n+1) c 3)) ∧
   w'=w.drew.alloc (.cells ((cs ++ [x]).toArray ++ Builtin.zeroCells (Value.int .i64 0).cells (grownCap w (n+1) c 3 - (n+1))) 3) :=
 Any2.slices_Insert_int_end_grow Try.laysIns base n c vb 0 1 1 cs [x] w (by decide) hnc hroom hbig hcl rfl hnil hcs hvs h1v
theorem ins_grow (b n c i vb:Nat) (cs:List Value) (x:Value) (w:World) (hi:i < n) (hnc:n≤c) (hroom:c < n+1) (hbig:(n+1) * 8≤140737488355328) (hcl:cs.length=n)
  (hcs:∀ j v,cs[j]?=some v→w.cell? ⟨b,0+j,none⟩=some v) (hvs:∀ j v,[x][j]?=some v→w.cell? ⟨vb,0+j,none⟩=some v) (h1c:∀ v∈cs,v.oneCell'=true) (h1v:∀ v∈[x],v.oneCell'=true) :
  Calls Try.prog 79 #[.slice (some ⟨b,0,none⟩) n c,.int .i64 i,.slice (some ⟨vb,0,none⟩) 1 1] w fun e w'=>e=.returned (.slice (some ⟨w.heap.size,0,none⟩) (n+1) (grownCap w (n+1) c 3)) ∧
   w'=(((w.alloc (.cells ((cs.take i).toArray ++ Builtin.zeroCells (Value.int .i64 0).cells (n+1 - i) ++ Builtin.zeroCells (Value.int .i64 0).cells (grownCap w (n+1) c 3 - (n+1))) 3)).drew.setCells w.heap.size i [x]).drew).setCells w.heap.size (i+1) (cs.drop i) :=
 Any2.slices_Insert_int_grow Try.laysIns b 0 n c i vb 0 1 1 cs [x] w hi (by decide) hnc hroom hbig hcl rfl hcs hvs h1c h1v
set_option maxHeartbeats 4000000 in
theorem insert_calls (A:Option Addr) (n c:Nat) (l:List Int) (i:Nat) (x:Int) (base vb:Nat) (w:World) (hl:l.length=n) (hbig:n≤1000000) (hi:i≤n) (hbase:base≤w.heap.size)
  (ho:w.ownsRow base 3 1 (.slice A n c) n (encs (Value.int .i64) l)) (hx:w.heap[vb]?=some (.cells #[.int .i64 x] 3 (0,0))) (hne:some vb ≠ (Value.slice A n c).ownBlock) :
  Calls Try.prog 79 #[.slice A n c,.int .i64 i,.slice (some ⟨vb,0,none⟩) 1 1] w (insRes (.slice A n c) n (l.take i ++ x :: l.drop i) base w):=by
 have hvs:∀ j v,[Value.int .i64 x][j]?=some v→w.cell? ⟨vb,0+j,none⟩=some v:=by
  intro j v hj
  rw [Nat.zero_add,bkc hx,← Array.getElem?_toList]
  exact hj
 have h1v:∀ v∈[Value.int .i64 x],v.oneCell'=true:=by intro v hv;rw [List.mem_singleton.1 hv];rfl
 have le_len:(encs (Value.int .i64) l).length=n:=by rw [encs_length,hl]
 have enc_app:encs (Value.int .i64) (l.take i ++ x :: l.drop i)=(encs (Value.int .i64) l).take i ++ Value.int .i64 x :: (encs (Value.int .i64) l).drop i:=by simp [encs]
 rcases ho.2 with ⟨hv,h0⟩ | ⟨g,cap,cur,hv,hg,hh,h3,h4,h5,h6⟩
 ·injection hv with hA _ hc
  subst hA hc
  subst h0
  obtain rfl:i=0:=by omega
  obtain rfl:=List.eq_nil_of_length_eq_zero hl
  refine (ins_end_grow none 0 0 vb [] (.int .i64 x) w (Nat.le_refl _) (by decide) (by decide) rfl (fun _=>rfl) (fun a h=>by cases h) hvs h1v).mono ?_
  rintro e w' ⟨rfl,rfl⟩
  refine ⟨_,_,rfl,own_mk (cur:=(([] ++ [Value.int .i64 x]).toArray ++ Builtin.zeroCells (Value.int .i64 0).cells (grownCap w (0+1) 0 3 - (0+1)))) hbase ?_ (grownCap_ge _ _ _ _) (grownCap_le_maxLen _ _ _ _ (by decide)) ?_ ?_,((Upd.refl w _).drew).alloc _⟩
  ·exact blk_new w.drew _
  ·have:=grownCap_ge w 1 0 3
   simp [Builtin.zeroCells,Value.cells]
   omega
  ·simp [encs]
 ·injection hv with hA _ hc
  subst hA hc
  have hcs:∀ j v,(encs (Value.int .i64) l)[j]?=some v→w.cell? ⟨g,0+j,none⟩=some v:=by
   intro j v hj
   rw [Nat.zero_add,bkc hh,← Array.getElem?_toList]
   rw [← h6,Nat.mul_one,List.getElem?_take] at hj
   split at hj
   ·exact hj
   ·cases hj
  have hl6:cur.toList.take n=encs (Value.int .i64) l:=by rw [← h6,Nat.mul_one]
  have hsz:cur.size=c:=by omega
  have hgv:vb ≠ g:=fun e=>hne (by rw [e];rfl)
  have S0:(fun k=>some k=(Value.slice (some ⟨g,0,none⟩) n c).ownBlock) g:=rfl
  by_cases hin:i=n
  ·subst hin
   by_cases hr:i+1≤c
   ·refine (Any2.slices_Insert_int_end_room Try.laysIns g 0 i c vb 0 1 1 [.int .i64 x] w (by decide) hr (by simpa [maxLen] using h4) rfl ?_ ?_ hvs h1v).mono ?_
    ·intro j hj
     rw [bkc hh,Array.getElem?_eq_getElem (by omega)]
     rfl
    ·intro j hj
     exact bkf hh _
    ·rintro e w' ⟨rfl,rfl⟩
     obtain ⟨cur',k1,k2,k3⟩:=setCells_row [.int .i64 x] (0+i) w cur hh (by simp;omega)
     refine ⟨_,_,rfl,own_mk hg k1 hr h4 (by omega) ?_,upd_cells g _ _ (Upd.refl w _) (.inl S0)⟩
     rw [k3,enc_app,Nat.zero_add,hl6,List.take_append_of_le_length (by simp [le_len]),List.take_of_length_le (by simp [le_len]),List.take_of_length_le (by omega),List.drop_of_length_le (by omega)]
   ·refine (ins_end_grow (some ⟨g,0,none⟩) i c vb (encs (Value.int .i64) l) (.int .i64 x) w h3 (by omega) (by omega) le_len (fun h=>by cases h) ?_ hvs h1v).mono ?_
    ·rintro a ⟨rfl⟩ j v hj
     rw [addj]
     exact hcs j v hj
    ·rintro e w' ⟨rfl,rfl⟩
     have hge:=grownCap_ge w (i+1) c 3
     refine ⟨_,_,rfl,own_mk (cur:=((encs (Value.int .i64) l ++ [Value.int .i64 x]).toArray ++ Builtin.zeroCells (Value.int .i64 0).cells (grownCap w (i+1) c 3 - (i+1)))) hbase (blk_new w.drew _) hge (grownCap_le_maxLen _ _ _ _ (by simp [maxLen];omega)) ?_ ?_,((Upd.refl w _).drew).alloc _⟩
     ·simp [Builtin.zeroCells,Value.cells,le_len]
      omega
     ·rw [enc_app,List.take_of_length_le (l:=encs (Value.int .i64) l) (by omega),List.drop_of_length_le (l:=encs (Value.int .i64) l) (by omega)]
      simp only [Array.toList_append]
      rw [List.take_append_of_le_length (by simp [le_len]),List.take_of_length_le (by simp [le_len])]
  ·by_cases hr:n+1≤c
   ·refine (Any2.slices_Insert_int_shift Try.laysIns g 0 n c i vb 0 1 1 (encs (Value.int .i64) l) [.int .i64 x] w (by omega) (by decide) hr (by simpa [maxLen] using h4) hgv le_len rfl hcs ?_ ?_ hvs (enc_one l) h1v 3 3 1 c ?_ ?_ (by omega) (bkf hx _) (bkf hx _)).mono ?_
    ·intro j hj
     rw [bkc hh,Array.getElem?_eq_getElem (by omega)]
     rfl
    ·intro j hj
     exact bkf hh _
    ·simp [World.shape?,hx]
    ·simp [World.shape?,hh,hsz]
    ·rintro e w' ⟨rfl,rfl⟩
     obtain ⟨cur',k1,k2,k3⟩:=setCells_row ((encs (Value.int .i64) l).drop i) (0+(i+1)) w.drew cur hh (by rw [List.length_drop,le_len];omega)
     obtain ⟨cur2,m1,m2,m3⟩:=setCells_row [.int .i64 x] (0+i) _ cur' k1 (by simp;omega)
     refine ⟨_,_,rfl,own_mk hg m1 hr h4 (by omega) ?_,upd_cells g _ _ (upd_cells g _ _ ((Upd.refl w _).drew) (.inl S0)) (.inl S0)⟩
     rw [m3,k3,enc_app]
     simp only [Nat.zero_add]
     have tl:cur.toList.length=c:=by rw [Array.length_toList,hsz]
     have t1:(cur.toList.take (i+1) ++ (encs (Value.int .i64) l).drop i ++ cur.toList.drop (i+1+((encs (Value.int .i64) l).drop i).length)).take i=(encs (Value.int .i64) l).take i:=by
      rw [List.append_assoc,List.take_append_of_le_length (by rw [List.length_take];omega),List.take_take,Nat.min_eq_left (by omega),← hl6,List.take_take,Nat.min_eq_left (by omega)]
     have t2:(cur.toList.take (i+1) ++ (encs (Value.int .i64) l).drop i ++ cur.toList.drop (i+1+((encs (Value.int .i64) l).drop i).length)).drop (i+[Value.int .i64 x].length)=(encs (Value.int .i64) l).drop i ++ cur.toList.drop (i+1+((encs (Value.int .i64) l).drop i).length):=by
      rw [List.length_singleton,List.append_assoc,List.drop_append_of_le_length (by rw [List.length_take];omega),List.drop_of_length_le (by rw [List.length_take];omega),List.nil_append]
     rw [t1,t2,List.append_assoc,List.take_append,List.length_take,le_len,Nat.min_eq_left hi,List.take_of_length_le (by rw [List.length_take];omega)]
     congr 1
     rw [show n+1 - i=(n - i)+1 from by omega,List.singleton_append,List.take_succ_cons]
     congr 1
     rw [List.take_append_of_le_length (by rw [List.length_drop,le_len];exact Nat.le_refl _),List.take_of_length_le (by rw [List.length_drop,le_len];exact Nat.le_refl _)]
   ·refine (ins_grow g n c i vb (encs (Value.int .i64) l) (.int .i64 x) w (by omega) h3 (by omega) (by omega) le_len hcs hvs (enc_one l) h1v).mono ?_
    rintro e w' ⟨rfl,rfl⟩
    have hge:=grownCap_ge w (n+1) c 3
    obtain ⟨big,hbg⟩:∃ big,(((encs (Value.int .i64) l).take i).toArray ++ Builtin.zeroCells (Value.int .i64 0).cells (n+1 - i) ++ Builtin.zeroCells (Value.int .i64 0).cells (grownCap w (n+1) c 3 - (n+1)))=big:=⟨_,rfl⟩
    have bs:big.size=grownCap w (n+1) c 3:=by
     rw [← hbg]
     simp [Builtin.zeroCells,Value.cells,le_len]
     omega
    have bt:big.toList.take i=(encs (Value.int .i64) l).take i:=by
     rw [← hbg]
     simp only [Array.toList_append,List.append_assoc]
     rw [List.take_append_of_le_length (by rw [List.length_take,le_len];omega),List.take_take,Nat.min_self]
    obtain ⟨cur',k1,k2,k3⟩:=setCells_row [.int .i64 x] i (w.alloc (.cells big 3)).drew big (blk_new w _) (by simp;omega)
    obtain ⟨cur2,m1,m2,m3⟩:=setCells_row ((encs (Value.int .i64) l).drop i) (i+1) (((w.alloc (.cells big 3)).drew.setCells w.heap.size i [.int .i64 x]).drew) cur' k1 (by rw [List.length_drop,le_len];omega)
    refine ⟨_,_,rfl,own_mk hbase (by rw [← hbg] at m1;exact m1) hge (grownCap_le_maxLen _ _ _ _ (by simp [maxLen];omega)) (by omega) ?_,upd_cells _ _ _ ((upd_cells _ _ _ (((Upd.refl w _).alloc _).drew) (.inr (Nat.le_refl _))).drew) (.inr (Nat.le_refl _))⟩
    rw [m3,k3,enc_app,bt]
    have q1:((encs (Value.int .i64) l).take i ++ [Value.int .i64 x] ++ big.toList.drop (i+[Value.int .i64 x].length)).take (i+1)=(encs (Value.int .i64) l).take i ++ [Value.int .i64 x]:=by
     rw [List.take_append_of_le_length (by rw [List.length_append,List.length_take,le_len,List.length_singleton];omega),List.take_of_length_le (by rw [List.length_append,List.length_take,le_len,List.length_singleton];omega)]
    have q2:((encs (Value.int .i64) l).take i ++ [Value.int .i64 x] ++ (encs (Value.int .i64) l).drop i).length=n+1:=by
     rw [List.length_append,List.length_append,List.length_take,List.length_drop,le_len,List.length_singleton,Nat.min_eq_left hi];omega
    rw [q1,List.take_append_of_le_length (by omega),List.take_of_length_le (by omega)]
    simp
/-! ### BinarySearch, DeleteFunc -/
theorem nets_rise:∀ {l:List Int} {last:Int},netsFrom last l=true→l.Pairwise (· < ·)∧(∀ x∈l,last < x∧x≤4094)
 | [],_,_=>⟨.nil,by simp⟩
 | a :: r,last,h=>by
  simp only [netsFrom,Bool.and_eq_true,okN,decide_eq_true_eq] at h
  obtain ⟨h1,h2⟩:=nets_rise h.2
  refine ⟨List.pairwise_cons.2 ⟨fun x hx=>(h2 x hx).1,h1⟩,?_⟩
  intro x hx
  rcases List.mem_cons.1 hx with rfl | hx
  ·exact h.1
  ·have:=h2 x hx;omega
theorem rise_nets:∀ {l:List Int} {last:Int},l.Pairwise (· < ·)→(∀ x∈l,last < x∧x≤4094)→netsFrom last l=true
 | [],_,_,_=>rfl
 | a :: r,last,h1,h2=>by
  obtain ⟨k1,k2⟩:=List.pairwise_cons.1 h1
  simp only [netsFrom,Bool.and_eq_true,okN,decide_eq_true_eq]
  exact ⟨h2 a (by simp),rise_nets k2 fun x hx=>⟨k1 x hx,(h2 x (List.mem_cons_of_mem _ hx)).2⟩⟩
theorem nets_iff {l:List Int}:netsS l=true ↔ l.Pairwise (· < ·)∧∀ x∈l,0≤x∧x≤4094:=by
 unfold netsS
 constructor
 ·intro h
  obtain ⟨h1,h2⟩:=nets_rise h
  exact ⟨h1,fun x hx=>by have:=h2 x hx;omega⟩
 ·rintro ⟨h1,h2⟩
  exact rise_nets h1 fun x hx=>by have:=h2 x hx;omega
theorem bs_calls (A:Option Addr) (c:Nat) (l:List Int) (x:Int) (w:World) (hr:ReadsOf (Value.int .i64) 0 w A l.length l) (hb:l.length≤1000000) (hs:l.Pairwise (· < ·)) :
  Calls Try.prog 78 #[.slice A l.length c,.int .i64 x] w fun e w'=>e=.returned (.tuple #[.int .i64 ((l.countP (· < x):Nat):Int),.bool (l.contains x)])∧Below w.heap.size w w':=by
 rcases Nat.eq_zero_or_pos l.length with h0 | h0
 ·obtain rfl:=List.eq_nil_of_length_eq_zero h0
  refine (Try.slices_BinarySearch_int_empty A c x w).mono ?_
  rintro e w' ⟨rfl,rfl⟩
  exact ⟨rfl,Below.refl _ _⟩
 ·obtain ⟨b,o,rfl,hc⟩:=reads_plain hr h0
  refine (Try.slices_BinarySearch_int b o l.length c l x w (Nat.le_refl _) (by omega) hc (by rw [List.take_of_length_le (Nat.le_refl _)];exact hs.imp (fun h=>by omega))).mono ?_
  rintro e w' ⟨rfl,q,rfl⟩
  rw [List.take_of_length_le (Nat.le_refl _)]
  exact ⟨rfl,pwd (Below.refl _ _) q⟩
set_option maxHeartbeats 4000000 in
set_option maxRecDepth 100000 in
theorem del1_calls (x n:Int) (B:Nat) (W:World) (hc:W.cell? ⟨B,0,none⟩=some (.int .i64 n)) :
  Calls Try.prog 81 #[.int .i64 x,.pointer (some ⟨B,0,none⟩)] W fun e w'=>e=.returned (.bool (x == n))∧∃ q,w'=W.drewN q:=by
 go_enter Try.func81,Try.ntmps81
 go_wp2
 go_ret
 exact ⟨rfl,0,rfl⟩
theorem del_at (n:Int) (B:Nat) (w:World) (hB:B < w.heap.size) (hcell:w.cell? ⟨B,0,none⟩=some (.int .i64 n)) :
  Go.Proofs.PredAt Try.prog 81 #[.pointer (some ⟨B,0,none⟩)] (Value.int .i64) (fun x=>x == n) w :=
 fun W x hb=>del1_calls x n B W ((hb.cell (p:=⟨B,0,none⟩) hB).trans hcell)
theorem del_over (n:Int) (B blk off size:Nat) (w:World) (hB:B < w.heap.size) (hne:B ≠ blk) (hcell:w.cell? ⟨B,0,none⟩=some (.int .i64 n)) :
  Go.Proofs.PredOver Try.prog 81 #[.pointer (some ⟨B,0,none⟩)] (Value.int .i64) (fun x=>x == n) blk off size w :=
 fun m os dk x _=>del1_calls x n B _ (by
  unfold Go.Proofs.sortWorld
  rw [Go.Sort.cell?_grow _ _ _ (by show B < (Go.Sort.putRow _ _ _ _ _).heap.size;rw [Go.Sort.size_putRow];exact hB),Go.Sort.cell?_putRow_other _ _ blk off _ _ (Or.inl hne)]
  exact hcell)
set_option maxHeartbeats 4000000 in
set_option maxRecDepth 100000 in
theorem del_nil (fv:Value) (w:World):Calls Try.prog 80 #[.slice none 0 0,fv] w fun e w'=>e=.returned (.slice none 0 0)∧w'=w:=by
 go_enter Try.func80,Try.ntmps80
 go_wp2_with (go_at_call 82;refine (Try.slices_IndexFunc_empty (α:=Int) none 0 fv _).mono ?_;rintro e w' ⟨rfl,rfl⟩)
 go_ret
 exact ⟨rfl,rfl⟩
theorem upd_putRow {α:Type} [Inhabited α] {enc:α→Value} (w:World) (g q:Nat) (d:Array α):Upd w (Go.Sort.putRow enc (Go.Sort.ahead w q) g 0 d) (fun k=>k=g) :=
 ⟨rfl,rfl,rfl,by simp [Go.Sort.putRow,Go.Sort.mapBlock,Go.Sort.ahead],fun k hk hne=>by
  simp [Go.Sort.putRow,Go.Sort.mapBlock,Go.Sort.ahead,Array.getElem?_modify,show g ≠ k from fun e=>hne e.symm]⟩
theorem eg37:∀ args w,(callFunc 81 args).run Try.prog w=.ok (.enter 81 args) w:=Go.Proofs.enters_of Try.func81 (by kernel_rfl) rfl
def delRes (v:Value) (l:List Int) (base:Nat) (w:World) (e:Ending) (w':World):Prop :=
 ∃ A' c',e=.returned (.slice A' l.length c')∧l.length≤c'∧w'.ownsRow base 3 1 (.slice A' l.length c') l.length (encs (Value.int .i64) l)∧Upd w w' (fun k=>some k=v.ownBlock)
theorem delete_calls (A:Option Addr) (c:Nat) (l:List Int) (x:Int) (base B:Nat) (w:World) (hbig:l.length≤1000000) (ho:w.ownsRow base 3 1 (.slice A l.length c) l.length (encs (Value.int .i64) l))
  (hB:w.heap[B]?=some (.cells #[.int .i64 x] 3 (0,0))) (hne:some B ≠ (Value.slice A l.length c).ownBlock) :
  Calls Try.prog 80 #[.slice A l.length c,.func (.func 81) #[] #[.pointer (some ⟨B,0,none⟩)]] w (delRes (.slice A l.length c) (delS x l) base w):=by
 rcases ho.2 with ⟨hv,h0⟩ | ⟨g0,_,_,hv,_⟩
 ·injection hv with hA _ hc
  subst hA hc
  obtain rfl:=List.eq_nil_of_length_eq_zero h0
  refine (del_nil _ w).mono ?_
  rintro e w' ⟨rfl,rfl⟩
  exact ⟨none,0,rfl,Nat.le_refl _,own_nil _ _ _ _,Upd.refl _ _⟩
 ·obtain ⟨g,cap,hv2,hg,hlt,hn,hm,-,hH⟩:=Go.Lib.holds_of_ownsRow (zs:=l) ho (by rw [hv];intro h;cases h)
  injection hv2 with hA _ hc
  subst hA hc
  have hc0:w.cell? ⟨B,0,none⟩=some (.int .i64 x):=(bkc hB 0).trans rfl
  have hBg:B ≠ g:=fun e=>hne (by rw [e];rfl)
  have C:=Try.slices_DeleteFunc (α:=Int) (Value.int .i64) (fun _=>rfl) (fun a=>a == x) 81 #[.pointer (some ⟨B,0,none⟩)] eg37 0 Try.zeroValue3 g 0 c l.toArray w (del_at x B w (blk_lt hB) hc0) (del_over x B g 0 _ w (blk_lt hB) hBg hc0) hH (by simp;omega) (by simpa using hn)
  simp only [List.size_toArray] at C
  refine C.mono ?_
  rintro e w' ⟨rfl,q,rfl⟩
  have hle:(delS x l).length≤l.length:=List.length_filter_le _ _
  have e1:(delS x l ++ List.replicate (l.length - (delS x l).length) (0:Int)).take (delS x l).length=delS x l:=by rw [List.take_append_of_le_length (Nat.le_refl _),List.take_of_length_le (Nat.le_refl _)]
  have o:=Go.Lib.ownsRow_putRow (q:=q) (k:=(delS x l).length) (ys:=delS x l ++ List.replicate (l.length - (delS x l).length) (0:Int)) ho (by rw [List.length_append,List.length_replicate];omega) hle
  rw [e1] at o
  exact ⟨_,_,rfl,Nat.le_trans hle hn,o,(upd_putRow w g q _).mono fun k hk=>by rw [hk];rfl⟩
end Go.Proofs.Ytkgbhlcbjflnlaa.Fl
