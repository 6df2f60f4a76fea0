/- Commands and settings: contracts by hand, and the laws over them. -/
import Derived.Test.YtkgbhlcbjflnlaaZOwn
import Derived.Test.YtkgbhlcbjflnlaaZFV
import Derived.Test.YtkgbhlcbjflnlaaZShelf
import Derived.Test.YtkgbhlcbjflnlaaZPart
namespace Go.Proofs.Ytkgbhlcbjflnlaa.Fl
open Go Go.RowKit Go.Proofs.YtkgbhlcbjflnlaaW.PrintWords Go.Proofs.YtkgbhlcbjflnlaaW.PrintLast Go.Proofs.YtkgbhlcbjflnlaaW.PrintMore Go.Proofs.Ytkgbhlcbjflnlaa.Mth Go.Proofs.Ytkgbhlcbjflnlaa.P Go.Proofs.Ytkgbhlcbjflnlaa.Own Go.Proofs
set_option linter.unusedVariables false
set_option linter.unusedSimpArgs false
/-! ### Are all queues below -/
set_option maxHeartbeats 4000000 in
set_option maxRecDepth 100000 in
theorem ge_calls (x n:Int) (B:Nat) (W:World) (hc:W.cell? ⟨B,0,none⟩=some (.int .i64 n)) :
  Calls Try.prog 72 #[.int .i64 x,.pointer (some ⟨B,0,none⟩)] W fun e w'=>e=.returned (.bool (decide (x ≥ n)))∧∃ q,w'=W.drewN q:=by
 go_enter Try.func72,Try.ntmps72
 go_wp2
 go_ret
 exact ⟨rfl,0,rfl⟩
theorem ge_at (n:Int) (B:Nat) (w:World) (hB:B < w.heap.size) (hcell:w.cell? ⟨B,0,none⟩=some (.int .i64 n)) :
  Go.Proofs.PredAt Try.prog 72 #[.pointer (some ⟨B,0,none⟩)] (Value.int .i64) (fun x=>decide (x ≥ n)) w :=
 fun W x hb=>ge_calls x n B W ((hb.cell (p:=⟨B,0,none⟩) hB).trans hcell)
theorem eg72:∀ args w,(callFunc 72 args).run Try.prog w=.ok (.enter 72 args) w:=Go.Proofs.enters_of Try.func72 (by kernel_rfl) rfl
theorem any_calls (A:Option Addr) (c:Nat) (l:List Int) (n:Int) (B:Nat) (w:World) (hr:ReadsOf (Value.int .i64) 0 w A l.length l) (hb:l.length≤1000000) (hB:B < w.heap.size) (hcell:w.cell? ⟨B,0,none⟩=some (.int .i64 n)) :
  Calls Try.prog 71 #[.slice A l.length c,.func (.func 72) #[] #[.pointer (some ⟨B,0,none⟩)]] w fun e w'=>e=.returned (.bool (l.any (fun x=>decide (x ≥ n))))∧Below w.heap.size w w':=by
 rcases Nat.eq_zero_or_pos l.length with h0 | h0
 ·obtain rfl:=List.eq_nil_of_length_eq_zero h0
  refine (Try.slices_ContainsFunc_empty (α:=Int) A c _ w).mono ?_
  rintro e w' ⟨rfl,rfl⟩
  exact ⟨rfl,Below.refl _ _⟩
 ·obtain ⟨b,o,rfl,hc⟩:=reads_plain hr h0
  refine (Try.slices_ContainsFunc (Value.int .i64) (fun x=>decide (x ≥ n)) 72 #[.pointer (some ⟨B,0,none⟩)] eg72 b o l.length c l w (ge_at n B w hB hcell) (Nat.le_refl _) (by omega) (fun j hj=>by
   rw [hc j hj]
   simp [List.getD_eq_getElem?_getD,hj])).mono ?_
  rintro e w' ⟨rfl,q,rfl⟩
  rw [List.take_of_length_le (Nat.le_refl _)]
  exact ⟨rfl,pwd (Below.refl _ _) q⟩
def belowS (df n:Int) (tab:List Int):Bool:=decide (df < n) && !(tab.any (fun x=>decide (x ≥ n)))
set_option maxHeartbeats 8000000 in
set_option maxRecDepth 100000 in
theorem below_c (kn:Int) (A:Option Addr) (c:Nat) (tab:List Int) (key:ByteArray) (df n:Int) (w:World) (hr:ReadsOf (Value.int .i64) 0 w A tab.length tab) (hb:tab.length≤1000000) :
  Calls Try.prog 58 #[.agg #[.int .i64 kn,.slice A tab.length c,.string key,.int .i64 df],.int .i64 n] w fun e w'=>e=.returned (.bool (belowS df n tab))∧Below w.heap.size w w':=by
 unfold belowS
 have HR:=amk hr
 clear hr
 have hu27:=Try.underlying27
 cases ht:decide (df < n)
 ·go_enter Try.func58,Try.ntmps58
  go_wp2
  go_ret
  exact ⟨rfl,bwa (bwa (Below.refl _ _) _) _⟩
 ·go_enter Try.func58,Try.ntmps58
  go_wp2_with fail
  refine (any_calls A c tab n (w.heap.size+1) _ ((HR.out.below (bwa (Below.refl _ _) _)).below (bwa (Below.refl _ _) _)) hb (by simp) (by
   have h:=blk_new (w.alloc (.cells #[.int .i64 kn,.slice A tab.length c,.string key,.int .i64 df] 27)) (.cells #[.int .i64 n] 3)
   rw [show (w.alloc (.cells #[.int .i64 kn,.slice A tab.length c,.string key,.int .i64 df] 27)).heap.size=w.heap.size+1 by simp] at h
   exact (bkc h 0).trans rfl)).mono ?_
  rintro e w' ⟨rfl,hb2⟩
  go_wp2
  go_ret
  exact ⟨rfl,bws (bwa (bwa (Below.refl _ _) _) _) hb2⟩
end Go.Proofs.Ytkgbhlcbjflnlaa.Fl
