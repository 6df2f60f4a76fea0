/- Commands and settings: contracts by hand, and the laws over them. -/
import Derived.Test.YtkgbhlcbjflnlaaZG1
import Derived.Test.YtkgbhlcbjflnlaaZG8
import Derived.Test.YtkgbhlcbjflnlaaZPx5
import Derived.Test.YtkgbhlcbjflnlaaZPx15
import Derived.Test.YtkgbhlcbjflnlaaZCop
import Derived.Test.YtkgbhlcbjflnlaaZRx
import Derived.Test.YtkgbhlcbjflnlaaZNts
import Derived.Test.YtkgbhlcbjflnlaaZG19
import Derived.Test.YtkgbhlcbjflnlaaZG20
section
namespace Go.Proofs.Ytkgbhlcbjflnlaa.Fl
open Go Go.RowKit Go.Proofs.YtkgbhlcbjflnlaaW.PrintWords Go.Proofs.YtkgbhlcbjflnlaaW.PrintLast Go.Proofs.YtkgbhlcbjflnlaaW.PrintMore Go.Proofs.Ytkgbhlcbjflnlaa.Mth Go.Proofs.Ytkgbhlcbjflnlaa.P Go.Proofs.Ytkgbhlcbjflnlaa.Own Go.Proofs
set_option linter.unusedVariables false
set_option linter.unusedSimpArgs false
/-! ### Which rules may be -/
def qOK (q:Int):Bool:=decide (0≤q) && decide (q≤7)
def headS (kn:Int) (n:Nat) (key:ByteArray) (df:Int):Bool :=
 (n == 1 || n == 2 || n == 4 || n == 8 || n == 16 || n == 32 || n == 64 || n == 128) && decide (0≤kn) && decide (kn≤126) && decide (kn % 2=0) && decide (4≤key.size) && decide (key.size≤52) && decide (0≤df) && decide (df≤7)
def rssS (kn:Int) (tab:List Int) (key:ByteArray) (df:Int):Int:=if (headS kn tab.length key df && tab.all qOK)=true then 0 else 110
theorem rd_at (l:List Int) (i:Nat) (h:i < l.length):rd l (i:Int)=l[i]:=by
 unfold rd
 simp [h]
theorem all_drop (l:List Int) (i:Nat) (h:i < l.length):(l.drop i).all qOK=(qOK l[i] && (l.drop (i+1)).all qOK):=by
 rw [List.drop_eq_getElem_cons h,List.all_cons]
theorem rss_l0 (l:List Int) (hl:l.length≤1000000):∀ (d i k:Nat),i≤l.length→l.length - i=d→d < k→rss_Check.l0 k l (l.length:Int) (i:Int)=some (if (l.drop i).all qOK=true then 0 else 110):=by
 intro d
 induction d with
 | zero =>
  intro i k hi hd hk
  obtain ⟨k,rfl⟩:∃ m,k=m+1:=⟨k - 1,by omega⟩
  rw [rss_Check.l0,if_neg (by omega),List.drop_of_length_le (by omega)]
  rfl
 | succ d ih =>
  intro i k hi hd hk
  obtain ⟨k,rfl⟩:∃ m,k=m+1:=⟨k - 1,by omega⟩
  have hlt:i < l.length:=by omega
  rw [rss_Check.l0,if_pos (by omega),if_pos (by omega),if_pos (by omega),rd_at l i hlt,all_drop l i hlt]
  have e:wrap64 ((i:Int)+1)=((i+1:Nat):Int):=w64 _ _ (by omega) (by omega) (by omega)
  rw [e,ih (i+1) k (by omega) (by omega) (by omega)]
  unfold qOK
  by_cases h1:l[i] < 0
  ·rw [if_pos h1,decide_eq_false (show ¬ 0≤l[i] by omega),Bool.false_and,Bool.false_and,if_neg (by decide)]
  ·rw [if_neg h1,decide_eq_true (show 0≤l[i] by omega),Bool.true_and]
   by_cases h2:l[i] ≥ 8
   ·rw [if_pos h2,decide_eq_false (show ¬ l[i]≤7 by omega),Bool.false_and,if_neg (by decide)]
   ·rw [if_neg h2,decide_eq_true (show l[i]≤7 by omega),Bool.true_and]
theorem pow2_tab:∀ n:Fin 129,1≤n.1→((n.1 &&& (n.1 - 1)=0) ↔ ((n.1 == 1 || n.1 == 2 || n.1 == 4 || n.1 == 8 || n.1 == 16 || n.1 == 32 || n.1 == 64 || n.1 == 128)=true)):=by decide
theorem kinds_tab:∀ n:Fin 128,(n.1 - (n.1 &&& 126)=0) ↔ (n.1≤126∧n.1 % 2=0):=by decide
theorem kinds_iff (n:Nat) (h:n < 9223372036854775808):Go.bits .andNot .i64 (n:Int) 126=0 ↔ (n≤126∧n % 2=0):=by
 have e:=andNot_i64 n 126 h (by decide)
 rw [show ((126:Nat):Int)=126 from rfl] at e
 rw [e]
 by_cases hn:n < 128
 ·have:=kinds_tab ⟨n,hn⟩
  simp only at this
  omega
 ·have:n &&& 126≤126:=Nat.and_le_right
  omega
theorem pow2_iff (n:Nat) (h1:1≤n) (h2:n≤128):Go.bits .and .i64 (n:Int) (wrap64 ((n:Int) - 1))=0 ↔ ((n == 1 || n == 2 || n == 4 || n == 8 || n == 16 || n == 32 || n == 64 || n == 128)=true):=by
 have e:wrap64 ((n:Int) - 1)=((n - 1:Nat):Int):=w64 _ _ (by omega) (by omega) (by omega)
 rw [e,(bits_nat_i64 n (n - 1) (by omega) (by omega)).1]
 have:=pow2_tab ⟨n,by omega⟩ h1
 rw [Int.natCast_eq_zero]
 exact this
theorem rss_spec (kn:Nat) (tab:List Int) (key:ByteArray) (df:Int) (hk:kn < 9223372036854775808) (hl:tab.length≤1000000) :
  rss_Check.f (tab.length+10) (kn:Int) tab key df=some (rssS kn tab key df):=by
 have J:∀ b,rss_Check.j0 (tab.length+10) b kn tab key df=some (if (!b && tab.all qOK)=true then 0 else 110):=by
  intro b
  rw [rss_Check.j0]
  cases b
  ·rw [if_neg Bool.false_ne_true]
   have:=rss_l0 tab hl tab.length 0 (tab.length+9) (by omega) (by omega) (by omega)
   rw [List.drop_zero] at this
   exact this
  ·rw [if_pos rfl];rfl
 have H:∀ b,headS kn tab.length key df = !b→some (if (!b && tab.all qOK)=true then (0:Int) else 110)=some (rssS kn tab key df):=by
  intro b hb
  unfold rssS
  rw [hb]
 unfold rss_Check.f
 simp only [J]
 by_cases h1:kn≤126∧kn % 2=0
 ·rw [if_pos ((kinds_iff kn hk).2 h1)]
  by_cases h2:(tab.length:Int) < 1
  ·rw [if_pos h2];exact H true (by unfold headS;rw [show tab.length=0 by omega];rfl)
  rw [if_neg h2]
  by_cases h3:(tab.length:Int) > 128
  ·rw [if_pos h3];refine H true ?_;unfold headS
   rw [show (tab.length == 1 || tab.length == 2 || tab.length == 4 || tab.length == 8 || tab.length == 16 || tab.length == 32 || tab.length == 64 || tab.length == 128)=false by simp;omega]
   simp
  rw [if_neg h3]
  have hp:=pow2_iff tab.length (by omega) (by omega)
  by_cases h4:Go.bits .and .i64 (tab.length:Int) (wrap64 ((tab.length:Int) - 1))=0
  ·rw [if_pos h4]
   have h4':=hp.1 h4
   have HH:headS kn tab.length key df=(decide (4≤key.size) && decide (key.size≤52) && decide (0≤df) && decide (df≤7)):=by
    unfold headS
    rw [h4',decide_eq_true (show (0:Int)≤(kn:Int) by omega),decide_eq_true (show (kn:Int)≤126 by omega),decide_eq_true (show (kn:Int) % 2=0 by omega)]
    rfl
   by_cases h5:(key.size:Int) < 4
   ·rw [if_pos h5];exact H true (by rw [HH,decide_eq_false (show ¬ 4≤key.size by omega)];rfl)
   rw [if_neg h5]
   by_cases h6:(key.size:Int) > 52
   ·rw [if_pos h6];exact H true (by rw [HH,decide_eq_false (show ¬ key.size≤52 by omega)];simp)
   rw [if_neg h6]
   by_cases h7:df < 0
   ·rw [if_pos h7];exact H true (by rw [HH,decide_eq_false (show ¬ 0≤df by omega)];simp)
   rw [if_neg h7]
   refine H _ ?_
   rw [HH,decide_eq_true (show 4≤key.size by omega),decide_eq_true (show key.size≤52 by omega),decide_eq_true (show 0≤df by omega)]
   by_cases h8:df ≥ 8
   ·rw [decide_eq_true h8,decide_eq_false (show ¬ df≤7 by omega)];rfl
   ·rw [decide_eq_false h8,decide_eq_true (show df≤7 by omega)];rfl
  ·rw [if_neg h4];refine H true ?_;unfold headS
   rw [Bool.eq_false_iff.2 (fun h=>h4 (hp.2 h))]
   simp
 ·rw [if_neg (fun h=>h1 ((kinds_iff kn hk).1 h))]
  refine H true ?_
  unfold headS
  by_cases hk1:kn≤126
  ·rw [decide_eq_false (show ¬ (kn:Int) % 2=0 by omega)];simp
  ·rw [decide_eq_false (show ¬ (kn:Int)≤126 by omega)];simp
theorem rssc_c (kn:Nat) (A:Option Addr) (c:Nat) (tab:List Int) (key:ByteArray) (df:Int) (w:World) (hk:kn < 9223372036854775808) (hr:ReadsOf (Value.int .i64) 0 w A tab.length tab) (hc:tab.length≤c) (hl:tab.length≤1000000) :
  Calls Try.prog 57 #[.agg #[.int .i64 kn,.slice A tab.length c,.string key,.int .i64 df]] w fun e w'=>e=.returned (.int .i64 (rssS kn tab key df))∧Below w.heap.size w w' :=
 rss_Check.calls _ kn A c tab key df _ w (Kd.C_of_reads hr) hc (rss_spec kn tab key df hk hl)
/-! ### The reference's -/
theorem r11_l1 (kn:Int) (l:List Int) (key:ByteArray) (df:Int) (hl:l.length≤1000000):∀ (d i k:Nat) (b:Bool),i≤l.length→l.length - i=d→d < k→aqueductref11_Check.l1 k b (i:Int) kn l key df=some (if (b && (l.drop i).all qOK)=true then 0 else 110):=by
 intro d
 induction d with
 | zero =>
  intro i k b hi hd hk
  obtain ⟨k,rfl⟩:∃ m,k=m+1:=⟨k - 1,by omega⟩
  rw [aqueductref11_Check.l1,if_neg (by omega),List.drop_of_length_le (by omega)]
  cases b <;> rfl
 | succ d ih =>
  intro i k b hi hd hk
  obtain ⟨k,rfl⟩:∃ m,k=m+1:=⟨k - 1,by omega⟩
  have hlt:i < l.length:=by omega
  have e:wrap64 ((i:Int)+1)=((i+1:Nat):Int):=w64 _ _ (by omega) (by omega) (by omega)
  rw [aqueductref11_Check.l1,if_pos (by omega),rd_at l i hlt,all_drop l i hlt,e,ih (i+1) k _ (by omega) (by omega) (by omega),ih (i+1) k _ (by omega) (by omega) (by omega)]
  cases b
  ·rw [if_neg Bool.false_ne_true];rfl
  ·rw [if_pos rfl,if_pos (by omega),Bool.true_and]
   unfold qOK
   by_cases h1:l[i] ≥ 0
   ·rw [if_pos h1,decide_eq_true (show 0≤l[i] from h1),Bool.true_and]
   ·rw [if_neg h1,decide_eq_false (show ¬ 0≤l[i] from h1)];rfl
theorem r11_step (k:Nat) (b:Bool) (n m:Int) (kn:Int) (l:List Int) (key:ByteArray) (df:Int) (hn:n≤128) (hm:wrap64 (n * 2)=m) :
  aqueductref11_Check.l0 (k+1) b n kn l key df=aqueductref11_Check.l0 k (b || ((l.length:Int) == n)) m kn l key df:=by
 rw [aqueductref11_Check.l0,if_pos hn,hm]
 cases b
 ·rw [if_neg Bool.false_ne_true];rfl
 ·rw [if_pos rfl];rfl
theorem r11_spec (kn:Int) (tab:List Int) (key:ByteArray) (df:Int) (hl:tab.length≤1000000):aqueductref11_Check.f (tab.length+20) kn tab key df=some (rssS kn tab key df):=by
 have J:∀ b,aqueductref11_Check.j1 (tab.length+11) b kn tab key df=some (if (b && tab.all qOK)=true then 0 else 110):=by
  intro b
  rw [aqueductref11_Check.j1]
  have:=r11_l1 kn tab key df hl tab.length 0 (tab.length+10) b (by omega) (by omega) (by omega)
  rw [List.drop_zero] at this
  exact this
 unfold aqueductref11_Check.f
 rw [r11_step _ _ 1 2 _ _ _ _ (by decide) (w64 _ _ (by decide) (by decide) (by decide)),r11_step _ _ 2 4 _ _ _ _ (by decide) (w64 _ _ (by decide) (by decide) (by decide)),r11_step _ _ 4 8 _ _ _ _ (by decide) (w64 _ _ (by decide) (by decide) (by decide)),r11_step _ _ 8 16 _ _ _ _ (by decide) (w64 _ _ (by decide) (by decide) (by decide)),
  r11_step _ _ 16 32 _ _ _ _ (by decide) (w64 _ _ (by decide) (by decide) (by decide)),r11_step _ _ 32 64 _ _ _ _ (by decide) (w64 _ _ (by decide) (by decide) (by decide)),r11_step _ _ 64 128 _ _ _ _ (by decide) (w64 _ _ (by decide) (by decide) (by decide)),r11_step _ _ 128 256 _ _ _ _ (by decide) (w64 _ _ (by decide) (by decide) (by decide))]
 rw [aqueductref11_Check.l0,if_neg (by decide)]
 simp only [J]
 have cast:∀ m:Nat,(((tab.length:Int) == (m:Int)))=(tab.length == m):=fun m=>by
  by_cases h:tab.length=m
  ·rw [beq_iff_eq.2 h,beq_iff_eq.2 (by rw [h])]
  ·rw [beq_eq_false_iff_ne.2 h,beq_eq_false_iff_ne.2 (fun e=>h (by omega))]
 have c1:=cast 1
 have c2:=cast 2
 have c4:=cast 4
 have c8:=cast 8
 have c16:=cast 16
 have c32:=cast 32
 have c64:=cast 64
 have c128:=cast 128
 rw [show ((1:Nat):Int)=1 from rfl] at c1
 rw [show ((2:Nat):Int)=2 from rfl] at c2
 rw [show ((4:Nat):Int)=4 from rfl] at c4
 rw [show ((8:Nat):Int)=8 from rfl] at c8
 rw [show ((16:Nat):Int)=16 from rfl] at c16
 rw [show ((32:Nat):Int)=32 from rfl] at c32
 rw [show ((64:Nat):Int)=64 from rfl] at c64
 rw [show ((128:Nat):Int)=128 from rfl] at c128
 rw [c1,c2,c4,c8,c16,c32,c64,c128,Bool.false_or]
 unfold rssS headS
 have tm:∀ h:0≤kn,Int.tmod kn 2=kn % 2:=fun h=>Int.tmod_eq_emod_of_nonneg h
 cases (tab.length == 1 || tab.length == 2 || tab.length == 4 || tab.length == 8 || tab.length == 16 || tab.length == 32 || tab.length == 64 || tab.length == 128)
 ·rw [if_neg Bool.false_ne_true];rfl
 rw [if_pos rfl,Bool.true_and]
 by_cases h1:kn ≥ 0
 ·rw [if_pos h1,decide_eq_true (show 0≤kn from h1),Bool.true_and,tm h1]
  by_cases h2:kn≤126
  ·rw [if_pos h2,decide_eq_true h2,Bool.true_and]
   by_cases h3:kn % 2=0
   ·rw [if_pos h3,decide_eq_true h3,Bool.true_and]
    by_cases h4:4≤key.size
    ·rw [if_pos (show (key.size:Int) ≥ 4 by omega),decide_eq_true h4,Bool.true_and]
     by_cases h5:key.size≤52
     ·rw [if_pos (show (key.size:Int)≤52 by omega),decide_eq_true h5,Bool.true_and]
      by_cases h6:df ≥ 0
      ·rw [if_pos h6,decide_eq_true (show 0≤df from h6),Bool.true_and]
      ·rw [if_neg h6,decide_eq_false (show ¬ 0≤df from h6)];rfl
     ·rw [if_neg (show ¬ (key.size:Int)≤52 by omega),decide_eq_false h5];rfl
    ·rw [if_neg (show ¬ (key.size:Int) ≥ 4 by omega),decide_eq_false h4];rfl
   ·rw [if_neg h3,decide_eq_false h3];rfl
  ·rw [if_neg h2,decide_eq_false h2];rfl
 ·rw [if_neg h1,decide_eq_false (show ¬ 0≤kn from h1)];rfl
theorem r11_c (kn:Int) (A:Option Addr) (c:Nat) (tab:List Int) (key:ByteArray) (df:Int) (w:World) (hr:ReadsOf (Value.int .i64) 0 w A tab.length tab) (hc:tab.length≤c) (hl:tab.length≤1000000) :
  Calls Try.prog 24 #[.agg #[.int .i64 kn,.slice A tab.length c,.string key,.int .i64 df]] w fun e w'=>e=.returned (.int .i64 (rssS kn tab key df))∧Below w.heap.size w w' :=
 aqueductref11_Check.calls _ kn A c tab key df _ w (Kd.C_of_reads hr) hc (r11_spec kn tab key df hl)
end Go.Proofs.Ytkgbhlcbjflnlaa.Fl
end
section
/- Commands and settings: contracts by hand, and the laws over them. -/
namespace Go.Proofs.Ytkgbhlcbjflnlaa.Fl
open Go Go.RowKit Go.Proofs.YtkgbhlcbjflnlaaW.PrintWords Go.Proofs.YtkgbhlcbjflnlaaW.PrintLast Go.Proofs.YtkgbhlcbjflnlaaW.PrintMore Go.Proofs.Ytkgbhlcbjflnlaa.Mth Go.Proofs.Ytkgbhlcbjflnlaa.P Go.Proofs.Ytkgbhlcbjflnlaa.Own Go.Proofs
set_option linter.unusedVariables false
set_option linter.unusedSimpArgs false
/-! ### What a command does to settings -/
theorem num1_c (g:Nat) (r:RS) (v:Int) (r':RS) (h:numS r 1=(v,r')) (w:World) (hI:w.heap[g]?=RdB r) :
  Calls Try.prog 51 #[.pointer (some ⟨g,0,none⟩),.int .i64 1] w fun e w'=>e=.returned (.int .i64 v)∧w'.heap[g]?=RdB r'∧Upd w w' (fun k=>k=g):=by
 have q:=num_c g r 1 w (by decide) (by decide) hI
 rw [h] at q
 exact q
theorem num2_c (g:Nat) (r:RS) (v:Int) (r':RS) (h:numS r 2=(v,r')) (w:World) (hI:w.heap[g]?=RdB r) :
  Calls Try.prog 51 #[.pointer (some ⟨g,0,none⟩),.int .i64 2] w fun e w'=>e=.returned (.int .i64 v)∧w'.heap[g]?=RdB r'∧Upd w w' (fun k=>k=g):=by
 have q:=num_c g r 2 w (by decide) (by decide) hI
 rw [h] at q
 exact q
theorem take6_c (g:Nat) (r:RS) (v:ByteArray) (r':RS) (h:takeS r 6=(v,r')) (w:World) (hI:w.heap[g]?=RdB r) :
  Calls Try.prog 54 #[.pointer (some ⟨g,0,none⟩),.int .i64 6] w fun e w'=>e=.returned (.string v)∧w'.heap[g]?=RdB r'∧Upd w w' (fun k=>k=g):=by
 have q:=take_c g r 6 w hI
 rw [h] at q
 exact q
theorem taken_c (g:Nat) (r:RS) (n:Int) (h0:0≤n) (v:ByteArray) (r':RS) (h:takeS r n.toNat=(v,r')) (w:World) (hI:w.heap[g]?=RdB r) :
  Calls Try.prog 54 #[.pointer (some ⟨g,0,none⟩),.int .i64 n] w fun e w'=>e=.returned (.string v)∧w'.heap[g]?=RdB r'∧Upd w w' (fun k=>k=g):=by
 have q:=take_c g r n.toNat w hI
 rw [h,Int.toNat_of_nonneg h0] at q
 exact q
theorem macs2_c (g:Nat) (r:RS) (l:List ByteArray) (r':RS) (h:macsS r=(l,r')) (w:World) (hI:w.heap[g]?=RdB r) :
  Calls Try.prog 53 #[.pointer (some ⟨g,0,none⟩)] w fun e w'=>∃ A c,e=.returned (.slice A l.length c)∧w'.ownsRow w.heap.size 9 1 (.slice A l.length c) l.length (encs Value.string l)∧w'.heap[g]?=RdB r'∧Upd w w' (fun k=>k=g):=by
 have q:=macs_c g r w hI
 rw [h] at q
 exact q
theorem rules2_c (g:Nat) (r:RS) (u:Ru) (h:rulesS r=u) (w:World) (hI:w.heap[g]?=RdB r) :
  Calls Try.prog 56 #[.pointer (some ⟨g,0,none⟩)] w fun e w'=>∃ A c,e=.returned (.agg #[.int .i64 u.kn,.slice A u.tab.length c,.string ⟨#[]⟩,.int .i64 u.df])∧w'.ownsRow w.heap.size 3 1 (.slice A u.tab.length c) u.tab.length (encs (Value.int .i64) u.tab)∧w'.heap[g]?=RdB u.r∧Upd w w' (fun k=>k=g):=by
 subst h
 exact rules_c g r w hI
theorem rx2_c (F F':Flt) (S:Sl) (cmd on:Int) (ok:Bool) (h:rxS F cmd on=(F',ok)) (w:World):Calls Try.prog 52 #[.agg (cellsF F S),.int .i64 cmd,.int .i64 on] w fun e w'=>e=.returned (.tuple #[.agg (cellsF F' S),.bool ok])∧Below w.heap.size w w':=by
 have q:=rx_c F S cmd on w
 rw [h] at q
 exact q
theorem nets2_c (F F':Flt) (S:Sl) (cmd v:Int) (ok:Bool) (hn:netS F cmd v=(F',ok)) (w:World) (h:FV w F S) (hs:Small F):Calls Try.prog 55 #[.agg (cellsF F S),.int .i64 cmd,.int .i64 v] w fun e w'=>∃ S',e=.returned (.tuple #[.agg (cellsF F' S'),.bool ok])∧((S'=S∧F'=F)∨OV w.heap.size w' F' S')∧Below w.heap.size w w':=by
 have q:=nets_c F S cmd v w h hs
 rw [hn] at q
 exact q
theorem rx_ov {base:Nat} {w:World} {F F':Flt} {S:Sl} {cmd on:Int} {ok:Bool} (e:rxS F cmd on=(F',ok)) (h:OV base w F S):OV base w F' S:=by
 obtain rfl:(rxS F cmd on).1=F':=by rw [e]
 unfold rxS
 repeat' split
 all_goals exact ⟨h.o7,h.o8,h.o10⟩
def onS (C:Cfg) (cl:Int):Cfg:={ C with on:=C.on && (cl != 4) }
/-- A command of pairs, ahead of the last test. -/
def pairS (C:Cfg) (cmd:Int) (r:RS):Cfg × Bool × RS :=
 if cmd=0 then ({ C with p:=(numS r 2).1 },true,(numS r 2).2) else
 if cmd=1 then
  (let u:=rulesS r
   let p:=numS u.r 2
   let n:=numS p.2 1
   let t:=takeS n.2 n.1.toNat
   ({ C with kn:=u.kn,tab:=u.tab,df:=u.df,key:=t.1,on:=true,p:=p.1 },rssS u.kn u.tab t.1 u.df == 0 && belowS u.df C.mx u.tab,t.2))
 else (C,false,r)
def swS (C:Cfg) (cl cmd:Int) (r:RS):Cfg × Bool × RS :=
 if cl=0 then ({ C with F:=(rxS C.F cmd (numS r 1).1).1 },(rxS C.F cmd (numS r 1).1).2,(numS r 1).2) else
 if cl=1 then
  (if cmd=0 then ({ C with F:={ C.F with us:=(macsS r).1,ms:=(macsS (macsS r).2).1 } },true,(macsS (macsS r).2).2) else
   if cmd=1 then ({ C with F:={ C.F with m:=(takeS r 6).1 } },true,(takeS r 6).2) else (C,false,r)) else
 if cl=2 then ({ C with F:=(netS C.F cmd (numS r 2).1).1 },(netS C.F cmd (numS r 2).1).2,(numS r 2).2) else
 if cl=4 then ((pairS C cmd r).1,(pairS C cmd r).2.1 && decide ((pairS C cmd r).1.p ≥ 1) && decide ((pairS C cmd r).1.p≤(pairS C cmd r).1.mx),(pairS C cmd r).2.2)
 else (C,false,r)
def doneS (s:Cfg × Bool × RS):Cfg × Bool:=(s.1,s.2.1 && !s.2.2.2 && s.2.2.1.toList.isEmpty)
def doesS (C:Cfg) (r:RS):Cfg × Bool :=
 doneS (swS (onS C (numS r 1).1) (numS r 1).1 (numS (numS r 1).2 1).1 (numS (numS r 1).2 1).2)
/-- What holds while a command is done. -/
structure DoesI (W0:World) (g g1 g2:Nat) (C:Cfg) (S:SlC) (r:RS) (W:World):Prop where
 b:Below W0.heap.size W0 W
 kg:W.heap[g]?=RdB r
 k1:W.heap[g1]?=some (.cells (cellsC C S) 29 (0,0))
 k2:W.heap[g2]?=some (.cells zeroC 29 (0,0))
 o:OC W0.heap.size W C S
/-- Where its blocks lie. -/
structure DoesG (W0:World) (g g1 g2:Nat):Prop where
 p0:W0.heap.size≤g
 p1:g < g1
 p2:g1 < g2
section
variable {W0 W W':World} {g g1 g2:Nat} {C C':Cfg} {S S':SlC} {r r':RS}
theorem DoesI.drew (h:DoesI W0 g g1 g2 C S r W):DoesI W0 g g1 g2 C S r W.drew:=⟨bwd h.b,h.kg,h.k1,h.k2,h.o.below (bwd (Below.refl _ _))⟩
theorem DoesI.below (h:DoesI W0 g g1 g2 C S r W) (hb:Below W.heap.size W W'):DoesI W0 g g1 g2 C S r W':=⟨bws h.b hb,bkb h.kg hb,bkb h.k1 hb,bkb h.k2 hb,h.o.below hb⟩
theorem DoesI.rd (h:DoesI W0 g g1 g2 C S r W) (G:DoesG W0 g g1 g2) (hi:W'.heap[g]?=RdB r') (hu:Upd W W' (fun k=>k=g)):DoesI W0 g g1 g2 C S r' W':=by
 have a0:=G.p0
 have a1:=G.p1
 have a2:=G.p2
 exact ⟨h.b.trans (hu.toBelow (B:=W0.heap.size) (fun k hk=>by rw [hk];exact a0) h.b.size),hi,hu.blk h.k1 (by omega),hu.blk h.k2 (by omega),h.o.boxT h.kg (by decide) (by decide) hu⟩
theorem DoesI.upd (h:DoesI W0 g g1 g2 C S r W) (G:DoesG W0 g g1 g2) (hk:W'.heap[g1]?=some (.cells (cellsC C' S') 29 (0,0))) (hu:Upd W W' (fun k=>k=g1)) (ho:OC W0.heap.size W' C' S'):DoesI W0 g g1 g2 C' S' r W':=by
 have a0:=G.p0
 have a1:=G.p1
 have a2:=G.p2
 exact ⟨h.b.trans (hu.toBelow (B:=W0.heap.size) (fun k hk=>by rw [hk];omega) h.b.size),hu.blk h.kg (by omega),hk,hu.blk h.k2 (by omega),ho⟩
theorem DoesI.put (h:DoesI W0 g g1 g2 C S r W) (G:DoesG W0 g g1 g2) (j:Nat) (v:Value) (e:(cellsC C S).setIfInBounds j v=cellsC C' S') (ho:OC W0.heap.size W C' S'):DoesI W0 g g1 g2 C' S' r (W.setCell ⟨g1,j,none⟩ v) :=
 h.upd G (blk_put h.k1 j v e) (Upd.set (Upd.refl W (fun k=>k=g1)) (p:=⟨g1,j,none⟩) (.inl rfl) v) (ho.boxT h.k1 (by decide) (by decide) (Upd.set (Upd.refl W (fun k=>k=g1)) (p:=⟨g1,j,none⟩) (.inl rfl) v))
theorem DoesI.row (h:DoesI W0 g g1 g2 C S r W) (G:DoesG W0 g g1 g2) (cs:Array Value) (e:cs=cellsC C' S') (ho:OC W0.heap.size W C' S'):DoesI W0 g g1 g2 C' S' r (W.setRow g1 cs):=by
 subst e
 exact h.upd G (setRow_heap W g1 _ _ 29 (0,0) h.k1) (Upd.setRow (Upd.refl W (fun k=>k=g1)) (.inl rfl) _) (ho.boxT h.k1 (by decide) (by decide) (Upd.setRow (Upd.refl W (fun k=>k=g1)) (.inl rfl) _))
end
theorem tab_len:∀ (n:Nat) (r:RS),(tabL n r).1.length≤n
 | 0,_=>Nat.le_refl _
 | n+1,r=>by
  unfold tabL
  split
  ·exact Nat.zero_le _
  ·have:=tab_len n (numS r 2).2
   simp only [List.length_cons]
   omega
theorem rules_len (r:RS):(rulesS r).tab.length≤65536:=by
 have h:=tab_len ((numS (numS r 4).2 2).1+1).toNat ((numS (numS (numS r 4).2 2).2 2).2.1,(numS (numS (numS r 4).2 2).2 2).2.2 || decide ((numS (numS r 4).2 2).1+1 > 128))
 have q:=(num_range (numS r 4).2 2 (by decide)).2
 rw [show ((256 ^ 2:Nat):Int)=65536 by decide] at q
 show (tabL _ _).1.length≤65536
 refine Nat.le_trans h ?_
 omega
theorem rules_kn (r:RS):0≤(rulesS r).kn∧(rulesS r).kn < 4294967296:=by
 have q:=num_range r 4 (by decide)
 rw [show ((256 ^ 4:Nat):Int)=4294967296 by decide] at q
 exact q
theorem DoesI.fin {W0 W:World} {g g1 g2:Nat} {C:Cfg} {S:SlC} {r:RS} (h:DoesI W0 g g1 g2 C S r W) (G:DoesG W0 g g1 g2) :
  (W.setRow g2 (cellsC C S)).heap[g2]?=some (.cells (cellsC C S) 29 (0,0))∧OC W0.heap.size (W.setRow g2 (cellsC C S)) C S∧Below W0.heap.size W0 (W.setRow g2 (cellsC C S))∧(W.setRow g2 (cellsC C S)).heap[g1]?=some (.cells (cellsC C S) 29 (0,0))∧(W.setRow g2 (cellsC C S)).heap[g]?=RdB r:=by
 have a0:=G.p0
 have a1:=G.p1
 have a2:=G.p2
 have hu:Upd W (W.setRow g2 (cellsC C S)) (fun k=>k=g2):=Upd.setRow (Upd.refl W (fun k=>k=g2)) (.inl rfl) _
 exact ⟨setRow_heap W g2 _ _ 29 (0,0) h.k2,h.o.boxT h.k2 (by decide) (by decide) hu,h.b.trans (hu.toBelow (B:=W0.heap.size) (fun k hk=>by rw [hk];omega) h.b.size),hu.blk h.k1 (by omega),hu.blk h.kg (by omega)⟩
theorem rssc2_c (kn:Int) (A:Option Addr) (c:Nat) (tab:List Int) (key:ByteArray) (df:Int) (w:World) (hk0:0≤kn) (hk:kn < 9223372036854775808) (hr:ReadsOf (Value.int .i64) 0 w A tab.length tab) (hc:tab.length≤c) (hl:tab.length≤1000000) :
  Calls Try.prog 57 #[.agg #[.int .i64 kn,.slice A tab.length c,.string key,.int .i64 df]] w fun e w'=>e=.returned (.int .i64 (rssS kn tab key df))∧Below w.heap.size w w':=by
 obtain ⟨n,rfl⟩:∃ n:Nat,kn=(n:Int):=⟨kn.toNat,by omega⟩
 exact rssc_c n A c tab key df w (by omega) hr hc hl
end Go.Proofs.Ytkgbhlcbjflnlaa.Fl
end
