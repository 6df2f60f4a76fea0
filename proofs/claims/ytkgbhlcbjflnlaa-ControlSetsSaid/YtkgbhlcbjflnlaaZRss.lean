/- Commands and settings: contracts by hand, and the laws over them. -/
import Derived.Test.YtkgbhlcbjflnlaaZOwn
import Derived.Test.YtkgbhlcbjflnlaaZFV
import Derived.Test.YtkgbhlcbjflnlaaZPx5
import Derived.Test.YtkgbhlcbjflnlaaZPx15
namespace Go.Proofs.Ytkgbhlcbjflnlaa.Fl
open Go Go.RowKit Go.Proofs.YtkgbhlcbjflnlaaW.PrintWords Go.Proofs.YtkgbhlcbjflnlaaW.PrintLast Go.Proofs.YtkgbhlcbjflnlaaW.PrintMore Go.Proofs.Ytkgbhlcbjflnlaa.Mth Go.Proofs.Ytkgbhlcbjflnlaa.P Go.Proofs.Ytkgbhlcbjflnlaa.Own Go.Proofs
set_option linter.unusedVariables false
set_option linter.unusedSimpArgs false
/-! ### Which rules may be -/
def qOK (q:Int):Bool:=decide (0≤q) && decide (q≤7)
def headS (kn:Int) (n:Nat) (key:ByteArray) (df:Int):Bool :=
 (n == 1 || n == 2 || n == 4 || n == 8 || n == 16 || n == 32 || n == 64 || n == 128) && decide (0≤kn) && decide (kn≤126) && decide (kn % 2=0) && decide (4≤key.size) && decide (key.size≤52) && decide (0≤df) && decide (df≤7)
def rssS (kn:Int) (tab:List Int) (key:ByteArray) (df:Int):Int:=if (headS kn tab.length key df && tab.all qOK)=true then 0 else 110
theorem rd_at (l:List Int) (i:Nat) (h:i < l.length):rd l (i:Int)=l[i]:=by
 unfold rd
 simp [h]
theorem all_drop (l:List Int) (i:Nat) (h:i < l.length):(l.drop i).all qOK=(qOK l[i] && (l.drop (i+1)).all qOK):=by
 rw [List.drop_eq_getElem_cons h,List.all_cons]
theorem rss_l0 (l:List Int) (hl:l.length≤1000000):∀ (d i k:Nat),i≤l.length→l.length - i=d→d < k→rss_Check.l0 k l (l.length:Int) (i:Int)=some (if (l.drop i).all qOK=true then 0 else 110):=by
 intro d
 induction d with
 | zero =>
  intro i k hi hd hk
  obtain ⟨k,rfl⟩:∃ m,k=m+1:=⟨k - 1,by omega⟩
  rw [rss_Check.l0,if_neg (by omega),List.drop_of_length_le (by omega)]
  rfl
 | succ d ih =>
  intro i k hi hd hk
  obtain ⟨k,rfl⟩:∃ m,k=m+1:=⟨k - 1,by omega⟩
  have hlt:i < l.length:=by omega
  rw [rss_Check.l0,if_pos (by omega),if_pos (by omega),if_pos (by omega),rd_at l i hlt,all_drop l i hlt]
  have e:wrap64 ((i:Int)+1)=((i+1:Nat):Int):=w64 _ _ (by omega) (by omega) (by omega)
  rw [e,ih (i+1) k (by omega) (by omega) (by omega)]
  unfold qOK
  by_cases h1:l[i] < 0
  ·rw [if_pos h1,decide_eq_false (show ¬ 0≤l[i] by omega),Bool.false_and,Bool.false_and,if_neg (by decide)]
  ·rw [if_neg h1,decide_eq_true (show 0≤l[i] by omega),Bool.true_and]
   by_cases h2:l[i] ≥ 8
   ·rw [if_pos h2,decide_eq_false (show ¬ l[i]≤7 by omega),Bool.false_and,if_neg (by decide)]
   ·rw [if_neg h2,decide_eq_true (show l[i]≤7 by omega),Bool.true_and]
theorem pow2_tab:∀ n:Fin 129,1≤n.1→((n.1 &&& (n.1 - 1)=0) ↔ ((n.1 == 1 || n.1 == 2 || n.1 == 4 || n.1 == 8 || n.1 == 16 || n.1 == 32 || n.1 == 64 || n.1 == 128)=true)):=by decide
theorem kinds_tab:∀ n:Fin 128,(n.1 - (n.1 &&& 126)=0) ↔ (n.1≤126∧n.1 % 2=0):=by decide
theorem kinds_iff (n:Nat) (h:n < 9223372036854775808):Go.bits .andNot .i64 (n:Int) 126=0 ↔ (n≤126∧n % 2=0):=by
 have e:=andNot_i64 n 126 h (by decide)
 rw [show ((126:Nat):Int)=126 from rfl] at e
 rw [e]
 by_cases hn:n < 128
 ·have:=kinds_tab ⟨n,hn⟩
  simp only at this
  omega
 ·have:n &&& 126≤126:=Nat.and_le_right
  omega
theorem pow2_iff (n:Nat) (h1:1≤n) (h2:n≤128):Go.bits .and .i64 (n:Int) (wrap64 ((n:Int) - 1))=0 ↔ ((n == 1 || n == 2 || n == 4 || n == 8 || n == 16 || n == 32 || n == 64 || n == 128)=true):=by
 have e:wrap64 ((n:Int) - 1)=((n - 1:Nat):Int):=w64 _ _ (by omega) (by omega) (by omega)
 rw [e,(bits_nat_i64 n (n - 1) (by omega) (by omega)).1]
 have:=pow2_tab ⟨n,by omega⟩ h1
 rw [Int.natCast_eq_zero]
 exact this
theorem rss_spec (kn:Nat) (tab:List Int) (key:ByteArray) (df:Int) (hk:kn < 9223372036854775808) (hl:tab.length≤1000000) :
  rss_Check.f (tab.length+10) (kn:Int) tab key df=some (rssS kn tab key df):=by
 have J:∀ b,rss_Check.j0 (tab.length+10) b kn tab key df=some (if (!b && tab.all qOK)=true then 0 else 110):=by
  intro b
  rw [rss_Check.j0]
  cases b
  ·rw [if_neg Bool.false_ne_true]
   have:=rss_l0 tab hl tab.length 0 (tab.length+9) (by omega) (by omega) (by omega)
   rw [List.drop_zero] at this
   exact this
  ·rw [if_pos rfl];rfl
 have H:∀ b,headS kn tab.length key df = !b→some (if (!b && tab.all qOK)=true then (0:Int) else 110)=some (rssS kn tab key df):=by
  intro b hb
  unfold rssS
  rw [hb]
 unfold rss_Check.f
 simp only [J]
 by_cases h1:kn≤126∧kn % 2=0
 ·rw [if_pos ((kinds_iff kn hk).2 h1)]
  by_cases h2:(tab.length:Int) < 1
  ·rw [if_pos h2];exact H true (by unfold headS;rw [show tab.length=0 by omega];rfl)
  rw [if_neg h2]
  by_cases h3:(tab.length:Int) > 128
  ·rw [if_pos h3];refine H true ?_;unfold headS
   rw [show (tab.length == 1 || tab.length == 2 || tab.length == 4 || tab.length == 8 || tab.length == 16 || tab.length == 32 || tab.length == 64 || tab.length == 128)=false by simp;omega]
   simp
  rw [if_neg h3]
  have hp:=pow2_iff tab.length (by omega) (by omega)
  by_cases h4:Go.bits .and .i64 (tab.length:Int) (wrap64 ((tab.length:Int) - 1))=0
  ·rw [if_pos h4]
   have h4':=hp.1 h4
   have HH:headS kn tab.length key df=(decide (4≤key.size) && decide (key.size≤52) && decide (0≤df) && decide (df≤7)):=by
    unfold headS
    rw [h4',decide_eq_true (show (0:Int)≤(kn:Int) by omega),decide_eq_true (show (kn:Int)≤126 by omega),decide_eq_true (show (kn:Int) % 2=0 by omega)]
    rfl
   by_cases h5:(key.size:Int) < 4
   ·rw [if_pos h5];exact H true (by rw [HH,decide_eq_false (show ¬ 4≤key.size by omega)];rfl)
   rw [if_neg h5]
   by_cases h6:(key.size:Int) > 52
   ·rw [if_pos h6];exact H true (by rw [HH,decide_eq_false (show ¬ key.size≤52 by omega)];simp)
   rw [if_neg h6]
   by_cases h7:df < 0
   ·rw [if_pos h7];exact H true (by rw [HH,decide_eq_false (show ¬ 0≤df by omega)];simp)
   rw [if_neg h7]
   refine H _ ?_
   rw [HH,decide_eq_true (show 4≤key.size by omega),decide_eq_true (show key.size≤52 by omega),decide_eq_true (show 0≤df by omega)]
   by_cases h8:df ≥ 8
   ·rw [decide_eq_true h8,decide_eq_false (show ¬ df≤7 by omega)];rfl
   ·rw [decide_eq_false h8,decide_eq_true (show df≤7 by omega)];rfl
  ·rw [if_neg h4];refine H true ?_;unfold headS
   rw [Bool.eq_false_iff.2 (fun h=>h4 (hp.2 h))]
   simp
 ·rw [if_neg (fun h=>h1 ((kinds_iff kn hk).1 h))]
  refine H true ?_
  unfold headS
  by_cases hk1:kn≤126
  ·rw [decide_eq_false (show ¬ (kn:Int) % 2=0 by omega)];simp
  ·rw [decide_eq_false (show ¬ (kn:Int)≤126 by omega)];simp
theorem rssc_c (kn:Nat) (A:Option Addr) (c:Nat) (tab:List Int) (key:ByteArray) (df:Int) (w:World) (hk:kn < 9223372036854775808) (hr:ReadsOf (Value.int .i64) 0 w A tab.length tab) (hc:tab.length≤c) (hl:tab.length≤1000000) :
  Calls Try.prog 57 #[.agg #[.int .i64 kn,.slice A tab.length c,.string key,.int .i64 df]] w fun e w'=>e=.returned (.int .i64 (rssS kn tab key df))∧Below w.heap.size w w' :=
 rss_Check.calls _ kn A c tab key df _ w (Kd.C_of_reads hr) hc (rss_spec kn tab key df hk hl)
/-! ### The reference's -/
end Go.Proofs.Ytkgbhlcbjflnlaa.Fl
