/- What the functions that the law  reaches come to, as lists of bytes and numbers; for strings of at most 2^48 bytes. -/
import Derived.Test.YtkgbhlcbjflnlaaZMth
import Derived.Test.YtkgbhlcbjflnlaaZPx1
import Derived.Test.YtkgbhlcbjflnlaaZPx2
import Derived.Test.YtkgbhlcbjflnlaaZPx6
namespace Go.Proofs.Ytkgbhlcbjflnlaa.Wd
open Go Go.RowKit Go.Proofs.Ytkgbhlcbjflnlaa.P Go.Proofs.YtkgbhlcbjflnlaaW.PrintWords Go.Proofs.YtkgbhlcbjflnlaaW.PrintLast Go.Proofs.YtkgbhlcbjflnlaaW.PrintMore Go.Proofs.Ytkgbhlcbjflnlaa.Mth
set_option linter.unusedVariables false
set_option linter.unusedSimpArgs false

/-! Turn. -/
theorem turn_loop (s:ByteArray) (hs:s.size≤281474976710656):∀ (d i k:Nat) (buf:List Int),i≤s.size→s.size - i=d→d < k→buf.length=s.size →
  (∀ j,j < i→buf.getD (s.size - 1 - j) 0=bt s (j:Int))→words_Turn.l0 k s buf (s.size:Int) (i:Int)=some (mk (B s).reverse):=by
 intro d
 induction d with
 | zero =>
  intro i k buf hi hd hk hl hb
  obtain ⟨k,rfl⟩:∃ m,k=m+1:=⟨k - 1,by omega⟩
  obtain rfl:i=s.size:=by omega
  simp only [words_Turn.l0]
  rw [if_neg (by omega)]
  have e:buf=(B s).reverse.map (fun (x:Nat)=>(x:Int)):=by
   apply List.ext_getElem
   ·rw [List.length_map,List.length_reverse,B_length,hl]
   ·intro n h1 h2
    have h3:=hb (s.size - 1 - n) (by omega)
    rw [show s.size - 1 - (s.size - 1 - n)=n from by omega,List.getD_eq_getElem?_getD,List.getElem?_eq_getElem h1,bt_eq] at h3
    rw [List.getElem_map,List.getElem_reverse]
    simp only [Option.getD_some] at h3
    rw [h3,List.getD_eq_getElem?_getD,List.getElem?_eq_getElem (by rw [B_length];omega)]
    simp [B_length]
  rw [e,strOfNums_cast]
 | succ d ih =>
  intro i k buf hi hd hk hl hb
  obtain ⟨k,rfl⟩:∃ m,k=m+1:=⟨k - 1,by omega⟩
  simp only [words_Turn.l0]
  have e1:wrap64 ((s.size:Int) - 1)=(s.size:Int) - 1:=wrap64_in (by omega) (by omega)
  have e2:wrap64 ((s.size:Int) - 1 - (i:Int))=(s.size:Int) - 1 - (i:Int):=wrap64_in (by omega) (by omega)
  have e3:wrap64 ((i:Int)+1)=((i+1:Nat):Int):=by rw [wrap64_in (by omega) (by omega)];omega
  rw [e1,e2,e3]
  rw [if_pos (by omega),if_pos (by omega),if_pos (by omega),if_pos (by omega),if_pos (by omega)]
  have e4:((s.size:Int) - 1 - (i:Int)).toNat=s.size - 1 - i:=by omega
  rw [e4]
  apply ih (i+1) k _ (by omega) (by omega) (by omega) (by rw [List.length_set];exact hl)
  intro j hj
  rw [List.getD_eq_getElem?_getD,List.getElem?_set]
  by_cases hji:j=i
  ·subst hji
   rw [if_pos rfl,if_pos (by omega)];rfl
  ·rw [if_neg (by omega),← List.getD_eq_getElem?_getD]
   exact hb j (by omega)
theorem turn_at (s:ByteArray) (hs:s.size≤281474976710656) (k:Nat) (hk:s.size < k):words_Turn.f k s=some (mk (B s).reverse):=by
 unfold words_Turn.f
 rw [if_pos (by omega),if_pos (by omega)]
 exact turn_loop s hs s.size 0 k _ (by omega) (by omega) hk (by simp) (fun j hj=>by omega)
theorem turn (s:ByteArray) (hs:s.size≤281474976710656):Ev (fun k=>words_Turn.f k s) (mk (B s).reverse) :=
 ⟨s.size+1,fun k hk=>turn_at s hs k (by omega)⟩
/-! Get. -/
theorem get_loop (s:ByteArray) (n:Nat) (hn:s.size=n) (h8:n≤8):∀ (d i k:Nat),i≤n→n - i=d→d < k →
  words_Get.l0 k s ((val ((B s).take i):Nat):Int) (n:Int) (i:Int)=some (((val (B s):Nat):Int),0):=by
 intro d
 induction d with
 | zero =>
  intro i k hi hd hk
  obtain ⟨k,rfl⟩:∃ m,k=m+1:=⟨k - 1,by omega⟩
  obtain rfl:i=n:=by omega
  simp only [words_Get.l0]
  rw [if_neg (by omega),List.take_of_length_le (by rw [B_length];omega)]
 | succ d ih =>
  intro i k hi hd hk
  obtain ⟨k,rfl⟩:∃ m,k=m+1:=⟨k - 1,by omega⟩
  simp only [words_Get.l0]
  rw [if_pos (by omega),if_pos (by omega),if_pos (by omega),bt_eq]
  have e3:wrap64 ((i:Int)+1)=((i+1:Nat):Int):=by rw [wrap64_in (by omega) (by omega)];omega
  have hb:(B s).getD i 0 < 256:=getD_lt (B_bt s) i
  have hl:=B_length s
  have ht:(B s).take (i+1)=(B s).take i ++ [(B s).getD i 0]:=by
   rw [List.take_succ_eq_append_getElem (by omega),List.getD_eq_getElem?_getD,List.getElem?_eq_getElem (by omega)];rfl
  have hv:=val_lt ((B_bt s).take (i+1))
  rw [ht,val_snoc,List.length_append,List.length_singleton,List.length_take,Nat.min_eq_left (by omega)] at hv
  have hp:256 ^ (i+1)≤256 ^ 8:=Nat.pow_le_pow_right (by decide) (by omega)
  rw [e3,or_byte (by omega) hb,← val_snoc,← ht]
  exact ih (i+1) k (by omega) (by omega) (by omega)
/-- The number of n bytes at a place. -/
def getS (l:List Nat) (at' n:Int) (big:Bool):Nat × Int :=
 if n < 1∨n > 8 then (0,1)
 else if at' < 0∨at' > (l.length:Int) - n then (0,10)
 else (val (if big then (l.drop at'.toNat).take n.toNat else ((l.drop at'.toNat).take n.toNat).reverse),0)
theorem get (s:ByteArray) (hs:s.size≤281474976710656) (at' n:Int) (big:Bool) :
  Ev (fun k=>words_Get.f k s at' n big) (((getS (B s) at' n big).1:Int),(getS (B s) at' n big).2):=by
 unfold getS
 rw [B_length]
 refine ⟨20,fun k hk=>?_⟩
 obtain ⟨k,rfl⟩:∃ m,k=m+1:=⟨k - 1,by omega⟩
 show words_Get.f (k+1) s at' n big=_
 unfold words_Get.f
 by_cases h1:n < 1
 ·rw [if_pos h1,if_pos (Or.inl h1)]
  simp only [words_Get.j0]
  rw [if_pos trivial];rfl
 rw [if_neg h1]
 by_cases h2:n > 8
 ·rw [if_pos (Or.inr h2),decide_eq_true h2]
  simp only [words_Get.j0]
  rw [if_pos trivial];rfl
 rw [if_neg (by omega),decide_eq_false h2]
 simp only [words_Get.j0]
 rw [if_neg (by decide)]
 have e1:wrap64 ((s.size:Int) - n)=(s.size:Int) - n:=wrap64_in (by omega) (by omega)
 rw [e1]
 by_cases h3:at' < 0
 ·rw [if_pos h3,if_pos (Or.inl h3)];rfl
 rw [if_neg h3]
 by_cases h4:at' > (s.size:Int) - n
 ·rw [if_pos h4,if_pos (Or.inr h4)];rfl
 have hR : ¬ (at' < 0∨at' > (s.size:Int) - n):=by omega
 rw [if_neg h4,if_neg hR]
 have e2:wrap64 (at'+n)=at'+n:=wrap64_in (by omega) (by omega)
 rw [e2,if_pos (by omega),if_pos (by omega),if_pos (by omega)]
 obtain ⟨a,rfl⟩:=Int.eq_ofNat_of_zero_le (show 0≤at' by omega)
 obtain ⟨m,rfl⟩:=Int.eq_ofNat_of_zero_le (show 0≤n by omega)
 have e3:((a:Int)+(m:Int)).toNat=a+m:=by omega
 simp only [Int.toNat_natCast,e3]
 have eB:B (s.extract a (a+m))=((B s).drop a).take m:=by
  rw [B_extract,List.drop_take];congr 1;omega
 have es:(s.extract a (a+m)).size=m:=by rw [← B_length,eB,List.length_take,List.length_drop,B_length];omega
 obtain ⟨k,rfl⟩:∃ j,k=j+1:=⟨k - 1,by omega⟩
 cases big with
 | true =>
  rw [if_pos rfl,if_pos rfl]
  simp only [words_Get.j1]
  have:=get_loop (s.extract a (a+m)) m es (by omega) m 0 k (by omega) (by omega) (by omega)
  rw [eB] at this
  exact this
 | false =>
  rw [if_neg (by decide),if_neg (by decide)]
  rw [turn_at _ (by omega) _ (by omega)]
  simp only [Option.bind_some,words_Get.j1]
  have hb:=((B_bt (s.extract a (a+m))).reverse)
  have:=get_loop (mk (B (s.extract a (a+m))).reverse) m (by rw [mk_size,List.length_reverse,B_length,es]) (by omega) m 0 k (by omega) (by omega) (by omega)
  rw [B_mk hb,eB] at this
  rw [eB]
  exact this
/-! Put. -/
theorem may (v:Nat) (hv:v < 18446744073709551616) (n:Int):words_may.f (v:Int) n=some (decide (1≤n∧n≤8∧v < 256 ^ n.toNat)):=by
 unfold words_may.f
 by_cases h1:n ≥ 1
 ·rw [if_pos h1]
  by_cases h2:n≤8
  ·rw [if_pos h2]
   obtain ⟨m,rfl⟩:=Int.eq_ofNat_of_zero_le (show 0≤n by omega)
   by_cases h3:(m:Int)=8
   ·rw [if_pos h3]
    obtain rfl:m=8:=by omega
    have:v < 256 ^ (8:Nat):=by omega
    simp [this]
   ·rw [if_neg h3]
    have e:wrap64 (8 * (m:Int))=((8 * m:Nat):Int):=by rw [wrap64_in (by omega) (by omega)];omega
    rw [e,if_pos (by omega),shr8 v m (by omega)]
    congr 1
    rw [Bool.eq_iff_iff]
    simp only [beq_iff_eq,decide_eq_true_eq,Int.toNat_natCast]
    rw [show ((v / 256 ^ m:Nat):Int)=0 ↔ v / 256 ^ m=0 by omega,Nat.div_eq_zero_iff]
    have:=pow_pos' m
    omega
  ·rw [if_neg h2];congr 1;symm;rw [decide_eq_false_iff_not];omega
 ·rw [if_neg h1];congr 1;symm;rw [decide_eq_false_iff_not];omega
theorem put_loop (v n:Nat) (h8:n≤8) (big:Bool):∀ (d i k:Nat) (buf:List Int),i≤n→n - i=d→d+10 < k→buf.length=n →
  (∀ j,j < i→buf.getD (n - 1 - j) 0=((v / 256 ^ j % 256:Nat):Int)) →
  words_Put.l0 k (v:Int) (n:Int) big buf (n:Int) (i:Int)=some (mk (if big then dig n v else (dig n v).reverse),0):=by
 intro d
 induction d with
 | zero =>
  intro i k buf hi hd hk hl hb
  obtain ⟨k,rfl⟩:∃ m,k=m+1:=⟨k - 1,by omega⟩
  obtain rfl:i=n:=by omega
  simp only [words_Put.l0]
  rw [if_neg (by omega)]
  have e:buf=(dig i v).map (fun (x:Nat)=>(x:Int)):=by
   apply List.ext_getElem
   ·rw [List.length_map,dig_length,hl]
   ·intro m h1 h2
    have h3:=hb (i - 1 - m) (by omega)
    rw [show i - 1 - (i - 1 - m)=m from by omega,List.getD_eq_getElem?_getD,List.getElem?_eq_getElem h1] at h3
    simp only [Option.getD_some] at h3
    rw [List.getElem_map,h3]
    have h4:=dig_get i v (i - 1 - m) (by omega)
    rw [show i - 1 - (i - 1 - m)=m from by omega,List.getD_eq_getElem?_getD,List.getElem?_eq_getElem (by rw [dig_length];omega)] at h4
    simp only [Option.getD_some] at h4
    rw [h4]
  rw [e,strOfNums_cast]
  cases big with
  | true=>rw [if_pos rfl,if_pos rfl]
  | false =>
   rw [if_neg (by decide),if_neg (by decide),turn_at _ (by rw [mk_size,dig_length];omega) _ (by rw [mk_size,dig_length];omega)]
   simp only [Option.bind_some]
   rw [B_mk (dig_bt i v)]
 | succ d ih =>
  intro i k buf hi hd hk hl hb
  obtain ⟨k,rfl⟩:∃ m,k=m+1:=⟨k - 1,by omega⟩
  simp only [words_Put.l0]
  have e0:wrap64 (8 * (i:Int))=((8 * i:Nat):Int):=by rw [wrap64_in (by omega) (by omega)];omega
  have e1:wrap64 ((n:Int) - 1)=(n:Int) - 1:=wrap64_in (by omega) (by omega)
  have e2:wrap64 ((n:Int) - 1 - (i:Int))=(n:Int) - 1 - (i:Int):=wrap64_in (by omega) (by omega)
  have e3:wrap64 ((i:Int)+1)=((i+1:Nat):Int):=by rw [wrap64_in (by omega) (by omega)];omega
  rw [e0,e1,e2,e3,shr8 v i (by omega)]
  rw [if_pos (by omega),if_pos (by omega),if_pos (by omega),if_pos (by omega)]
  have e4:((n:Int) - 1 - (i:Int)).toNat=n - 1 - i:=by omega
  rw [e4]
  apply ih (i+1) k _ (by omega) (by omega) (by omega) (by rw [List.length_set];exact hl)
  intro j hj
  rw [List.getD_eq_getElem?_getD,List.getElem?_set]
  by_cases hji:j=i
  ·subst hji
   rw [if_pos rfl,if_pos (by omega)]
   simp
  ·rw [if_neg (by omega),← List.getD_eq_getElem?_getD]
   exact hb j (by omega)
/-- The n bytes of a number. -/
def putS (v:Nat) (n:Int) (big:Bool):List Nat × Int :=
 if 1≤n∧n≤8∧v < 256 ^ n.toNat then ((if big then dig n.toNat v else (dig n.toNat v).reverse),0) else ([],1)
theorem put (v:Nat) (hv:v < 18446744073709551616) (n:Int) (big:Bool) :
  Ev (fun k=>words_Put.f k (v:Int) n big) (mk (putS v n big).1,(putS v n big).2):=by
 refine ⟨30,fun k hk=>?_⟩
 show words_Put.f k (v:Int) n big=_
 unfold words_Put.f putS
 rw [may v hv]
 simp only [Option.bind_some]
 by_cases h:1≤n∧n≤8∧v < 256 ^ n.toNat
 ·rw [decide_eq_true h,if_pos rfl,if_pos h,if_pos (by omega),if_pos (by omega)]
  obtain ⟨m,rfl⟩:=Int.eq_ofNat_of_zero_le (show 0≤n by omega)
  simp only [Int.toNat_natCast]
  exact put_loop v m (by omega) big m 0 k _ (by omega) (by omega) (by omega) (by simp) (fun j hj=>by omega)
 ·rw [decide_eq_false h,if_neg (by decide),if_neg h];rfl
end Go.Proofs.Ytkgbhlcbjflnlaa.Wd
