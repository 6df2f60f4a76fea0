/- Commands and settings: contracts by hand, and the laws over them. -/
import Derived.Test.YtkgbhlcbjflnlaaZG1
import Derived.Test.YtkgbhlcbjflnlaaZG19
import Derived.Test.YtkgbhlcbjflnlaaZPx11
namespace Go.Proofs.Ytkgbhlcbjflnlaa.Fl
open Go Go.RowKit Go.Proofs.YtkgbhlcbjflnlaaW.PrintWords Go.Proofs.YtkgbhlcbjflnlaaW.PrintLast Go.Proofs.YtkgbhlcbjflnlaaW.PrintMore Go.Proofs.Ytkgbhlcbjflnlaa.Mth Go.Proofs.Ytkgbhlcbjflnlaa.P Go.Proofs.Ytkgbhlcbjflnlaa.Own Go.Proofs
set_option linter.unusedVariables false
set_option linter.unusedSimpArgs false
/-! ### The document's numbers and addresses -/
/-- A number of so many bytes at a place, the lowest first. -/
def nat (s:ByteArray) (at' n:Nat):Nat:=le (((B s).drop at').take n)
theorem le_cons (b:Nat) (l:List Nat):le (b :: l)=256 * le l+b:=by
 unfold le
 rw [List.reverse_cons,val_snoc]
 omega
theorem le_bound {l:List Nat} (h:Bt l) {n:Nat} (hn:l.length≤n):le l < 256 ^ n:=Nat.lt_of_lt_of_le (le_lt h) (Nat.pow_le_pow_right (by decide) hn)
theorem num_in (v:Nat) (c:Nat) (hv:v < 4294967296) (hc:c < 256):wrap64 (wrap64 (256 * (v:Int))+wrap64 (c:Int))=((256 * v+c:Nat):Int):=by
 rw [w64 (256 * (v:Int)) ((256 * v:Nat):Int) (by omega) (by omega) (by omega),w64 (c:Int) (c:Int) rfl (by omega) (by omega)]
 exact w64 _ _ (by omega) (by omega) (by omega)
theorem rnum_l0 (s:ByteArray) (at' n:Nat) (hn:n≤4) (hs:at'+n≤s.size) (hb:s.size≤1099511627776):∀ (j k:Nat),j≤n→j+1≤k →
  aqueductref17_Num.l0 k s (at':Int) ((le (((B s).drop (at'+j)).take (n - j)):Nat):Int) ((j:Int) - 1)=some ((le (((B s).drop at').take n):Nat):Int):=by
 intro j
 induction j with
 | zero =>
  intro k _ hk
  obtain ⟨k,rfl⟩:∃ m,k=m+1:=⟨k - 1,by omega⟩
  rw [aqueductref17_Num.l0,if_neg (by omega)]
  rfl
 | succ j ih =>
  intro k hj hk
  obtain ⟨k,rfl⟩:∃ m,k=m+1:=⟨k - 1,by omega⟩
  rw [show ((j+1:Nat):Int) - 1=(j:Int) by omega,aqueductref17_Num.l0,if_pos (by omega)]
  rw [w64 ((at':Int)+(j:Int)) ((at'+j:Nat):Int) (by omega) (by omega) (by omega),if_pos (by omega),if_pos (by omega),bt_eq]
  have hl:at'+j < (B s).length:=by rw [B_length];omega
  have hg:(B s).getD (at'+j) 0=(B s)[at'+j]:=by rw [List.getD_eq_getElem?_getD,List.getElem?_eq_getElem hl];rfl
  have hbt:(B s)[at'+j] < 256:=B_bt s _ (List.getElem_mem hl)
  have hlt:=le_bound (l:=((B s).drop (at'+(j+1))).take (n - (j+1))) ((B_bt s).drop _ |>.take _) (n:=4) (by rw [List.length_take];omega)
  have e6:le (((B s).drop (at'+j)).take (n - j))=256 * le (((B s).drop (at'+(j+1))).take (n - (j+1)))+(B s)[at'+j]:=by
   rw [show n - j=(n - (j+1))+1 by omega,List.drop_eq_getElem_cons hl,List.take_succ_cons,le_cons]
   rfl
  have hp:(256:Nat) ^ 4=4294967296:=by decide
  rw [hp] at hlt
  rw [hg]
  rw [show ((at'+(j+1):Nat))=at'+(j+1) from rfl]
  obtain ⟨v,hv⟩:∃ v,le (((B s).drop (at'+(j+1))).take (n - (j+1)))=v:=⟨_,rfl⟩
  obtain ⟨c,hc⟩:∃ c,(B s)[at'+j]=c:=⟨_,rfl⟩
  rw [hv] at hlt e6 ⊢
  rw [hc] at hbt e6 ⊢
  rw [num_in v c hlt hbt,w64 ((j:Int) - 1) ((j:Int) - 1) rfl (by omega) (by omega)]
  have:=ih k (by omega) (by omega)
  rw [e6] at this
  exact this
theorem rnum_spec (s:ByteArray) (at' n:Nat) (hn:n≤4) (hs:at'+n≤s.size) (hb:s.size≤1099511627776) (k:Nat) (hk:10≤k):aqueductref17_Num.f k s (at':Int) (n:Int)=some ((nat s at' n:Nat):Int):=by
 unfold aqueductref17_Num.f nat
 rw [w64 ((n:Int) - 1) ((n:Int) - 1) rfl (by omega) (by omega)]
 have:=rnum_l0 s at' n hn hs hb n k (Nat.le_refl _) (by omega)
 rw [Nat.sub_self,List.take_zero] at this
 exact this
end Go.Proofs.Ytkgbhlcbjflnlaa.Fl
