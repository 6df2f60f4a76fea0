/- Slices that came in as arguments: how long they may be. -/
import Derived.Test.YtkgbhlcbjflnlaaZRowSl
namespace Go.Proofs.Ytkgbhlcbjflnlaa.RowSl
open Go Go.RowKit Go.ChangeShapes Go.WideShapes Go.Proofs.YtkgbhlcbjflnlaaW.PrintWords
theorem lens {H:Type} {enc:TypeId × Value→H} {P:Program} {w:World} {base:Nat} {spare:Nat→Bool} {held:Bool} {t e:TypeId} {A:Option Addr} {n c fuel R:Nat} {x:DataW H × List MemPlace} (b:Nat)
  (ht:P.underlying t=some (.slice e)) (hb:P.bytesOf e=b) (h:DataW.trod enc P w base spare held fuel t [.slice A n c]=some x) (hk:∀ k∈x.1.weights P t,k≤R):n * b≤R:=by
 rcases DataW.trod_slice ht h with ⟨h0,_⟩ | ⟨a,len,cap,elems,rest,m,_,h0,hx,_,_,_,hlen,_⟩
 ·simp only [List.cons.injEq,Value.slice.injEq,and_true] at h0
  rw [h0.2.1,Nat.zero_mul]
  exact Nat.zero_le _
 ·simp only [List.cons.injEq,Value.slice.injEq,and_true] at h0
  obtain ⟨-,rfl,-⟩:=h0
  subst hx
  have q:=hk ((elems.length+rest.length) * b) (by
   unfold DataW.weights
   rw [ht,← hb]
   simp)
  have:n * b≤(elems.length+rest.length) * b:=Nat.mul_le_mul_right b (by omega)
  omega
end Go.Proofs.Ytkgbhlcbjflnlaa.RowSl
