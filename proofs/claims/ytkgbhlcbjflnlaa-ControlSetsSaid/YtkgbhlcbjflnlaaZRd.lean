/- Commands and settings: contracts by hand, and the laws over them. -/
import Derived.Test.YtkgbhlcbjflnlaaZOwn
import Derived.Test.YtkgbhlcbjflnlaaZFV
import Derived.Test.YtkgbhlcbjflnlaaZWd
import Derived.Test.YtkgbhlcbjflnlaaZPx3
import Derived.Test.YtkgbhlcbjflnlaaZPx4
namespace Go.Proofs.Ytkgbhlcbjflnlaa.Fl
open Go Go.RowKit Go.Proofs.YtkgbhlcbjflnlaaW.PrintWords Go.Proofs.YtkgbhlcbjflnlaaW.PrintLast Go.Proofs.YtkgbhlcbjflnlaaW.PrintMore Go.Proofs.Ytkgbhlcbjflnlaa.Mth Go.Proofs.Ytkgbhlcbjflnlaa.P Go.Proofs.Ytkgbhlcbjflnlaa.Own Go.Proofs
set_option linter.unusedVariables false
set_option linter.unusedSimpArgs false
open Go.Proofs.Ytkgbhlcbjflnlaa.Wd
/-! ### The reader of a command -/
/-- What a reader holds: what is left, and whether it was too short. -/
abbrev RS:=ByteArray × Bool
def takeS (r:RS) (n:Nat):ByteArray × RS:=if r.1.size < n then (⟨#[]⟩,(r.1,true)) else (r.1.extract 0 n,(r.1.extract n r.1.size,r.2))
theorem take_spec (r:RS) (n:Nat):control_reader_take.f r.1 r.2 (n:Int)=some ((takeS r n).1,(takeS r n).2.1,(takeS r n).2.2):=by
 unfold control_reader_take.f takeS
 by_cases h:r.1.size < n
 ·rw [if_pos (by omega),if_pos h]
 ·rw [if_neg (by omega),if_pos (by omega),if_pos (by omega),if_neg h,Int.toNat_natCast]
/-- The number of bytes, the lowest first. -/
def le (l:List Nat):Nat:=val l.reverse
def numS (r:RS) (n:Nat):Int × RS:=if (takeS r n).1.size=n then (((le (B (takeS r n).1):Nat):Int),(takeS r n).2) else (0,((takeS r n).2.1,true))
theorem take_size (r:RS) (n:Nat):(takeS r n).1.size=n∨((takeS r n).1.size=0∧(takeS r n).2.2=true):=by
 unfold takeS
 by_cases h:r.1.size < n
 ·rw [if_pos h];right;exact ⟨rfl,rfl⟩
 ·rw [if_neg h];left;simp;omega
theorem le_lt {l:List Nat} (h:Bt l):le l < 256 ^ l.length:=by
 unfold le
 have:=val_lt h.reverse
 rwa [List.length_reverse] at this
theorem num_spec (r:RS) (n:Nat) (h1:1≤n) (h4:n≤4):Ev (fun k=>control_reader_num.f k r.1 r.2 (n:Int)) ((numS r n).1,(numS r n).2.1,(numS r n).2.2):=by
 obtain ⟨k0,hk⟩:=Wd.get (takeS r n).1 (by rcases take_size r n with h | h <;> omega) 0 (n:Int) false
 refine ⟨k0,fun k hk2=>?_⟩
 have e:=hk k hk2
 dsimp only at e
 show control_reader_num.f k r.1 r.2 (n:Int)=_
 unfold control_reader_num.f
 rw [take_spec,Option.bind_some]
 dsimp only
 rw [e,Option.bind_some]
 dsimp only
 unfold numS
 rcases take_size r n with h | ⟨h,hb⟩
 ·have hv:=le_lt (B_bt (takeS r n).1)
  rw [B_length,h] at hv
  have hp:256 ^ n≤256 ^ 4:=Nat.pow_le_pow_right (by decide) h4
  have e2:((B (takeS r n).1).drop (0:Int).toNat).take (n:Int).toNat=B (takeS r n).1:=by
   rw [show (0:Int).toNat=0 from rfl,List.drop_zero,Int.toNat_natCast,List.take_of_length_le (by rw [B_length];omega)]
  have eg:getS (B (takeS r n).1) 0 (n:Int) false=(le (B (takeS r n).1),0):=by
   unfold getS
   rw [B_length,if_neg (by omega),if_neg (by omega),if_neg Bool.false_ne_true,e2]
   rfl
  rw [eg,if_pos h]
  dsimp only
  rw [wrap64_in (by omega) (by omega)]
  cases hq:(takeS r n).2.2
  ·rw [if_neg Bool.false_ne_true];rfl
  ·rw [if_pos rfl,← hq]
 ·have eg:getS (B (takeS r n).1) 0 (n:Int) false=(0,10):=by
   unfold getS
   rw [B_length,if_neg (by omega),if_pos (by omega)]
  rw [eg,hb,if_pos rfl,if_neg (by omega)]
  show some (wrap64 0,(takeS r n).2.1,true)=_
  rw [wrap64_in (by decide) (by decide)]
theorem num_range (r:RS) (n:Nat) (h4:n≤4):0≤(numS r n).1∧(numS r n).1 < ((256 ^ n:Nat):Int):=by
 unfold numS
 have hp:(0:Int) < ((256 ^ n:Nat):Int):=Int.ofNat_lt.mpr (Nat.pow_pos (by decide))
 split
 ·rename_i h
  have hv:=le_lt (B_bt (takeS r n).1)
  rw [B_length,h] at hv
  exact ⟨by show (0:Int)≤((le _:Nat):Int);omega,Int.ofNat_lt.mpr hv⟩
 ·exact ⟨Int.le_refl _,hp⟩
/-- Addresses, so many, until it is too short. -/
def macsL:Nat→RS→List ByteArray × RS
 | 0,r=>([],r)
 | k+1,r=>if r.2=true then ([],r) else ((takeS r 6).1 :: (macsL k (takeS r 6).2).1,(macsL k (takeS r 6).2).2)
def macsS (r:RS):List ByteArray × RS:=macsL (numS r 4).1.toNat ((numS r 4).2.1,(numS r 4).2.2 || decide ((numS r 4).1 > 16))
theorem macs_loop (n:Nat) (hn:n < 4294967296):∀ (d i k:Nat) (l:List ByteArray) (r:RS),i≤n→n - i=d→d < k→l.length+d≤4294967296 →
  control_reader_macs.l0 k l (n:Int) (i:Int) r.1 r.2=some (l ++ (macsL d r).1,(macsL d r).2.1,(macsL d r).2.2):=by
 intro d
 induction d with
 | zero =>
  intro i k l r hi hd hk hl
  obtain ⟨k,rfl⟩:∃ m,k=m+1:=⟨k - 1,by omega⟩
  rw [control_reader_macs.l0,if_neg (by omega)]
  show _=some (l ++ [],r.1,r.2)
  rw [List.append_nil]
 | succ d ih =>
  intro i k l r hi hd hk hl
  obtain ⟨k,rfl⟩:∃ m,k=m+1:=⟨k - 1,by omega⟩
  rw [control_reader_macs.l0,if_pos (by omega)]
  unfold macsL
  cases hb:r.2
  ·rw [if_neg Bool.false_ne_true,if_neg Bool.false_ne_true]
   have ts:=take_spec r 6
   rw [hb] at ts
   rw [show ((6:Int))=((6:Nat):Int) from rfl,ts,Option.bind_some]
   dsimp only
   have e:wrap64 ((i:Int)+1)=((i+1:Nat):Int):=w64 _ _ (by omega) (by omega) (by omega)
   rw [if_pos (by omega),e]
   have:=ih (i+1) k (l ++ [(takeS r 6).1]) (takeS r 6).2 (by omega) (by omega) (by omega) (by simp;omega)
   rw [this,List.append_assoc]
   rfl
  ·rw [if_pos rfl,if_pos rfl,List.append_nil]
   rw [← hb]
theorem macs_spec (r:RS):Ev (fun k=>control_reader_macs.f k r.1 r.2) ((macsS r).1,(macsS r).2.1,(macsS r).2.2):=by
 obtain ⟨k0,hk⟩:=num_spec r 4 (by decide) (by decide)
 obtain ⟨hr0,hr1⟩:=num_range r 4 (by decide)
 obtain ⟨n,hn⟩:∃ n:Nat,(numS r 4).1=(n:Int):=⟨(numS r 4).1.toNat,by omega⟩
 refine ⟨k0+n+10,fun k hk2=>?_⟩
 have e:=hk k (by omega)
 dsimp only at e
 show control_reader_macs.f k r.1 r.2=_
 unfold control_reader_macs.f macsS
 rw [show ((4:Int))=((4:Nat):Int) from rfl,e,Option.bind_some]
 dsimp only
 rw [hn] at hr1 ⊢
 obtain ⟨k,rfl⟩:∃ m,k=m+1:=⟨k - 1,by omega⟩
 have hlt:n < 4294967296:=by
  have q:((256 ^ 4:Nat):Int)=4294967296:=by decide
  rw [q] at hr1;omega
 have L:=macs_loop n hlt n 0 k [] ((numS r 4).2.1,(numS r 4).2.2 || decide ((n:Int) > 16)) (by omega) (by omega) (by omega) (by simp;omega)
 rw [List.nil_append] at L
 rw [Int.toNat_natCast]
 cases hb:(numS r 4).2.2
 ·rw [if_neg Bool.false_ne_true,control_reader_macs.j0]
  rw [hb] at L
  exact L
 ·rw [if_pos rfl,control_reader_macs.j0]
  rw [hb] at L
  exact L
/-- The table of rules, until it is too short. -/
def tabL:Nat→RS→List Int × RS
 | 0,r=>([],r)
 | k+1,r=>if r.2=true then ([],r) else ((numS r 2).1 :: (tabL k (numS r 2).2).1,(tabL k (numS r 2).2).2)
/-- Rules: kinds, the table, the default queue, and what is left. -/
structure Ru where
 kn:Int
 tab:List Int
 df:Int
 r:RS
def rulesT (kn n:Int) (df:Int × RS):Ru :=
 ⟨kn,(tabL (n+1).toNat (df.2.1,df.2.2 || decide (n+1 > 128))).1,df.1,(tabL (n+1).toNat (df.2.1,df.2.2 || decide (n+1 > 128))).2⟩
def rulesS (r:RS):Ru:=rulesT (numS r 4).1 (numS (numS r 4).2 2).1 (numS (numS (numS r 4).2 2).2 2)
theorem tab_loop (n:Nat) (hn:n≤65536) (a:Int) (c:ByteArray) (d':Int):∀ (d i:Nat) (l:List Int) (r:RS),i≤n→n - i=d→l.length+d≤65536 →
  Ev (fun k=>control_reader_rules.l0 k (n:Int) (i:Int) r.1 r.2 a l c d') (a,l ++ (tabL d r).1,c,d',(tabL d r).2.1,(tabL d r).2.2):=by
 intro d
 induction d with
 | zero =>
  intro i l r hi hd hl
  refine ⟨1,fun k hk=>?_⟩
  obtain ⟨k,rfl⟩:∃ m,k=m+1:=⟨k - 1,by omega⟩
  show control_reader_rules.l0 (k+1) (n:Int) (i:Int) r.1 r.2 a l c d'=_
  rw [control_reader_rules.l0,if_neg (by omega)]
  show _=some (a,l ++ [],c,d',r.1,r.2)
  rw [List.append_nil]
 | succ d ih =>
  intro i l r hi hd hl
  obtain ⟨k0,h0⟩:=num_spec r 2 (by decide) (by decide)
  obtain ⟨k1,h1⟩:=ih (i+1) (l ++ [(numS r 2).1]) (numS r 2).2 (by omega) (by omega) (by simp;omega)
  refine ⟨k0+k1+1,fun k hk=>?_⟩
  obtain ⟨k,rfl⟩:∃ m,k=m+1:=⟨k - 1,by omega⟩
  show control_reader_rules.l0 (k+1) (n:Int) (i:Int) r.1 r.2 a l c d'=_
  rw [control_reader_rules.l0,if_pos (by omega)]
  unfold tabL
  cases hb:r.2
  ·rw [if_neg Bool.false_ne_true,if_neg Bool.false_ne_true]
   have ts:=h0 k (by omega)
   dsimp only at ts
   rw [hb] at ts
   rw [show ((2:Int))=((2:Nat):Int) from rfl,ts,Option.bind_some]
   dsimp only
   have e:wrap64 ((i:Int)+1)=((i+1:Nat):Int):=w64 _ _ (by omega) (by omega) (by omega)
   rw [if_pos (by omega),e]
   have:=h1 k (by omega)
   dsimp only at this
   rw [this,List.append_assoc]
   rfl
  ·rw [if_pos rfl,if_pos rfl,List.append_nil]
   rw [← hb]
theorem rules_spec (r:RS):Ev (fun k=>control_reader_rules.f k r.1 r.2) ((rulesS r).kn,(rulesS r).tab,⟨#[]⟩,(rulesS r).df,(rulesS r).r.1,(rulesS r).r.2):=by
 obtain ⟨k0,h0⟩:=num_spec r 4 (by decide) (by decide)
 unfold rulesS
 obtain ⟨⟨a,ra⟩,ea⟩:∃ a,numS r 4=a:=⟨_,rfl⟩
 rw [ea] at h0 ⊢
 obtain ⟨k1,h1⟩:=num_spec ra 2 (by decide) (by decide)
 obtain ⟨hr0,hr1⟩:=num_range ra 2 (by decide)
 obtain ⟨⟨b,rb⟩,eb⟩:∃ a,numS ra 2=a:=⟨_,rfl⟩
 rw [show numS (a,ra).2 2=(b,rb) from eb]
 rw [eb] at h1 hr0 hr1
 obtain ⟨k2,h2⟩:=num_spec rb 2 (by decide) (by decide)
 rw [show (b,rb).2=rb from rfl]
 obtain ⟨⟨c,rc⟩,ec⟩:∃ a,numS rb 2=a:=⟨_,rfl⟩
 rw [ec] at h2 ⊢
 have q:((256 ^ 2:Nat):Int)=65536:=by decide
 rw [q] at hr1
 obtain ⟨n,hn⟩:∃ n:Nat,b=(n:Int):=⟨b.toNat,by simp only at hr0;omega⟩
 subst hn
 have hlt:n < 65536:=by simp only at hr1;omega
 obtain ⟨k3,h3⟩:=tab_loop (n+1) (by omega) a ⟨#[]⟩ c (n+1) 0 [] (rc.1,rc.2 || decide ((n:Int)+1 > 128)) (by omega) (by omega) (by simp;omega)
 refine ⟨k0+k1+k2+k3+1,fun k hk=>?_⟩
 have e0:=h0 k (by omega)
 have e1:=h1 k (by omega)
 have e2:=h2 k (by omega)
 obtain ⟨k,rfl⟩:∃ m,k=m+1:=⟨k - 1,by omega⟩
 have e3:=h3 k (by omega)
 dsimp only at e0 e1 e2 e3
 show control_reader_rules.f (k+1) r.1 r.2=_
 unfold control_reader_rules.f rulesT
 rw [show ((4:Int))=((4:Nat):Int) from rfl,e0,Option.bind_some]
 dsimp only
 rw [show ((2:Int))=((2:Nat):Int) from rfl,e1,Option.bind_some]
 dsimp only
 rw [e2,Option.bind_some]
 dsimp only
 have ew:wrap64 ((n:Int)+1)=((n+1:Nat):Int):=w64 _ _ (by omega) (by omega) (by omega)
 rw [ew,show ((n:Int)+1).toNat=n+1 by omega]
 rw [List.nil_append] at e3
 obtain ⟨d,ed⟩:∃ d,tabL (n+1) (rc.1,rc.2 || decide ((n:Int)+1 > 128))=d:=⟨_,rfl⟩
 rw [ed] at e3 ⊢
 cases hb:rc.2
 ·rw [if_neg Bool.false_ne_true,control_reader_rules.j0]
  rw [hb] at e3
  exact e3
 ·rw [if_pos rfl,control_reader_rules.j0]
  rw [hb] at e3
  exact e3
end Go.Proofs.Ytkgbhlcbjflnlaa.Fl
