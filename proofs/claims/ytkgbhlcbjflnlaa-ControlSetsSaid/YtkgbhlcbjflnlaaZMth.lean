/- Plain mathematics of bytes: lists of numbers below 256, big and little numbers, what the printed words say of them. No program in it. -/
import Derived.Test.YtkgbhlcbjflnlaaZG0
import Derived.Laws.BitsLemmas
import Derived.Laws.BytesArg
import Derived.OpenShut
namespace Go.Proofs.Ytkgbhlcbjflnlaa.Mth
open Go Go.RowKit Go.Proofs.YtkgbhlcbjflnlaaW.PrintWords Go.Proofs.YtkgbhlcbjflnlaaW.PrintLast Go.Proofs.YtkgbhlcbjflnlaaW.PrintMore
set_option linter.unusedVariables false
set_option linter.unusedSimpArgs false

/-- A string's bytes, as numbers. -/
def B (s:ByteArray):List Nat:=s.data.toList.map UInt8.toNat
/-- The string of numbers. -/
def mk (l:List Nat):ByteArray:=⟨(l.map UInt8.ofNat).toArray⟩
/-- Each is a byte. -/
def Bt (l:List Nat):Prop:=∀ x∈l,x < 256

theorem B_length (s:ByteArray):(B s).length=s.size:=by
 unfold B;rw [List.length_map,Array.length_toList];rfl
theorem B_bt (s:ByteArray):Bt (B s):=by
 intro x hx
 unfold B at hx
 obtain ⟨b,_,rfl⟩:=List.mem_map.1 hx
 exact b.toNat_lt
theorem mk_B (s:ByteArray):mk (B s)=s:=by
 unfold mk B
 rw [List.map_map]
 have:(UInt8.ofNat ∘ UInt8.toNat)=id:=by funext b;simp
 rw [this,List.map_id]
theorem B_mk {l:List Nat} (h:Bt l):B (mk l)=l:=by
 unfold mk B
 simp only [List.map_map]
 conv=>rhs;rw [← List.map_id l]
 apply List.map_congr_left
 intro x hx
 have:=h x hx
 simp [UInt8.toNat_ofNat']
 omega
theorem B_inj {s t:ByteArray} (h:B s=B t):s=t:=by rw [← mk_B s,h,mk_B]
theorem toList_eq (s:ByteArray):s.toList=s.data.toList:=ByteArray.toList_eq s
theorem toList_B {s t:ByteArray} (h:s.toList=t.toList):B s=B t:=by rw [toList_eq,toList_eq] at h;unfold B;rw [h]
/-- From the right. -/
theorem snoc_ind {P:List Nat→Prop} (h0:P []) (h1:∀ l b,P l→P (l ++ [b])) (l:List Nat):P l:=by
 have key:∀ m:List Nat,P m.reverse:=by
  intro m
  induction m with
  | nil=>exact h0
  | cons b m ih=>rw [List.reverse_cons];exact h1 _ _ ih
 have:=key l.reverse
 rwa [List.reverse_reverse] at this
theorem mk_size (l:List Nat):(mk l).size=l.length:=by
 unfold mk;show ((l.map UInt8.ofNat).toArray).size=_;simp

theorem Bt.append {l m:List Nat} (h:Bt l) (k:Bt m):Bt (l ++ m):=by
 intro x hx;rcases List.mem_append.1 hx with hx | hx
 ·exact h x hx
 ·exact k x hx
theorem Bt.take {l:List Nat} (h:Bt l) (n:Nat):Bt (l.take n):=fun x hx=>h x (List.mem_of_mem_take hx)
theorem Bt.drop {l:List Nat} (h:Bt l) (n:Nat):Bt (l.drop n):=fun x hx=>h x (List.mem_of_mem_drop hx)
theorem Bt.reverse {l:List Nat} (h:Bt l):Bt l.reverse:=fun x hx=>h x (List.mem_reverse.1 hx)
theorem Bt.nil:Bt []:=fun x hx=>by cases hx
theorem Bt.of_append_left {l m:List Nat} (h:Bt (l ++ m)):Bt l:=fun x hx=>h x (List.mem_append_left _ hx)

theorem B_append (s t:ByteArray):B (s ++ t)=B s ++ B t:=by
 unfold B
 have:(s ++ t).data.toList=s.data.toList ++ t.data.toList:=by simp
 rw [this,List.map_append]
theorem B_extract (s:ByteArray) (i j:Nat):B (s.extract i j)=((B s).take j).drop i:=by
 unfold B
 rw [ByteArray.data_extract,Array.toList_extract,List.extract_eq_take_drop,← List.map_take,← List.map_drop,List.drop_take]
theorem bt_eq (s:ByteArray) (i:Nat):bt s (i:Int)=(((B s).getD i 0:Nat):Int):=by
 unfold bt B
 simp only [Int.toNat_natCast]
 split
 ·rename_i h
  have h':i < s.data.toList.length:=by rw [Array.length_toList];exact h
  simp [List.getD_eq_getElem?_getD,List.getElem?_eq_getElem h']
  rfl
 ·rename_i h
  have h':s.data.toList.length≤i:=by rw [Array.length_toList];exact Nat.le_of_not_lt h
  simp [List.getD_eq_getElem?_getD,List.getElem?_eq_none h']
theorem getD_lt {l:List Nat} (h:Bt l) (i:Nat):l.getD i 0 < 256:=by
 rw [List.getD_eq_getElem?_getD]
 rcases Nat.lt_or_ge i l.length with hi | hi
 ·rw [List.getElem?_eq_getElem hi];exact h _ (List.getElem_mem _)
 ·rw [List.getElem?_eq_none hi];simp
theorem strOfNums_mk (xs:List Int):strOfNums xs=mk (xs.map Int.toNat):=by
 unfold strOfNums mk;rw [List.map_map];rfl
theorem strOfNums_cast (l:List Nat):strOfNums (l.map fun (x:Nat)=>(x:Int))=mk l:=by
 rw [strOfNums_mk,List.map_map]
 have:(Int.toNat ∘ fun (x:Nat)=>(x:Int))=id:=by funext b;simp
 rw [this,List.map_id]

/-! Numbers of bytes. -/
/-- The number of big bytes. -/
def val (l:List Nat):Nat:=l.foldl (fun v b=>v * 256+b) 0
/-- The n big bytes of a number. -/
def dig:Nat→Nat→List Nat
 | 0,_=>[]
 | n+1,v=>dig n (v / 256) ++ [v % 256]
theorem val_snoc (l:List Nat) (b:Nat):val (l ++ [b])=val l * 256+b:=by unfold val;rw [List.foldl_append];rfl
theorem dig_length:∀ (n v:Nat),(dig n v).length=n
 | 0,_=>rfl
 | n+1,v=>by simp [dig,dig_length n]
theorem dig_bt:∀ (n v:Nat),Bt (dig n v)
 | 0,_=>Bt.nil
 | n+1,v=>by
  refine (dig_bt n _).append ?_
  intro x hx
  simp at hx
  omega
theorem pow_pos' (n:Nat):0 < 256 ^ n:=Nat.pow_pos (by decide)
theorem val_dig:∀ (n v:Nat),val (dig n v)=v % 256 ^ n
 | 0,v=>by simp [dig,val,Nat.mod_one]
 | n+1,v=>by
  rw [dig,val_snoc,val_dig n,Nat.pow_succ,Nat.mul_comm (256 ^ n) 256,Nat.mod_mul]
  omega
theorem val_dig_lt {n v:Nat} (h:v < 256 ^ n):val (dig n v)=v:=by rw [val_dig,Nat.mod_eq_of_lt h]
theorem val_lt {l:List Nat} (h:Bt l):val l < 256 ^ l.length:=by
 revert h
 refine snoc_ind (P:=fun l=>Bt l→val l < 256 ^ l.length) ?_ ?_ l
 ·intro _;simp [val]
 ·intro l b ih h
  rw [val_snoc,List.length_append,List.length_singleton,Nat.pow_succ]
  have h1:=ih h.of_append_left
  have h2:b < 256:=h b (by simp)
  omega
/-- Digit j from the right. -/
theorem dig_get:∀ (n v j:Nat),j < n→(dig n v).getD (n - 1 - j) 0=v / 256 ^ j % 256
 | 0,_,_,h=>by omega
 | n+1,v,0,_=>by
  rw [dig,List.getD_eq_getElem?_getD,List.getElem?_append_right (by rw [dig_length];omega),dig_length]
  simp
 | n+1,v,j+1,h=>by
  rw [dig,List.getD_eq_getElem?_getD,List.getElem?_append_left (by rw [dig_length];omega)]
  have:=dig_get n (v / 256) j (by omega)
  rw [List.getD_eq_getElem?_getD] at this
  rw [show n+1 - 1 - (j+1)=n - 1 - j from by omega,this,Nat.div_div_eq_div_mul,Nat.pow_succ,Nat.mul_comm 256]

/-! Machine numbers. -/
theorem wrap_u64 (n:Int):IntKind.u64.wrap n=n % 18446744073709551616:=by simp [IntKind.wrap,IntKind.bits,IntKind.signed]
theorem wraps_u64 (n:Int) (h₀:0≤n) (h₁:n < 2 ^ 64):IntKind.u64.wrap n=n:=by rw [wrap_u64];omega
theorem wrap64_in {n:Int} (h0 : -9223372036854775808≤n) (h1:n≤9223372036854775807):wrap64 n=n:=by
 unfold wrap64;omega
/-- For a rewriting in place: 'omega' stumbles over two wraps in its context, so none is to be left there. -/
theorem w64 (n m:Int) (h:n=m) (h0 : -9223372036854775808≤m) (h1:m≤9223372036854775807):wrap64 n=m:=by
 subst h;exact wrap64_in h0 h1
/-- One byte more. -/
theorem or_byte {v b:Nat} (h:v * 256+b < 18446744073709551616) (hb:b < 256) :
  Go.bits .or .u64 (IntKind.u64.wrap ((v:Int) * 256)) (IntKind.u64.wrap (b:Int))=((v * 256+b:Nat):Int):=by
 rw [wraps_u64 _ (by omega) (by omega),wraps_u64 _ (by omega) (by omega)]
 rw [bits_join .u64 64 (by decide) wraps_u64 8 _ _ (by omega) (by omega) (by omega) (by omega) (by omega) (by omega)]
 omega
theorem shr8 (x:Nat) (i:Nat) (h:i≤8):shr .u64 (x:Int) ((8 * i:Nat):Int)=((x / 256 ^ i:Nat):Int):=by
 unfold shr
 have e:min (((8 * i:Nat):Int)).toNat IntKind.u64.bits=8 * i:=by
  simp only [Int.toNat_natCast];show min (8 * i) 64=_;omega
 rw [e]
 have:(2:Int) ^ (8 * i)=((256 ^ i:Nat):Int):=by
  rw [show (256:Nat)=2 ^ 8 from rfl,← Nat.pow_mul];simp
 rw [this]
 simp
theorem wraps_i64 (n:Int) (h₀:0≤n) (h₁:n < 2 ^ 63):IntKind.i64.wrap n=n:=by rw [IntKind.wrap_i64];omega
/-- The lowest bits of any whole number. -/
theorem and_i64 (x:Int) (i:Nat) (hi:i < 63):Go.bits .and .i64 x ((2 ^ i - 1:Nat):Int)=x % ((2 ^ i:Nat):Int):=by
 have hp:0 < 2 ^ i:=Nat.two_pow_pos i
 have hlt:2 ^ i < 2 ^ 63:=Nat.pow_lt_pow_right (by decide) hi
 have e1:(BitVec.ofInt 64 ((2 ^ i - 1:Nat):Int)).toNat=2 ^ i - 1:=by
  rw [BitVec.ofInt_natCast,BitVec.toNat_ofNat,Nat.mod_eq_of_lt];omega
 have e2:((BitVec.ofInt 64 x &&& BitVec.ofInt 64 ((2 ^ i - 1:Nat):Int)).toNat:Int)=x % ((2 ^ i:Nat):Int):=by
  rw [BitVec.toNat_and,e1,Nat.and_two_pow_sub_one_eq_mod,BitVec.toNat_ofInt]
  rw [Int.natCast_emod,Int.toNat_of_nonneg (Int.emod_nonneg _ (by decide))]
  apply Int.emod_emod_of_dvd
  exact ⟨((2 ^ (64 - i):Nat):Int),by rw [← Int.natCast_mul,← Nat.pow_add,show i+(64 - i)=64 from by omega]⟩
 show IntKind.i64.wrap ((BitVec.ofInt 64 x &&& BitVec.ofInt 64 ((2 ^ i - 1:Nat):Int)).toNat:Int)=_
 rw [e2]
 have h1:=Int.emod_nonneg x (show ((2 ^ i:Nat):Int) ≠ 0 by omega)
 have h2:=Int.emod_lt_of_pos x (show (0:Int) < ((2 ^ i:Nat):Int) by omega)
 refine wraps_i64 _ h1 (Int.lt_trans h2 ?_)
 exact_mod_cast hlt
theorem shl_one (k:Nat) (h:k≤7):shl .u64 1 ((8 * k:Nat):Int)=((256 ^ k:Nat):Int):=by
 unfold shl
 have e:min (((8 * k:Nat):Int)).toNat IntKind.u64.bits=8 * k:=by
  simp only [Int.toNat_natCast];show min (8 * k) 64=_;omega
 have h2:(256:Nat) ^ k≤256 ^ 7:=Nat.pow_le_pow_right (by decide) h
 have:(2:Int) ^ (8 * k)=((256 ^ k:Nat):Int):=by
  rw [show (256:Nat)=2 ^ 8 from rfl,← Nat.pow_mul];simp
 rw [e,this,Int.one_mul]
 clear this e
 generalize 256 ^ k=q at *
 exact wraps_u64 _ (by omega) (by omega)
/-! Single bits. -/
theorem bv_andNot (a b:BitVec 64):(a &&& ~~~b).toNat=a.toNat - (a.toNat &&& b.toNat):=by
 have h1:(a &&& ~~~b)+(a &&& b)=a:=by
  rw [BitVec.add_eq_or_of_and_eq_zero]
  ·ext i hi;simp;cases a[i] <;> cases b[i] <;> rfl
  ·ext i hi;simp;cases a[i] <;> cases b[i] <;> simp
 have h2:=congrArg BitVec.toNat h1
 rw [BitVec.toNat_add,BitVec.toNat_and a b] at h2
 have h3:a.toNat &&& b.toNat≤a.toNat:=Nat.and_le_left
 have h4:(a &&& ~~~b).toNat≤a.toNat:=by rw [BitVec.toNat_and];exact Nat.and_le_left
 have h5:=a.isLt
 have h6:=(a &&& ~~~b).isLt
 omega
theorem toNat_ofInt_nat {x:Nat} (h:x < 18446744073709551616):(BitVec.ofInt 64 (x:Int)).toNat=x:=by
 rw [BitVec.ofInt_natCast,BitVec.toNat_ofNat,Nat.mod_eq_of_lt h]
theorem andNot_i64 (x m:Nat) (hx:x < 9223372036854775808) (hm:m < 9223372036854775808):Go.bits .andNot .i64 (x:Int) (m:Int)=((x - (x &&& m):Nat):Int):=by
 show IntKind.i64.wrap ((BitVec.ofInt 64 (x:Int) &&& ~~~(BitVec.ofInt 64 (m:Int))).toNat:Int)=_
 rw [bv_andNot,toNat_ofInt_nat (by omega),toNat_ofInt_nat (by omega)]
 exact wraps_i64 _ (by omega) (by omega)
theorem bits_nat_i64 (x m:Nat) (hx:x < 9223372036854775808) (hm:m < 9223372036854775808) :
  Go.bits .and .i64 (x:Int) (m:Int)=((x &&& m:Nat):Int)∧Go.bits .or .i64 (x:Int) (m:Int)=((x ||| m:Nat):Int) :=
 bits_nat .i64 63 (by decide) wraps_i64 x m (by omega) (by omega)
end Go.Proofs.Ytkgbhlcbjflnlaa.Mth
