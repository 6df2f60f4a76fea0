/- Addresses and their texts: laws by hand. -/
import Derived.Test.YtiffbjpmmbfkjaaDoorHand
import Derived.Test.YtiffbjpmmbfkjaaDoorPx1
import Derived.Test.YtiffbjpmmbfkjaaDoorPx4
import Derived.Test.YtiffbjpmmbfkjaaDoorPx5
import Derived.Test.YtiffbjpmmbfkjaaDoorPx6
import Derived.Test.YtiffbjpmmbfkjaaDoorPx7
import Derived.Test.YtiffbjpmmbfkjaaDoorPx8
import Derived.Test.YtiffbjpmmbfkjaaDoorPx9
import Derived.Test.YtiffbjpmmbfkjaaDoorPx10
import Derived.Test.YtiffbjpmmbfkjaaDoorPx11
namespace Go.Proofs.YtiffbjpmmbfkjaaDoor.Wd
open Go Go.RowKit Go.Proofs.YtiffbjpmmbfkjaaDoor.Mth Go.Proofs.YtiffbjpmmbfkjaaDoorW.PrintWords Go.Proofs.YtiffbjpmmbfkjaaDoorW.PrintLast Go.Proofs.YtiffbjpmmbfkjaaDoorW.PrintMore Go.Proofs.YtiffbjpmmbfkjaaDoor.P Go.Proofs Go.Proofs.YtiffbjpmmbfkjaaDoor.Ad
set_option linter.unusedVariables false
set_option linter.unusedSimpArgs false
/-! What the functions come to. -/
theorem rounds {α : Type} {f : Nat → Option α} {r : α} (hm : ∀ k, LeO (f k) (f (k + 1))) {K : Nat} (h : f K = some r) : ∀ k, K ≤ k → f k = some r := fun k hk => at_rounds hm hk h
theorem fixed05 : aqueductlaw05_fixed.f = some true := by decide +kernel
theorem printE (a : ByteArray) : addr_Print.f a = some (mk (printS (B a)).1, (printS (B a)).2) := by
  unfold addr_Print.f printS
  rw [B_length]
  by_cases h : a.size = 6
  · rw [if_pos h, if_pos h]
  · rw [if_neg h, if_neg h]; rfl
theorem parseE (a : ByteArray) (h : a.size < 4294967281) : addr_Parse.f a = some (mk (parseS (B a)).1, (parseS (B a)).2) := by
  unfold addr_Parse.f
  rw [if_pos h]
theorem eqL (s t : ByteArray) : (s.toList = t.toList) ↔ B s = B t := ⟨toList_B, fun h => by rw [B_inj h]⟩
theorem beqL (s t : ByteArray) : (s.toList == t.toList) = decide (B s = B t) := by
  by_cases h : B s = B t
  · rw [decide_eq_true h, B_inj h]; exact beq_self_eq_true _
  · rw [decide_eq_false h]; exact beq_eq_false_iff_ne.2 fun e => h (toList_B e)
theorem six {l : List Nat} (h : l.length = 6) : ∃ b0 b1 b2 b3 b4 b5, l = [b0, b1, b2, b3, b4, b5] := by
  match l, h with
  | [b0, b1, b2, b3, b4, b5], _ => exact ⟨b0, b1, b2, b3, b4, b5, rfl⟩
def kindS (b : List Nat) : Int := if b.length = 6 then (if b = [255, 255, 255, 255, 255, 255] then 3 else if b.getD 0 0 % 2 = 1 then 2 else 1) else 0
theorem kindE (a : ByteArray) : addr_Kind.f a = some (kindS (B a)) := by
  unfold addr_Kind.f kindS
  rw [B_length]
  by_cases h : a.size = 6
  · rw [if_pos (by omega), if_pos h]
    have e : (a.toList = ([255, 255, 255, 255, 255, 255] : List UInt8)) ↔ B a = [255, 255, 255, 255, 255, 255] := by
      rw [show ([255, 255, 255, 255, 255, 255] : List UInt8) = (⟨#[255, 255, 255, 255, 255, 255]⟩ : ByteArray).toList by rw [ByteArray.toList_eq], eqL]
      rfl
    have e2 : Go.bits .and .u8 (bt a 0) 1 = (((B a).getD 0 0 % 2 : Nat) : Int) := by
      rw [show (0 : Int) = ((0 : Nat) : Int) from rfl, bt_eq]
      have q : ∀ b : Fin 256, Go.bits .and .u8 ((b.1 : Nat) : Int) 1 = ((b.1 % 2 : Nat) : Int) := by decide +kernel
      exact q ⟨_, getD_lt (B_bt a) 0⟩
    by_cases h2 : B a = [255, 255, 255, 255, 255, 255]
    · rw [if_pos (e.2 h2), if_pos h2]
    · rw [if_neg (fun q => h2 (e.1 q)), if_neg h2, if_pos (by omega), e2]
      by_cases h3 : (B a).getD 0 0 % 2 = 1
      · rw [if_pos (by omega), if_pos h3]
      · rw [if_neg (by omega), if_neg h3]
  · rw [if_neg (by omega), if_neg h]
/-! the document's -/
theorem rdigitE {d : Nat} (h : d < 16) : aqueductref05_digit.f (d : Int) = some (dg.extract d (d + 1)) := by
  unfold aqueductref05_digit.f
  rw [w64 ((d : Int) + 1) ((d + 1 : Nat) : Int) (by omega) (by omega) (by omega), if_pos (by omega), if_pos (by omega), if_pos (by omega)]
  simp only [Int.toNat_natCast]
  rfl
theorem ext_size {d : Nat} (h : d < 16) : (dg.extract d (d + 1)).size = 1 := by
  rw [ByteArray.size_extract]; show min (d + 1) 16 - d = 1; omega
theorem bt_nat (a : ByteArray) {i b : Nat} (h : (B a).getD i 0 = b) : bt a (i : Int) = (b : Int) ∧ b < 256 := by
  subst h
  exact ⟨bt_eq a i, getD_lt (B_bt a) i⟩
theorem hi64 {b : Nat} (h : b < 256) : wrap64 (Int.tdiv (wrap64 (b : Int)) 16) = ((b / 16 : Nat) : Int) := by
  rw [w64 (b : Int) b rfl (by omega) (by omega)]
  exact w64 _ _ (by rw [show (16 : Int) = ((16 : Nat) : Int) from rfl, ← Int.ofNat_tdiv]) (by omega) (by omega)
theorem lo64 {b : Nat} (h : b < 256) : Int.tmod (wrap64 (b : Int)) 16 = ((b % 16 : Nat) : Int) := by
  rw [w64 (b : Int) b rfl (by omega) (by omega)]
  rfl
theorem rp_first (k : Nat) (a : ByteArray) {b : Nat} (h6 : a.size = 6) (hb : (B a).getD 0 0 = b) : aqueductref05_Print.l0 (k + 1) a ⟨#[]⟩ 0 = aqueductref05_Print.l0 k a (⟨#[]⟩ ++ twS b) 1 := by
  obtain ⟨e, hlt⟩ := bt_nat a hb
  rw [aqueductref05_Print.l0, if_pos (by decide), if_neg (by decide), if_pos (by decide), if_pos (by omega), show (0 : Int) = ((0 : Nat) : Int) from rfl, e, hi64 hlt, lo64 hlt, rdigitE (by omega), rdigitE (by omega)]
  simp only [Option.bind_some]
  rw [if_pos (by rw [ext_size (by omega), ext_size (by omega)]; decide), if_pos (by rw [ByteArray.size_append, ext_size (by omega), ext_size (by omega)]; decide)]
  rw [w64 (((0 : Nat) : Int) + 1) 1 (by decide) (by decide) (by decide)]
  rfl
theorem rp_step (k : Nat) (a acc : ByteArray) (i : Nat) {b : Nat} (h6 : a.size = 6) (h0 : 0 < i) (hi : i < 6) (hs : acc.size ≤ 100) (hb : (B a).getD i 0 = b) :
    aqueductref05_Print.l0 (k + 1) a acc (i : Int) = aqueductref05_Print.l0 k a ((acc ++ ⟨#[58]⟩) ++ twS b) ((i + 1 : Nat) : Int) := by
  obtain ⟨e, hlt⟩ := bt_nat a hb
  rw [aqueductref05_Print.l0, if_pos (by omega), if_pos (by omega), if_pos (by omega), if_pos (by omega), if_pos (by omega), e, hi64 hlt, lo64 hlt, rdigitE (by omega), rdigitE (by omega)]
  simp only [Option.bind_some]
  rw [if_pos (by rw [ext_size (by omega), ext_size (by omega)]; decide), if_pos (by rw [ByteArray.size_append, ByteArray.size_append, ext_size (by omega), ext_size (by omega)]; have : (⟨#[58]⟩ : ByteArray).size = 1 := rfl; omega)]
  rw [w64 ((i : Int) + 1) ((i + 1 : Nat) : Int) (by omega) (by omega) (by omega)]
  rfl
theorem rprintE (a : ByteArray) : ∀ k, 7 ≤ k → aqueductref05_Print.f k a = some (mk (printS (B a)).1, (printS (B a)).2) := by
  refine rounds (aqueductref05_Print.mono a) (K := 7) ?_
  unfold aqueductref05_Print.f printS
  rw [B_length]
  by_cases h : a.size = 6
  · rw [if_pos (by omega), if_pos h]
    obtain ⟨b0, b1, b2, b3, b4, b5, e⟩ := six (l := B a) (by rw [B_length, h])
    have hb := B_bt a
    have g : ∀ x ∈ [b0, b1, b2, b3, b4, b5], x < 256 := fun x hx' => hb x (e ▸ hx')
    have t0 := twS_size (g b0 (by simp)); have t1 := twS_size (g b1 (by simp)); have t2 := twS_size (g b2 (by simp)); have t3 := twS_size (g b3 (by simp)); have t4 := twS_size (g b4 (by simp))
    have z : (⟨#[58]⟩ : ByteArray).size = 1 := rfl
    have z0 : (⟨#[]⟩ : ByteArray).size = 0 := rfl
    rw [rp_first 6 a h (b := b0) (by rw [e]; rfl), show (1 : Int) = ((1 : Nat) : Int) from rfl,
      rp_step 5 a _ 1 h (by decide) (by decide) (by simp only [ByteArray.size_append]; omega) (b := b1) (by rw [e]; rfl),
      rp_step 4 a _ 2 h (by decide) (by decide) (by simp only [ByteArray.size_append]; omega) (b := b2) (by rw [e]; rfl),
      rp_step 3 a _ 3 h (by decide) (by decide) (by simp only [ByteArray.size_append]; omega) (b := b3) (by rw [e]; rfl),
      rp_step 2 a _ 4 h (by decide) (by decide) (by simp only [ByteArray.size_append]; omega) (b := b4) (by rw [e]; rfl),
      rp_step 1 a _ 5 h (by decide) (by decide) (by simp only [ByteArray.size_append]; omega) (b := b5) (by rw [e]; rfl)]
    rw [aqueductref05_Print.l0, if_neg (by decide)]
    have key : ⟨#[]⟩ ++ twS b0 ++ ⟨#[58]⟩ ++ twS b1 ++ ⟨#[58]⟩ ++ twS b2 ++ ⟨#[58]⟩ ++ twS b3 ++ ⟨#[58]⟩ ++ twS b4 ++ ⟨#[58]⟩ ++ twS b5 = mk (textS (B a)) := by
      apply B_inj
      rw [B_mk (text_bt hb (by rw [B_length, h])), e]
      simp only [B_append, B_twS (g b0 (by simp)), B_twS (g b1 (by simp)), B_twS (g b2 (by simp)), B_twS (g b3 (by simp)), B_twS (g b4 (by simp)), B_twS (g b5 (by simp)), show B ⟨#[]⟩ = [] from rfl, show B ⟨#[58]⟩ = [58] from rfl,
        textS, joinS, List.map_cons, List.map_nil, two, List.cons_append, List.nil_append]
    rw [key]
  · rw [if_neg (by omega), if_neg h]; rfl

def valS (c : Nat) : Nat := if digitS c < 0 then 0 else (digitS c).toNat
theorem valS_lt (c : Nat) : valS c < 16 := by
  unfold valS
  split
  · decide
  · next h => exact (hx_digit h).2
theorem valS_hx {d : Nat} (h : d < 16) : valS (hx d) = d := by
  unfold valS; rw [digit_hx h, if_neg (by omega)]; rfl
theorem valS_none {c : Nat} (h : ∀ j, j < 16 → hx j ≠ c) : valS c = 0 := by unfold valS; rw [digitS_none h]; rfl
theorem ext_bt {d : Nat} (h : d < 16) : bt (dg.extract d (d + 1)) 0 = (hx d : Int) := by
  rw [show (0 : Int) = ((0 : Nat) : Int) from rfl, bt_eq, dg_one ⟨d, h⟩]; rfl
theorem rvalue_from (c : Nat) : ∀ (m n k : Nat), n + m = 16 → (∀ j, j < n → hx j ≠ c) → m + 1 ≤ k → aqueductref05_value.l0 k (c : Int) (n : Int) = some (valS c : Int)
  | 0, n, k, hn, hj, hk => by
    obtain ⟨k, rfl⟩ : ∃ q, k = q + 1 := ⟨k - 1, by omega⟩
    rw [aqueductref05_value.l0, if_neg (by omega), valS_none fun j h => hj j (by omega)]; rfl
  | m + 1, n, k, hn, hj, hk => by
    obtain ⟨k, rfl⟩ : ∃ q, k = q + 1 := ⟨k - 1, by omega⟩
    rw [aqueductref05_value.l0, if_pos (by omega), rdigitE (by omega)]
    simp only [Option.bind_some]
    rw [if_pos (by rw [ext_size (by omega)]; decide), ext_bt (by omega)]
    by_cases he : hx n = c
    · rw [if_pos (by rw [he]), ← he, valS_hx (by omega)]
    · rw [if_neg (by omega), w64 ((n : Int) + 1) ((n + 1 : Nat) : Int) (by omega) (by omega) (by omega)]
      exact rvalue_from c m (n + 1) k (by omega) (fun j h => by
        by_cases e : j = n
        · rw [e]; exact he
        · exact hj j (by omega)) (by omega)
theorem rvalueE (c k : Nat) (hk : 17 ≤ k) : aqueductref05_value.f k (c : Int) = some (valS c : Int) :=
  rvalue_from c 16 0 k rfl (fun j h => absurd h (by omega)) (by omega)
def byteS (l : List Nat) (i : Nat) : Nat := 16 * valS (l.getD (3 * i) 0) + valS (l.getD (3 * i + 1) 0)
theorem byteS_lt (l : List Nat) (i : Nat) : byteS l i < 256 := by
  have h1 := valS_lt (l.getD (3 * i) 0); have h2 := valS_lt (l.getD (3 * i + 1) 0)
  unfold byteS; omega
theorem rq_step (k : Nat) (a : ByteArray) (acc : List Int) (i : Nat) (hk : 17 ≤ k) (h17 : a.size = 17) (hi : i < 6) (hs : acc.length ≤ 100) :
    aqueductref05_Parse.l0 (k + 1) a acc (i : Int) = aqueductref05_Parse.l0 k a (acc ++ [(byteS (B a) i : Int)]) ((i + 1 : Nat) : Int) := by
  obtain ⟨u, hu⟩ : ∃ u, (B a).getD (3 * i) 0 = u := ⟨_, rfl⟩
  obtain ⟨v, hv⟩ : ∃ v, (B a).getD (3 * i + 1) 0 = v := ⟨_, rfl⟩
  have e1 := (bt_nat a hu).1
  have e2 := (bt_nat a hv).1
  have v1 := valS_lt u
  have v2 := valS_lt v
  have eb : byteS (B a) i = 16 * valS u + valS v := by unfold byteS; rw [hu, hv]
  have r1 := rvalueE u k hk
  have r2 := rvalueE v k hk
  rw [eb]
  clear hu hv eb
  generalize valS u = x at *
  generalize valS v = y at *
  have w6 : ((16 * x + y : Nat) : Int) % 256 = ((16 * x + y : Nat) : Int) := by omega
  have c1 : (i : Int) < 6 := by omega
  have c2 : (0 : Int) ≤ ((3 * i : Nat) : Int) := by omega
  have c3 : ((3 * i : Nat) : Int) < (a.size : Int) := by omega
  have c4 : (0 : Int) ≤ ((3 * i + 1 : Nat) : Int) := by omega
  have c5 : ((3 * i + 1 : Nat) : Int) < (a.size : Int) := by omega
  have c6 : acc.length < 140737488355328 := by omega
  rw [aqueductref05_Parse.l0, if_pos c1, w64 (3 * (i : Int)) ((3 * i : Nat) : Int) (by omega) (by omega) (by omega), if_pos c2, if_pos c3, e1, r1, Option.bind_some,
    w64 (((3 * i : Nat) : Int) + 1) ((3 * i + 1 : Nat) : Int) (by omega) (by omega) (by omega), if_pos c4, if_pos c5, e2, r2, Option.bind_some, if_pos c6,
    w64 ((i : Int) + 1) ((i + 1 : Nat) : Int) (by omega) (by omega) (by omega), w64 (16 * (x : Int)) ((16 * x : Nat) : Int) (by omega) (by omega) (by omega),
    w64 (((16 * x : Nat) : Int) + (y : Int)) ((16 * x + y : Nat) : Int) (by omega) (by omega) (by omega), w6]
theorem seventeen {b : List Nat} (hb : Bt b) (h6 : b.length = 6) : ∀ i, i < 6 → byteS (textS b) i = b.getD i 0 := by
  obtain ⟨b0, b1, b2, b3, b4, b5, rfl⟩ := six h6
  have g : ∀ x ∈ [b0, b1, b2, b3, b4, b5], x < 256 := fun x hx' => hb x hx'
  have k0 := g b0 (by simp); have k1 := g b1 (by simp); have k2 := g b2 (by simp); have k3 := g b3 (by simp); have k4 := g b4 (by simp); have k5 := g b5 (by simp)
  intro i hi
  have q : i = 0 ∨ i = 1 ∨ i = 2 ∨ i = 3 ∨ i = 4 ∨ i = 5 := by omega
  have r : ∀ x, x < 256 → 16 * valS (hx (x / 16)) + valS (hx (x % 16)) = x := fun x h => by rw [valS_hx (by omega), valS_hx (by omega)]; omega
  rcases q with rfl | rfl | rfl | rfl | rfl | rfl
  · exact r b0 k0
  · exact r b1 k1
  · exact r b2 k2
  · exact r b3 k3
  · exact r b4 k4
  · exact r b5 k5
theorem rparseE (a : ByteArray) : ∀ k, 30 ≤ k → aqueductref05_Parse.f k a = some (mk (parseS (B a)).1, (parseS (B a)).2) := by
  refine rounds (aqueductref05_Parse.mono a) (K := 30) ?_
  unfold aqueductref05_Parse.f
  by_cases h : a.size = 17
  · rw [if_pos (by omega)]
    rw [show (0 : Int) = ((0 : Nat) : Int) from rfl, rq_step 29 a [] 0 (by decide) h (by decide) (by decide), rq_step 28 a _ 1 (by decide) h (by decide) (by simp), rq_step 27 a _ 2 (by decide) h (by decide) (by simp),
      rq_step 26 a _ 3 (by decide) h (by decide) (by simp), rq_step 25 a _ 4 (by decide) h (by decide) (by simp), rq_step 24 a _ 5 (by decide) h (by decide) (by simp)]
    rw [aqueductref05_Parse.l0, if_neg (by decide)]
    have es : ([] ++ [(byteS (B a) 0 : Int)] ++ [(byteS (B a) 1 : Int)] ++ [(byteS (B a) 2 : Int)] ++ [(byteS (B a) 3 : Int)] ++ [(byteS (B a) 4 : Int)] ++ [(byteS (B a) 5 : Int)] : List Int) = ([byteS (B a) 0, byteS (B a) 1, byteS (B a) 2, byteS (B a) 3, byteS (B a) 4, byteS (B a) 5]).map fun (x : Nat) => (x : Int) := rfl
    rw [es, strOfNums_cast]
    obtain ⟨bs, ebs⟩ : ∃ bs, [byteS (B a) 0, byteS (B a) 1, byteS (B a) 2, byteS (B a) 3, byteS (B a) 4, byteS (B a) 5] = bs := ⟨_, rfl⟩
    have hbs : Bt bs := by
      intro x hx'
      rw [← ebs] at hx'
      simp only [List.mem_cons, List.not_mem_nil, or_false] at hx'
      rcases hx' with rfl | rfl | rfl | rfl | rfl | rfl <;> exact byteS_lt _ _
    have hl6 : bs.length = 6 := by rw [← ebs]; rfl
    rw [ebs, rprintE _ _ (by decide), B_mk hbs]
    simp only [Option.bind_some, eqL]
    unfold printS
    rw [if_pos hl6]
    simp only [B_mk (text_bt hbs hl6)]
    rcases parse_inv (B a) with ⟨b, h1, h2, h3, h4⟩ | ⟨h1, h2⟩
    · have e : bs = b := by
        obtain ⟨b0, b1, b2, b3, b4, b5, q⟩ := six h2
        have s := seventeen h1 h2
        rw [← ebs, ← h3, s 0 (by decide), s 1 (by decide), s 2 (by decide), s 3 (by decide), s 4 (by decide), s 5 (by decide), q]; rfl
      rw [if_pos (by rw [e, h3]), h4, e]
    · rw [if_neg (h2 bs hbs hl6), h1]; rfl
  · rw [if_neg (by omega)]
    rcases parse_inv (B a) with ⟨b, h1, h2, h3, h4⟩ | ⟨h1, h2⟩
    · exact absurd (by rw [← B_length, ← h3, text_len h2]) h
    · rw [h1]; rfl
end Go.Proofs.YtiffbjpmmbfkjaaDoor.Wd
