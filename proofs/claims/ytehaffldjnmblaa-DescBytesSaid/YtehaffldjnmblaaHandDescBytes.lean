/- The law DescBytes: its walk, and its plain law, joined: for every input it returns true and leaves old memory as it was. -/
import Derived.Test.YtehaffldjnmblaaWd
import Derived.Test.YtehaffldjnmblaaPx14
namespace Go.Proofs.Ytehaffldjnmblaa.Hand
open Go Go.RowKit Go.Proofs.Ytehaffldjnmblaa.P Go.Proofs.YtehaffldjnmblaaW.PrintWords Go.Proofs.YtehaffldjnmblaaW.PrintLast Go.Proofs.YtehaffldjnmblaaW.PrintMore Go.Proofs.Ytehaffldjnmblaa.Mth Go.Proofs.Ytehaffldjnmblaa.Wd
set_option linter.unusedVariables false
set_option linter.unusedSimpArgs false
theorem u32_nat {x : Int} (h : (Lit.int .u32 x).wf = true) : ∃ n : Nat, x = (n : Int) ∧ n < 4294967296 := by
  have := bounds_u32 h
  exact ⟨x.toNat, by omega, by omega⟩
theorem u64_nat {x : Int} (h : (Lit.int .u64 x).wf = true) : ∃ n : Nat, x = (n : Int) ∧ n < 18446744073709551616 := by
  have := u64_wf h
  exact ⟨x.toNat, by omega, by omega⟩
theorem dig_inj {n a b : Nat} (ha : a < 256 ^ n) (hb : b < 256 ^ n) (h : dig n a = dig n b) : a = b := by
  rw [← val_dig_lt ha, h, val_dig_lt hb]
theorem DescBytes (a l i f b : Int) (w : World) (h0 : (Lit.int .u64 a).wf = true) (h1 : (Lit.int .u32 l).wf = true) (h2 : (Lit.int .i64 i).wf = true) (h3 : (Lit.int .i64 f).wf = true) (h4 : (Lit.int .u64 b).wf = true) :
    Calls Try.prog 7 #[.agg #[.int .u64 a, .int .u32 l, .int .i64 i, .int .i64 f], .int .u64 b] w fun e w' => e = .returned (.bool true) ∧ Below w.heap.size w w' := by
  obtain ⟨a, rfl, ha⟩ := u64_nat h0
  obtain ⟨l, rfl, hl⟩ := u32_nat h1
  obtain ⟨b, rfl, hb⟩ := u64_nat h4
  have hi := (i64_wf h2).2
  have hf := (i64_wf h3).2
  clear h0 h1 h2 h3 h4
  obtain ⟨k3, e3⟩ := build a l i f ha hl hi hf
  obtain ⟨k4, e4⟩ := build b l i f hb hl hi hf
  simp only at e3 e4
  refine aqueductlaw12_DescBytes.calls (k3 + k4 + 40) (a : Int) (l : Int) i f (b : Int) true w ?_ rfl
  unfold aqueductlaw12_DescBytes.f
  rw [e3 _ (by omega), e4 _ (by omega), fixed12 _ (by omega)]
  clear e3 e4
  by_cases h : 0 ≤ i ∧ i ≤ 65535 ∧ 0 ≤ f ∧ f ≤ 65535
  · obtain ⟨x, rfl⟩ := Int.eq_ofNat_of_zero_le h.1
    obtain ⟨y, rfl⟩ := Int.eq_ofNat_of_zero_le h.2.2.1
    have p : ∀ c : Nat, buildS c l (x : Int) (y : Int) = ((dig 8 c).reverse ++ ((dig 4 l).reverse ++ ((dig 2 x).reverse ++ (dig 2 y).reverse)), 0) := by
      intro c; unfold buildS; rw [if_pos h]; simp [List.append_assoc]
    rw [p a, p b]
    obtain ⟨R, hR⟩ : ∃ R, R = (dig 4 l).reverse ++ ((dig 2 x).reverse ++ (dig 2 y).reverse) := ⟨_, rfl⟩
    have lR : R.length = 8 := by rw [hR]; simp [dig_length]
    have bR : Bt R := by rw [hR]; exact (dig_bt _ _).reverse.append ((dig_bt _ _).reverse.append (dig_bt _ _).reverse)
    rw [← hR]
    have l8 : ∀ c, (dig 8 c).reverse.length = 8 := fun c => by rw [List.length_reverse, dig_length]
    have b8 : ∀ c, Bt ((dig 8 c).reverse ++ R) := fun c => (dig_bt _ _).reverse.append bR
    have s16 : ∀ c, (mk ((dig 8 c).reverse ++ R)).size = 16 := fun c => by rw [mk_size, List.length_append, l8, lR]
    have t1 : ((mk ((dig 8 a).reverse ++ R)).extract 8 16).toList = ((mk ((dig 8 b).reverse ++ R)).extract 8 16).toList := by
      refine congrArg ByteArray.toList (B_inj ?_)
      rw [B_extract, B_extract, B_mk (b8 a), B_mk (b8 b), List.take_of_length_le (by rw [List.length_append, l8, lR]; decide), List.take_of_length_le (by rw [List.length_append, l8, lR]; decide),
        List.drop_append_of_le_length (by rw [l8]; decide), List.drop_append_of_le_length (by rw [l8]; decide), List.drop_of_length_le (by rw [l8]; decide), List.drop_of_length_le (by rw [l8]; decide)]
    have t0 : ∀ c, B ((mk ((dig 8 c).reverse ++ R)).extract 0 8) = (dig 8 c).reverse := by
      intro c
      rw [B_extract, B_mk (b8 c), List.drop_zero, List.take_append_of_le_length (by rw [l8]; decide), List.take_of_length_le (by rw [l8]; decide)]
    have t2 : ((((mk ((dig 8 a).reverse ++ R)).extract 0 8).toList == ((mk ((dig 8 b).reverse ++ R)).extract 0 8).toList) == ((a : Int) == (b : Int))) = true := by
      rw [beq_iff_eq, Bool.eq_iff_iff, beq_iff_eq, beq_iff_eq]
      constructor
      · intro e
        have e2 := toList_B e
        rw [t0, t0] at e2
        have e3 := dig_inj (n := 8) (by omega) (by omega) (List.reverse_inj.1 e2)
        omega
      · intro e
        have : a = b := by omega
        rw [this]
    have gx : ∀ j, ((dig 8 a).reverse ++ R).getD (8 + j) 0 = R.getD j 0 := by
      intro j
      rw [List.getD_eq_getElem?_getD, List.getElem?_append_right (by rw [l8]; omega), l8, List.getD_eq_getElem?_getD, show 8 + j - 8 = j from by omega]
    have r4 : R = [l % 256, l / 256 % 256, l / 256 / 256 % 256, l / 256 / 256 / 256 % 256, x % 256, x / 256 % 256, y % 256, y / 256 % 256] := by rw [hR]; simp [dig]
    have v4 : R.getD 4 0 = x % 256 := by rw [r4]; rfl
    have v5 : R.getD 5 0 = x / 256 % 256 := by rw [r4]; rfl
    have v6 : R.getD 6 0 = y % 256 := by rw [r4]; rfl
    have v7 : R.getD 7 0 = y / 256 % 256 := by rw [r4]; rfl
    clear hR r4
    have bt12 : bt (mk ((dig 8 a).reverse ++ R)) 12 = ((x % 256 : Nat) : Int) := by
      have := bt_eq (mk ((dig 8 a).reverse ++ R)) 12
      rw [B_mk (b8 a), gx 4, v4] at this; exact this
    have bt13 : bt (mk ((dig 8 a).reverse ++ R)) 13 = ((x / 256 % 256 : Nat) : Int) := by
      have := bt_eq (mk ((dig 8 a).reverse ++ R)) 13
      rw [B_mk (b8 a), gx 5, v5] at this; exact this
    have bt14 : bt (mk ((dig 8 a).reverse ++ R)) 14 = ((y % 256 : Nat) : Int) := by
      have := bt_eq (mk ((dig 8 a).reverse ++ R)) 14
      rw [B_mk (b8 a), gx 6, v6] at this; exact this
    have bt15 : bt (mk ((dig 8 a).reverse ++ R)) 15 = ((y / 256 % 256 : Nat) : Int) := by
      have := bt_eq (mk ((dig 8 a).reverse ++ R)) 15
      rw [B_mk (b8 a), gx 7, v7] at this; exact this
    have z16 : (((16 : Nat) : Int) = 16) := rfl
    simp only [Option.bind_some, if_true, s16, z16, t1, bt12, bt13, bt14, bt15]
    clear bt12 bt13 bt14 bt15 gx t1 z16 v4 v5 v6 v7
    rw [w64 ((x % 256 : Nat) : Int) _ rfl (by omega) (by omega), w64 ((x / 256 % 256 : Nat) : Int) _ rfl (by omega) (by omega), w64 (256 * ((x / 256 % 256 : Nat) : Int)) _ rfl (by omega) (by omega),
      w64 (((x % 256 : Nat) : Int) + 256 * ((x / 256 % 256 : Nat) : Int)) (x : Int) (by omega) (by omega) (by omega),
      w64 ((y % 256 : Nat) : Int) _ rfl (by omega) (by omega), w64 ((y / 256 % 256 : Nat) : Int) _ rfl (by omega) (by omega), w64 (256 * ((y / 256 % 256 : Nat) : Int)) _ rfl (by omega) (by omega),
      w64 (((y % 256 : Nat) : Int) + 256 * ((y / 256 % 256 : Nat) : Int)) (y : Int) (by omega) (by omega) (by omega), t2]
    simp
  · have p : ∀ c : Nat, buildS c l i f = ([], 1) := by intro c; unfold buildS; rw [if_neg h]
    have n0 : (mk []).toList = [] := by rw [toList_eq]; rfl
    have d1 : ¬ (1 : Int) = 0 := by decide
    simp only [p, Option.bind_some, if_neg d1, n0, if_true]
end Go.Proofs.Ytehaffldjnmblaa.Hand
