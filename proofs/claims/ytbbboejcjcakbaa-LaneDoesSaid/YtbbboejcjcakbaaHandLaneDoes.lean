/- The law LaneDoes, walked by hand over the contracts of what it calls: for every input it returns true and leaves old memory as it was. -/
import Derived.Test.YtbbboejcjcakbaaTwo
import Derived.Test.YtbbboejcjcakbaaMth
import Derived.Test.YtbbboejcjcakbaaPx2
namespace Go.Proofs.Ytbbboejcjcakbaa.Hand
open Go Go.RowKit Go.Proofs.YtbbboejcjcakbaaW.PrintWords Go.Proofs.YtbbboejcjcakbaaW.PrintLast Go.Proofs.YtbbboejcjcakbaaW.PrintMore Go.Proofs.Ytbbboejcjcakbaa.Own Go.Proofs.Ytbbboejcjcakbaa.P Go.Proofs.Ytbbboejcjcakbaa.Lane Go.Proofs.Ytbbboejcjcakbaa
set_option linter.unusedVariables false
set_option linter.unusedSimpArgs false
theorem same_l (l : List ByteArray) (hl : l.length ≤ 1099511627776) : ∀ (d i k : Nat), i ≤ l.length → l.length - i = d → d < k → aqueductref19_Same.l0 k l l (i : Int) = some true := by
  intro d
  induction d with
  | zero =>
    intro i k hi hd hk
    obtain ⟨k, rfl⟩ : ∃ m, k = m + 1 := ⟨k - 1, by omega⟩
    simp only [aqueductref19_Same.l0]
    rw [if_neg (by omega)]
  | succ d ih =>
    intro i k hi hd hk
    obtain ⟨k, rfl⟩ : ∃ m, k = m + 1 := ⟨k - 1, by omega⟩
    simp only [aqueductref19_Same.l0]
    have e3 : wrap64 ((i : Int) + 1) = ((i + 1 : Nat) : Int) := by rw [Mth.wrap64_in (by omega) (by omega)]; omega
    rw [if_pos (show (i : Int) < (l.length : Int) by omega), if_pos (by omega), if_pos (show (i : Int) < (l.length : Int) by omega), if_true, e3]
    exact ih (i + 1) k (by omega) (by omega) (by omega)
theorem same_f (l : List ByteArray) (hl : l.length ≤ 1099511627776) : aqueductref19_Same.f (l.length + 1) l l = some true := by
  unfold aqueductref19_Same.f
  rw [if_pos rfl]
  exact same_l l hl l.length 0 _ (by omega) (by omega) (by omega)
/-- The document's Same at one and the same texts. -/
theorem Same_ok (l : List ByteArray) (n : Nat) (hn : l.length = n) (A A' : Option Addr) (c c' : Nat) (W : World) (hl : l.length ≤ 1099511627776) (h1 : ReadsOf Value.string ByteArray.empty W A n l) (k1 : n ≤ c) (h2 : ReadsOf Value.string ByteArray.empty W A' n l) (k2 : n ≤ c') :
    Calls Try.prog 16 #[.slice A n c, .slice A' n c'] W fun e w' => e = .returned (.bool true) ∧ ∃ n, w' = W.drewN n := by
  subst hn
  refine (aqueductref19_Same.calls (l.length + 1) A c l A' c' l true W (Kd.C_of_reads h1) k1 (Kd.C_of_reads h2) k2 (same_f l hl)).mono ?_
  rintro e w' ⟨rfl, h⟩
  exact ⟨rfl, h.out⟩
/-- All that is there. -/
theorem list_ {w0 w : World} {g : Nat} {xs : List ByteArray} {room lost : Int} (n : Nat) (hn : xs.length = n) (hl : xs.length ≤ 1099511627776) (h : Strs.Lane w0 w g xs room lost) :
    Calls Try.prog 17 #[Strs.ptr g] w fun e w' => ∃ A c, e = .returned (.slice A n c) ∧ n ≤ c ∧ w'.ownsRow w.heap.size 9 1 (.slice A n c) n (xs.map fun x => .string x) ∧ ReadsOf Value.string ByteArray.empty w' A n xs ∧ Strs.Lane w0 w' g xs room lost ∧ Below w.heap.size w w' := by
  subst hn
  have h' := h
  obtain ⟨v, s⟩ := h
  refine (Strs.List_ g v xs room lost w hl s.ln).mono ?_
  rintro e w' ⟨v', rfl, ho, hb⟩
  obtain ⟨A, c, rfl, hc, hr⟩ := own_reads_of_le (enc := Value.string) (d := ByteArray.empty) (xs := xs) ho
  exact ⟨A, c, rfl, hc, ho, hr, h'.beside hb, hb⟩
theorem drewL {w0 w : World} {g : Nat} {xs : List ByteArray} {room lost : Int} (h : Strs.Lane w0 w g xs room lost) : Strs.Lane w0 w.drew g xs room lost := h.beside (below_drew1 (Below.refl _ _))
theorem drewNL {w0 w : World} {g : Nat} {xs : List ByteArray} {room lost : Int} (m : Nat) (h : Strs.Lane w0 w g xs room lost) : Strs.Lane w0 (w.drewN m) g xs room lost := h.beside (pw_below_drewN (Below.refl _ _) m)

/-- A script's row: of each call its kind and its text. -/
def ReadsOp (w : World) (A : Option Addr) (ops : List (Int × ByteArray)) : Prop :=
  0 < ops.length → ∃ ad, A = some ad ∧ ∀ i, i < ops.length → w.cell? (ad.add (i * 2)) = some (.int .i64 (ops.getD i (0, ByteArray.empty)).1) ∧ w.cell? ⟨(ad.add (i * 2)).block, (ad.add (i * 2)).off + 1, none⟩ = some (.string (ops.getD i (0, ByteArray.empty)).2)
theorem ReadsOp.below {w w1 : World} {A : Option Addr} {ops : List (Int × ByteArray)} (h : ReadsOp w A ops) (hb : Below w.heap.size w w1) : ReadsOp w1 A ops := fun h0 => by
  obtain ⟨ad, e, hc⟩ := h h0
  exact ⟨ad, e, fun i hi => ⟨pw_cell_below hb (hc i hi).1, pw_cell_below hb (hc i hi).2⟩⟩
theorem start {w0 w1 w2 : World} {g : Nat} {room : Int} (h : Strs.Lane w0 w1 g [] room 0) (hr : Ref.Ln w2 w1.heap.size (.slice none 0 0) [] room 0) (hb : Below w1.heap.size w1 w2) : Mid w0 w2 g w1.heap.size [] 0 [] 0 room := by
  obtain ⟨v, s⟩ := h
  exact ⟨v, _, ⟨blk_below s.ln.blk hb, pw_own_below s.ln.own hb⟩, hr, ne_nil' v, below_step s.bel hb, s.hg, s.bel.size, s.hv, fun b hb => by simp [Value.ownBlock] at hb⟩
theorem same_q (l : List ByteArray) (n : Nat) (hn : l.length = n) (A A' : Option Addr) (c c' : Nat) (W : World) (hl : l.length ≤ 1099511627776) (h1 : ReadsOf Value.string ByteArray.empty W A n l) (k1 : n ≤ c) (h2 : ReadsOf Value.string ByteArray.empty W A' n l) (k2 : n ≤ c') (m : Nat) :
    Calls Try.prog 16 #[.slice A n c, .slice A' n c'] (W.drewN m) fun e w' => e = .returned (.bool true) ∧ ∃ q, w' = W.drewN q :=
  Calls.quiet_of (Same_ok l n hn A A' c c' (W.drewN m) hl (h1.below (pw_below_drewN (Below.refl _ _) m)) k1 (h2.below (pw_below_drewN (Below.refl _ _) m)) k2)
theorem len_q {w0 w : World} {g k : Nat} {xs ys : List ByteArray} {la lb room : Int} (h : Mid w0 w g k xs la ys lb room) (m : Nat) : Calls Try.prog 20 #[Strs.ptr g] (w.drewN m) fun e w' => e = .returned (.int .i64 (xs.length : Int)) ∧ ∃ q, w' = w.drewN q :=
  Calls.quiet_of_same (Mid.len (h.beside (pw_below_drewN (Below.refl _ _) m)))
theorem lost_q {w0 w : World} {g k : Nat} {xs ys : List ByteArray} {la lb room : Int} (h : Mid w0 w g k xs la ys lb room) (m : Nat) : Calls Try.prog 18 #[Strs.ptr g] (w.drewN m) fun e w' => e = .returned (.int .i64 la) ∧ ∃ q, w' = w.drewN q :=
  Calls.quiet_of_same (Mid.lost (h.beside (pw_below_drewN (Below.refl _ _) m)))
/-- What a round keeps. -/
structure Inv (n : Int) (i : Nat) (xs : List ByteArray) (lost : Int) : Prop where
  len : (xs.length : Int) ≤ n
  l0 : 0 ≤ lost
  li : lost ≤ i
set_option maxHeartbeats 16000000 in
set_option maxRecDepth 100000 in
theorem LaneDoes (room : Int) (A : Option Addr) (c : Nat) (ops : List (Int × ByteArray)) (w : World) (h0 : (Lit.int .i64 room).wf = true) (hle : ops.length ≤ c) (hmx : c ≤ 9223372036854775807) (hgd : ∀ a ∈ ops, (Lit.int .i64 a.1).wf = true ∧ a.2.size ≤ maxLen) (hcs : ReadsOp w A ops) :
    Calls Try.prog 6 #[.int .i64 room, .slice A ops.length c] w fun e w' => e = .returned (.bool true) ∧ Below w.heap.size w w' := by
  obtain ⟨n, en⟩ : ∃ n : Int, max 1 (min room 1024) = n := ⟨_, rfl⟩
  have n1 : 1 ≤ n := by omega
  have n2 : n ≤ 1024 := by omega
  have EN := Aside0.mk en
  have HCS := Aside0.mk hcs
  clear hcs h0 en hgd
  go_enter Try.func6, Try.ntmps6
  go_wp2_with fail
  rw [EN.out]
  refine (Strs.texts (w0 := w) n (Below.refl _ _) n1 n2).mono ?_
  rintro e w1 ⟨g, rfl, h1, -⟩
  have L1 := Aside0.mk h1
  clear h1
  go_wp2_with fail
  refine (Ref.New_ok n w1 n1 n2).mono ?_
  rintro e w2 ⟨rfl, h2, hb2⟩
  have L := Aside0.mk (start L1.out h2 hb2)
  clear h2 hb2 L1
  obtain ⟨k, ek⟩ : ∃ k, w1.heap.size = k := ⟨_, rfl⟩
  rw [ek] at L
  rw [ek]
  clear ek
  go_wp2_with fail
  go_loopg [6, 10] 150 (fun kk v6 v10 w' => ∃ (i g : Nat) (xs : List ByteArray) (lo : Int), v6 = Strs.ptr g ∧ v10 = .int .i64 (i : Int) ∧ Aside0 (i + kk = 150) ∧ Aside0 (Inv n i xs lo) ∧ Aside0 (Mid w w' g k xs lo xs lo n))
  case atStart => exact ⟨0, g, [], 0, rfl, rfl, ⟨rfl⟩, ⟨by simp only [List.length_nil]; omega, by omega, by omega⟩, L⟩
  case round =>
    clear L
    obtain ⟨i, g, xs, lo, rfl, rfl, hk, hI, L⟩ := hrel
    have hkk := hk.out
    have wi : IntKind.i64.wrap ((i : Int) + 1) = ((i + 1 : Nat) : Int) := by rw [IntKind.wrap_i64]; omega
    by_cases hc : i < ops.length ∧ i < 150
    · have c1 : decide ((i : Int) < (ops.length : Int)) = true := decide_eq_true (by omega)
      have c2 : decide ((i : Int) < 150) = true := decide_eq_true (by omega)
      have i0 : decide (0 ≤ (i : Int)) = true := decide_eq_true (by omega)
      obtain ⟨ki, rfl⟩ : ∃ m, gk = m + 1 := ⟨gk - 1, by omega⟩
      have R := HCS.out.below L.out.bel
      obtain ⟨ad, rfl, hcell⟩ := R (by omega)
      obtain ⟨hca, hcb⟩ := hcell i hc.1
      obtain ⟨⟨kd, s⟩, hop⟩ : ∃ o, ops.getD i (0, ByteArray.empty) = o := ⟨_, rfl⟩
      rw [hop] at hca hcb
      simp only at hca hcb
      clear R hcell hop
      have L0 := L
      clear L
      have L := Aside0.mk (L0.out.beside (below_alloc (Below.refl _ _) (.cells #[.int .i64 kd, .string s] 48)))
      have hi1 := hI.out.len
      have hi2 := hI.out.l0
      have hi3 := hI.out.li
      clear L0
      by_cases k0 : kd = 0
      · subst k0
        have d0 : ((0 : Int) == 0) = true := rfl
        by_cases hr : (xs.length : Int) < n
        · go_wp2_with fail
          refine (Mid.putA s hr (by omega) L.out).mono ?_
          rintro e w4 ⟨rfl, h4, h4k⟩
          have L4 := Aside0.mk h4
          have hq4 : w4.cell? ⟨wr.heap.size, 1, none⟩ = some (.string s) := (blk_cell (h4k _ _ _ (blk_new wr (.cells #[.int .i64 0, .string s] 48)) (by decide) (by decide)) 1).trans rfl
          clear h4 h4k L
          go_wp2_with fail
          clear hq4
          refine (Mid.putB s (by omega) (by omega) L4.out).mono ?_
          rintro e w5 ⟨rfl, h5⟩
          have L := Aside0.mk h5
          have I5 : Aside0 (Inv n (i + 1) (xs ++ [s]) lo) := ⟨⟨by rw [List.length_append, List.length_singleton]; omega, by omega, by omega⟩⟩
          clear h5 L4
          obtain ⟨q, hq⟩ : ∃ q : Nat, (xs ++ [s]).length = q := ⟨_, rfl⟩
          have q1 := I5.out.len
          rw [hq] at q1
          go_wp2_with fail
          refine (Mid.list q hq (by omega) L.out).mono ?_
          rintro e w6 ⟨A6, c6, rfl, hc6, ho6, hb6⟩
          have HO6 := Aside0.mk ho6
          have HB6 := Aside0.mk hb6
          have M6 := Aside0.mk (L.out.beside hb6)
          obtain ⟨A7, c7, k0, k2, kc, kr⟩ := M6.out.ref
          rw [hq] at k0 kc kr
          obtain ⟨A8, c8, he8, hc8, hr8⟩ := own_reads_of_le (enc := Value.string) (d := ByteArray.empty) (xs := (xs ++ [s])) (hq ▸ ho6)
          rw [hq] at he8 hc8 hr8
          injection he8 with e81 e82 e83
          subst e81
          subst e83
          clear e82
          have SQ := Aside0.mk (same_q (xs ++ [s]) q hq A6 A7 c6 c7 w6 (by omega) hr8 hc6 kr kc)
          have LQ := Aside0.mk (len_q M6.out)
          have OQ := Aside0.mk (lost_q M6.out)
          rw [hq] at LQ
          clear hr8 kr ho6 hb6 hc6 hc8 kc
          have HQ := Aside0.mk hq
          have B1 := Aside0.mk (below_step L.out.bel HB6.out)
          clear hq
          go_wp2_with fail
          go_quiet (first | (go_at_call 16; exact SQ.out _) | (go_at_call 20; exact LQ.out _) | (go_at_call 18; exact OQ.out _))
          clear k0 k2
          have ql := HQ.out
          go_wp2_with fail
          go_loopg [19] q (fun kj v19 w' => ∃ (j : Nat) (zs : List ByteArray), v19 = .int .i64 (j : Int) ∧ Aside0 (j + kj = q) ∧ Aside0 (zs.length = q) ∧ Aside0 (w'.ownsRow w5.heap.size 9 1 (.slice A6 q c6) q (encs Value.string zs)) ∧ Aside0 (Below w5.heap.size w5 w'))
          case atStart => exact ⟨0, (xs ++ [s]), rfl, ⟨by omega⟩, ⟨HQ.out⟩, ⟨pw_own_drewN HO6.out _⟩, ⟨pw_below_drewN HB6.out _⟩⟩
          case round =>
            obtain ⟨j, zs, rfl, hk2, hz, ho, hb⟩ := hrel
            have hkk2 := hk2.out
            have wj : IntKind.i64.wrap ((j : Int) + 1) = ((j + 1 : Nat) : Int) := by rw [IntKind.wrap_i64]; omega
            by_cases hj : j < q
            · have c1 : decide ((j : Int) < (q : Int)) = true := decide_eq_true (by omega)
              obtain ⟨gx, cx, hs, -, -⟩ := ho.out.form (by omega)
              injection hs with hs1 hs2 hs3
              subst hs1
              clear hs2 hs3
              have hat := own_at_of (d := ByteArray.empty) ho.out (j : Int) (by omega) (by omega)
              have hst := own_store_of ho.out (j : Int) ByteArray.empty
              have i0 : decide (0 ≤ (j : Int)) = true := decide_eq_true (by omega)
              rw [Int.toNat_natCast] at hat hst
              have hat1 := hat.1
              have hat2 := hat.2
              have HST := Aside0.mk hst
              have HGX := Aside0.mk (own_base ho.out gx rfl)
              clear hst hat
              obtain ⟨kk, rfl⟩ : ∃ m, gk = m + 1 := ⟨gk - 1, by omega⟩
              go_wp2_with fail
              try rw [wj]
              go_roundg kk
              case measure => omega
              case rel => exact ⟨j + 1, zs.set j ByteArray.empty, rfl, ⟨by omega⟩, ⟨by rw [List.length_set]; exact hz.out⟩, ⟨HST.out.1⟩, ⟨below_set hb.out HGX.out⟩⟩
            · have c1 : decide ((j : Int) < (q : Int)) = false := decide_eq_false (by omega)
              have L9 := Aside0.mk (L.out.beside hb.out)
              clear HO6 HB6 M6 B1 SQ LQ OQ
              go_wp2_with fail
              try rw [wi]
              go_roundg ki
              case measure => omega
              case rel => exact ⟨i + 1, g, (xs ++ [s]), lo, rfl, rfl, ⟨by omega⟩, I5, L9⟩
        · go_wp2_with fail
          refine (Mid.loseA s (by omega) (by omega) (by omega) L.out).mono ?_
          rintro e w4 ⟨rfl, h4, h4k⟩
          have L4 := Aside0.mk h4
          have hq4 : w4.cell? ⟨wr.heap.size, 1, none⟩ = some (.string s) := (blk_cell (h4k _ _ _ (blk_new wr (.cells #[.int .i64 0, .string s] 48)) (by decide) (by decide)) 1).trans rfl
          clear h4 h4k L
          go_wp2_with fail
          clear hq4
          refine (Mid.loseB s (by omega) (by omega) (by omega) L4.out).mono ?_
          rintro e w5 ⟨rfl, h5⟩
          have L := Aside0.mk h5
          have I5 : Aside0 (Inv n (i + 1) xs (lo + 1)) := ⟨⟨by omega, by omega, by omega⟩⟩
          clear h5 L4
          obtain ⟨q, hq⟩ : ∃ q : Nat, xs.length = q := ⟨_, rfl⟩
          have q1 := I5.out.len
          rw [hq] at q1
          go_wp2_with fail
          refine (Mid.list q hq (by omega) L.out).mono ?_
          rintro e w6 ⟨A6, c6, rfl, hc6, ho6, hb6⟩
          have HO6 := Aside0.mk ho6
          have HB6 := Aside0.mk hb6
          have M6 := Aside0.mk (L.out.beside hb6)
          obtain ⟨A7, c7, k0, k2, kc, kr⟩ := M6.out.ref
          rw [hq] at k0 kc kr
          obtain ⟨A8, c8, he8, hc8, hr8⟩ := own_reads_of_le (enc := Value.string) (d := ByteArray.empty) (xs := xs) (hq ▸ ho6)
          rw [hq] at he8 hc8 hr8
          injection he8 with e81 e82 e83
          subst e81
          subst e83
          clear e82
          have SQ := Aside0.mk (same_q xs q hq A6 A7 c6 c7 w6 (by omega) hr8 hc6 kr kc)
          have LQ := Aside0.mk (len_q M6.out)
          have OQ := Aside0.mk (lost_q M6.out)
          rw [hq] at LQ
          clear hr8 kr ho6 hb6 hc6 hc8 kc
          have HQ := Aside0.mk hq
          have B1 := Aside0.mk (below_step L.out.bel HB6.out)
          clear hq
          go_wp2_with fail
          go_quiet (first | (go_at_call 16; exact SQ.out _) | (go_at_call 20; exact LQ.out _) | (go_at_call 18; exact OQ.out _))
          clear k0 k2
          have ql := HQ.out
          go_wp2_with fail
          go_loopg [19] q (fun kj v19 w' => ∃ (j : Nat) (zs : List ByteArray), v19 = .int .i64 (j : Int) ∧ Aside0 (j + kj = q) ∧ Aside0 (zs.length = q) ∧ Aside0 (w'.ownsRow w5.heap.size 9 1 (.slice A6 q c6) q (encs Value.string zs)) ∧ Aside0 (Below w5.heap.size w5 w'))
          case atStart => exact ⟨0, xs, rfl, ⟨by omega⟩, ⟨HQ.out⟩, ⟨pw_own_drewN HO6.out _⟩, ⟨pw_below_drewN HB6.out _⟩⟩
          case round =>
            obtain ⟨j, zs, rfl, hk2, hz, ho, hb⟩ := hrel
            have hkk2 := hk2.out
            have wj : IntKind.i64.wrap ((j : Int) + 1) = ((j + 1 : Nat) : Int) := by rw [IntKind.wrap_i64]; omega
            by_cases hj : j < q
            · have c1 : decide ((j : Int) < (q : Int)) = true := decide_eq_true (by omega)
              obtain ⟨gx, cx, hs, -, -⟩ := ho.out.form (by omega)
              injection hs with hs1 hs2 hs3
              subst hs1
              clear hs2 hs3
              have hat := own_at_of (d := ByteArray.empty) ho.out (j : Int) (by omega) (by omega)
              have hst := own_store_of ho.out (j : Int) ByteArray.empty
              have i0 : decide (0 ≤ (j : Int)) = true := decide_eq_true (by omega)
              rw [Int.toNat_natCast] at hat hst
              have hat1 := hat.1
              have hat2 := hat.2
              have HST := Aside0.mk hst
              have HGX := Aside0.mk (own_base ho.out gx rfl)
              clear hst hat
              obtain ⟨kk, rfl⟩ : ∃ m, gk = m + 1 := ⟨gk - 1, by omega⟩
              go_wp2_with fail
              try rw [wj]
              go_roundg kk
              case measure => omega
              case rel => exact ⟨j + 1, zs.set j ByteArray.empty, rfl, ⟨by omega⟩, ⟨by rw [List.length_set]; exact hz.out⟩, ⟨HST.out.1⟩, ⟨below_set hb.out HGX.out⟩⟩
            · have c1 : decide ((j : Int) < (q : Int)) = false := decide_eq_false (by omega)
              have L9 := Aside0.mk (L.out.beside hb.out)
              clear HO6 HB6 M6 B1 SQ LQ OQ
              go_wp2_with fail
              try rw [wi]
              go_roundg ki
              case measure => omega
              case rel => exact ⟨i + 1, g, xs, (lo + 1), rfl, rfl, ⟨by omega⟩, I5, L9⟩
      · have d0 : (kd == 0) = false := beq_eq_false_iff_ne.2 k0
        by_cases k1 : kd = 1
        · subst k1
          have d1 : ((1 : Int) == 1) = true := rfl
          cases xs with
          | nil =>
            go_wp2_with fail
            refine (Mid.noneA L.out).mono ?_
            rintro e w4 ⟨rfl, rfl⟩
            go_wp2_with fail
            refine (Mid.noneB L.out).mono ?_
            rintro e w4 ⟨rfl, h5⟩
            obtain ⟨w5, e5⟩ : ∃ w5, w4 = w5 := ⟨_, rfl⟩
            rw [← h5, e5] at L
            rw [e5]
            have I5 : Aside0 (Inv n (i + 1) [] lo) := ⟨⟨hi1, by omega, by omega⟩⟩
            clear h5 e5
            obtain ⟨q, hq⟩ : ∃ q : Nat, ([] : List ByteArray).length = q := ⟨_, rfl⟩
            have q1 := I5.out.len
            rw [hq] at q1
            go_wp2_with fail
            refine (Mid.list q hq (by omega) L.out).mono ?_
            rintro e w6 ⟨A6, c6, rfl, hc6, ho6, hb6⟩
            have HO6 := Aside0.mk ho6
            have HB6 := Aside0.mk hb6
            have M6 := Aside0.mk (L.out.beside hb6)
            obtain ⟨A7, c7, k0, k2, kc, kr⟩ := M6.out.ref
            rw [hq] at k0 kc kr
            obtain ⟨A8, c8, he8, hc8, hr8⟩ := own_reads_of_le (enc := Value.string) (d := ByteArray.empty) (xs := ([] : List ByteArray)) (hq ▸ ho6)
            rw [hq] at he8 hc8 hr8
            injection he8 with e81 e82 e83
            subst e81
            subst e83
            clear e82
            have SQ := Aside0.mk (same_q ([] : List ByteArray) q hq A6 A7 c6 c7 w6 (by omega) hr8 hc6 kr kc)
            have LQ := Aside0.mk (len_q M6.out)
            have OQ := Aside0.mk (lost_q M6.out)
            rw [hq] at LQ
            clear hr8 kr ho6 hb6 hc6 hc8 kc
            have HQ := Aside0.mk hq
            have B1 := Aside0.mk (below_step L.out.bel HB6.out)
            clear hq
            go_wp2_with fail
            go_quiet (first | (go_at_call 16; exact SQ.out _) | (go_at_call 20; exact LQ.out _) | (go_at_call 18; exact OQ.out _))
            clear k0 k2
            have ql := HQ.out
            go_wp2_with fail
            go_loopg [19] q (fun kj v19 w' => ∃ (j : Nat) (zs : List ByteArray), v19 = .int .i64 (j : Int) ∧ Aside0 (j + kj = q) ∧ Aside0 (zs.length = q) ∧ Aside0 (w'.ownsRow w5.heap.size 9 1 (.slice A6 q c6) q (encs Value.string zs)) ∧ Aside0 (Below w5.heap.size w5 w'))
            case atStart => exact ⟨0, ([] : List ByteArray), rfl, ⟨by omega⟩, ⟨HQ.out⟩, ⟨pw_own_drewN HO6.out _⟩, ⟨pw_below_drewN HB6.out _⟩⟩
            case round =>
              obtain ⟨j, zs, rfl, hk2, hz, ho, hb⟩ := hrel
              have hkk2 := hk2.out
              have wj : IntKind.i64.wrap ((j : Int) + 1) = ((j + 1 : Nat) : Int) := by rw [IntKind.wrap_i64]; omega
              by_cases hj : j < q
              · have c1 : decide ((j : Int) < (q : Int)) = true := decide_eq_true (by omega)
                obtain ⟨gx, cx, hs, -, -⟩ := ho.out.form (by omega)
                injection hs with hs1 hs2 hs3
                subst hs1
                clear hs2 hs3
                have hat := own_at_of (d := ByteArray.empty) ho.out (j : Int) (by omega) (by omega)
                have hst := own_store_of ho.out (j : Int) ByteArray.empty
                have i0 : decide (0 ≤ (j : Int)) = true := decide_eq_true (by omega)
                rw [Int.toNat_natCast] at hat hst
                have hat1 := hat.1
                have hat2 := hat.2
                have HST := Aside0.mk hst
                have HGX := Aside0.mk (own_base ho.out gx rfl)
                clear hst hat
                obtain ⟨kk, rfl⟩ : ∃ m, gk = m + 1 := ⟨gk - 1, by omega⟩
                go_wp2_with fail
                try rw [wj]
                go_roundg kk
                case measure => omega
                case rel => exact ⟨j + 1, zs.set j ByteArray.empty, rfl, ⟨by omega⟩, ⟨by rw [List.length_set]; exact hz.out⟩, ⟨HST.out.1⟩, ⟨below_set hb.out HGX.out⟩⟩
              · have c1 : decide ((j : Int) < (q : Int)) = false := decide_eq_false (by omega)
                have L9 := Aside0.mk (L.out.beside hb.out)
                clear HO6 HB6 M6 B1 SQ LQ OQ
                go_wp2_with fail
                try rw [wi]
                go_roundg ki
                case measure => omega
                case rel => exact ⟨i + 1, g, ([] : List ByteArray), lo, rfl, rfl, ⟨by omega⟩, I5, L9⟩
          | cons x xs =>
            go_wp2_with fail
            refine (Mid.takeA x (by simp only [List.length_cons] at hi1; omega) L.out).mono ?_
            rintro e w4 ⟨rfl, h4⟩
            have L4 := Aside0.mk h4
            clear h4 L
            have b9 : (x.toList == x.toList) = true := beq_self_eq_true _
            have b10 : (x.toList != x.toList) = false := by simp
            go_wp2_with fail
            refine (Mid.takeB x (by simp only [List.length_cons] at hi1; omega) L4.out).mono ?_
            rintro e w5 ⟨rfl, h5⟩
            have L := Aside0.mk h5
            have I5 : Aside0 (Inv n (i + 1) xs lo) := ⟨⟨by simp only [List.length_cons] at hi1; omega, by omega, by omega⟩⟩
            clear h5 L4
            obtain ⟨q, hq⟩ : ∃ q : Nat, xs.length = q := ⟨_, rfl⟩
            have q1 := I5.out.len
            rw [hq] at q1
            go_wp2_with fail
            refine (Mid.list q hq (by omega) L.out).mono ?_
            rintro e w6 ⟨A6, c6, rfl, hc6, ho6, hb6⟩
            have HO6 := Aside0.mk ho6
            have HB6 := Aside0.mk hb6
            have M6 := Aside0.mk (L.out.beside hb6)
            obtain ⟨A7, c7, k0, k2, kc, kr⟩ := M6.out.ref
            rw [hq] at k0 kc kr
            obtain ⟨A8, c8, he8, hc8, hr8⟩ := own_reads_of_le (enc := Value.string) (d := ByteArray.empty) (xs := xs) (hq ▸ ho6)
            rw [hq] at he8 hc8 hr8
            injection he8 with e81 e82 e83
            subst e81
            subst e83
            clear e82
            have SQ := Aside0.mk (same_q xs q hq A6 A7 c6 c7 w6 (by omega) hr8 hc6 kr kc)
            have LQ := Aside0.mk (len_q M6.out)
            have OQ := Aside0.mk (lost_q M6.out)
            rw [hq] at LQ
            clear hr8 kr ho6 hb6 hc6 hc8 kc
            have HQ := Aside0.mk hq
            have B1 := Aside0.mk (below_step L.out.bel HB6.out)
            clear hq
            go_wp2_with fail
            go_quiet (first | (go_at_call 16; exact SQ.out _) | (go_at_call 20; exact LQ.out _) | (go_at_call 18; exact OQ.out _))
            clear k0 k2
            have ql := HQ.out
            go_wp2_with fail
            go_loopg [19] q (fun kj v19 w' => ∃ (j : Nat) (zs : List ByteArray), v19 = .int .i64 (j : Int) ∧ Aside0 (j + kj = q) ∧ Aside0 (zs.length = q) ∧ Aside0 (w'.ownsRow w5.heap.size 9 1 (.slice A6 q c6) q (encs Value.string zs)) ∧ Aside0 (Below w5.heap.size w5 w'))
            case atStart => exact ⟨0, xs, rfl, ⟨by omega⟩, ⟨HQ.out⟩, ⟨pw_own_drewN HO6.out _⟩, ⟨pw_below_drewN HB6.out _⟩⟩
            case round =>
              obtain ⟨j, zs, rfl, hk2, hz, ho, hb⟩ := hrel
              have hkk2 := hk2.out
              have wj : IntKind.i64.wrap ((j : Int) + 1) = ((j + 1 : Nat) : Int) := by rw [IntKind.wrap_i64]; omega
              by_cases hj : j < q
              · have c1 : decide ((j : Int) < (q : Int)) = true := decide_eq_true (by omega)
                obtain ⟨gx, cx, hs, -, -⟩ := ho.out.form (by omega)
                injection hs with hs1 hs2 hs3
                subst hs1
                clear hs2 hs3
                have hat := own_at_of (d := ByteArray.empty) ho.out (j : Int) (by omega) (by omega)
                have hst := own_store_of ho.out (j : Int) ByteArray.empty
                have i0 : decide (0 ≤ (j : Int)) = true := decide_eq_true (by omega)
                rw [Int.toNat_natCast] at hat hst
                have hat1 := hat.1
                have hat2 := hat.2
                have HST := Aside0.mk hst
                have HGX := Aside0.mk (own_base ho.out gx rfl)
                clear hst hat
                obtain ⟨kk, rfl⟩ : ∃ m, gk = m + 1 := ⟨gk - 1, by omega⟩
                go_wp2_with fail
                try rw [wj]
                go_roundg kk
                case measure => omega
                case rel => exact ⟨j + 1, zs.set j ByteArray.empty, rfl, ⟨by omega⟩, ⟨by rw [List.length_set]; exact hz.out⟩, ⟨HST.out.1⟩, ⟨below_set hb.out HGX.out⟩⟩
              · have c1 : decide ((j : Int) < (q : Int)) = false := decide_eq_false (by omega)
                have L9 := Aside0.mk (L.out.beside hb.out)
                clear HO6 HB6 M6 B1 SQ LQ OQ
                go_wp2_with fail
                try rw [wi]
                go_roundg ki
                case measure => omega
                case rel => exact ⟨i + 1, g, xs, lo, rfl, rfl, ⟨by omega⟩, I5, L9⟩
        · have d1 : (kd == 1) = false := beq_eq_false_iff_ne.2 k1
          by_cases k2 : kd = 2
          · subst k2
            have d2 : ((2 : Int) == 2) = true := rfl
            go_wp2_with fail
            refine (Mid.clone (by omega) L.out).mono ?_
            rintro e w3 ⟨g', rfl, h3⟩
            have L3 := Aside0.mk h3
            clear h3 L
            go_wp2_with fail
            refine (Tri.take (by omega) L3.out).mono ?_
            rintro e w4 ⟨r1, r2, rfl, h4⟩
            have L4 := Aside0.mk h4
            clear h4 L3
            have tl : xs.tail.length ≤ 1024 := by rw [List.length_tail]; omega
            go_wp2_with fail
            refine (Tri.put _ (by omega) (by omega) (by omega) L4.out).mono ?_
            rintro e w7 ⟨r3, z7, l7, rfl, f1, f2, f3, h7⟩
            have L7 := Aside0.mk h7
            clear h7 L4
            go_wp2_with fail
            refine (Tri.put _ (by omega) (by omega) (by omega) L7.out).mono ?_
            rintro e w5 ⟨r4, z8, l8, rfl, f4, f5, f6, h8⟩
            have L := Aside0.mk h8.mid
            have I5 : Aside0 (Inv n (i + 1) xs lo) := ⟨⟨by omega, by omega, by omega⟩⟩
            clear h8 L7
            obtain ⟨q, hq⟩ : ∃ q : Nat, xs.length = q := ⟨_, rfl⟩
            have q1 := I5.out.len
            rw [hq] at q1
            go_wp2_with fail
            refine (Mid.list q hq (by omega) L.out).mono ?_
            rintro e w6 ⟨A6, c6, rfl, hc6, ho6, hb6⟩
            have HO6 := Aside0.mk ho6
            have HB6 := Aside0.mk hb6
            have M6 := Aside0.mk (L.out.beside hb6)
            obtain ⟨A7, c7, k0, k2, kc, kr⟩ := M6.out.ref
            rw [hq] at k0 kc kr
            obtain ⟨A8, c8, he8, hc8, hr8⟩ := own_reads_of_le (enc := Value.string) (d := ByteArray.empty) (xs := xs) (hq ▸ ho6)
            rw [hq] at he8 hc8 hr8
            injection he8 with e81 e82 e83
            subst e81
            subst e83
            clear e82
            have SQ := Aside0.mk (same_q xs q hq A6 A7 c6 c7 w6 (by omega) hr8 hc6 kr kc)
            have LQ := Aside0.mk (len_q M6.out)
            have OQ := Aside0.mk (lost_q M6.out)
            rw [hq] at LQ
            clear hr8 kr ho6 hb6 hc6 hc8 kc
            have HQ := Aside0.mk hq
            have B1 := Aside0.mk (below_step L.out.bel HB6.out)
            clear hq
            go_wp2_with fail
            go_quiet (first | (go_at_call 16; exact SQ.out _) | (go_at_call 20; exact LQ.out _) | (go_at_call 18; exact OQ.out _))
            clear k0 k2
            have ql := HQ.out
            go_wp2_with fail
            go_loopg [19] q (fun kj v19 w' => ∃ (j : Nat) (zs : List ByteArray), v19 = .int .i64 (j : Int) ∧ Aside0 (j + kj = q) ∧ Aside0 (zs.length = q) ∧ Aside0 (w'.ownsRow w5.heap.size 9 1 (.slice A6 q c6) q (encs Value.string zs)) ∧ Aside0 (Below w5.heap.size w5 w'))
            case atStart => exact ⟨0, xs, rfl, ⟨by omega⟩, ⟨HQ.out⟩, ⟨pw_own_drewN HO6.out _⟩, ⟨pw_below_drewN HB6.out _⟩⟩
            case round =>
              obtain ⟨j, zs, rfl, hk2, hz, ho, hb⟩ := hrel
              have hkk2 := hk2.out
              have wj : IntKind.i64.wrap ((j : Int) + 1) = ((j + 1 : Nat) : Int) := by rw [IntKind.wrap_i64]; omega
              by_cases hj : j < q
              · have c1 : decide ((j : Int) < (q : Int)) = true := decide_eq_true (by omega)
                obtain ⟨gx, cx, hs, -, -⟩ := ho.out.form (by omega)
                injection hs with hs1 hs2 hs3
                subst hs1
                clear hs2 hs3
                have hat := own_at_of (d := ByteArray.empty) ho.out (j : Int) (by omega) (by omega)
                have hst := own_store_of ho.out (j : Int) ByteArray.empty
                have i0 : decide (0 ≤ (j : Int)) = true := decide_eq_true (by omega)
                rw [Int.toNat_natCast] at hat hst
                have hat1 := hat.1
                have hat2 := hat.2
                have HST := Aside0.mk hst
                have HGX := Aside0.mk (own_base ho.out gx rfl)
                clear hst hat
                obtain ⟨kk, rfl⟩ : ∃ m, gk = m + 1 := ⟨gk - 1, by omega⟩
                go_wp2_with fail
                try rw [wj]
                go_roundg kk
                case measure => omega
                case rel => exact ⟨j + 1, zs.set j ByteArray.empty, rfl, ⟨by omega⟩, ⟨by rw [List.length_set]; exact hz.out⟩, ⟨HST.out.1⟩, ⟨below_set hb.out HGX.out⟩⟩
              · have c1 : decide ((j : Int) < (q : Int)) = false := decide_eq_false (by omega)
                have L9 := Aside0.mk (L.out.beside hb.out)
                clear HO6 HB6 M6 B1 SQ LQ OQ
                go_wp2_with fail
                try rw [wi]
                go_roundg ki
                case measure => omega
                case rel => exact ⟨i + 1, g', xs, lo, rfl, rfl, ⟨by omega⟩, I5, L9⟩
          · have d2 : (kd == 2) = false := beq_eq_false_iff_ne.2 k2
            have I5 : Aside0 (Inv n (i + 1) xs lo) := ⟨⟨by omega, by omega, by omega⟩⟩
            go_upto_region 28 with (fail)
            obtain ⟨w5, e5⟩ : ∃ w5, (wr.alloc (.cells #[.int .i64 kd, .string s] 48)) = w5 := ⟨_, rfl⟩
            rw [e5] at L
            rw [e5]
            clear e5
            obtain ⟨q, hq⟩ : ∃ q : Nat, xs.length = q := ⟨_, rfl⟩
            have q1 := I5.out.len
            rw [hq] at q1
            go_wp2_with fail
            refine (Mid.list q hq (by omega) L.out).mono ?_
            rintro e w6 ⟨A6, c6, rfl, hc6, ho6, hb6⟩
            have HO6 := Aside0.mk ho6
            have HB6 := Aside0.mk hb6
            have M6 := Aside0.mk (L.out.beside hb6)
            obtain ⟨A7, c7, k0, k2, kc, kr⟩ := M6.out.ref
            rw [hq] at k0 kc kr
            obtain ⟨A8, c8, he8, hc8, hr8⟩ := own_reads_of_le (enc := Value.string) (d := ByteArray.empty) (xs := xs) (hq ▸ ho6)
            rw [hq] at he8 hc8 hr8
            injection he8 with e81 e82 e83
            subst e81
            subst e83
            clear e82
            have SQ := Aside0.mk (same_q xs q hq A6 A7 c6 c7 w6 (by omega) hr8 hc6 kr kc)
            have LQ := Aside0.mk (len_q M6.out)
            have OQ := Aside0.mk (lost_q M6.out)
            rw [hq] at LQ
            clear hr8 kr ho6 hb6 hc6 hc8 kc
            have HQ := Aside0.mk hq
            have B1 := Aside0.mk (below_step L.out.bel HB6.out)
            clear hq
            go_wp2_with fail
            go_quiet (first | (go_at_call 16; exact SQ.out _) | (go_at_call 20; exact LQ.out _) | (go_at_call 18; exact OQ.out _))
            clear k0 k2
            have ql := HQ.out
            go_wp2_with fail
            go_loopg [19] q (fun kj v19 w' => ∃ (j : Nat) (zs : List ByteArray), v19 = .int .i64 (j : Int) ∧ Aside0 (j + kj = q) ∧ Aside0 (zs.length = q) ∧ Aside0 (w'.ownsRow w5.heap.size 9 1 (.slice A6 q c6) q (encs Value.string zs)) ∧ Aside0 (Below w5.heap.size w5 w'))
            case atStart => exact ⟨0, xs, rfl, ⟨by omega⟩, ⟨HQ.out⟩, ⟨pw_own_drewN HO6.out _⟩, ⟨pw_below_drewN HB6.out _⟩⟩
            case round =>
              obtain ⟨j, zs, rfl, hk2, hz, ho, hb⟩ := hrel
              have hkk2 := hk2.out
              have wj : IntKind.i64.wrap ((j : Int) + 1) = ((j + 1 : Nat) : Int) := by rw [IntKind.wrap_i64]; omega
              by_cases hj : j < q
              · have c1 : decide ((j : Int) < (q : Int)) = true := decide_eq_true (by omega)
                obtain ⟨gx, cx, hs, -, -⟩ := ho.out.form (by omega)
                injection hs with hs1 hs2 hs3
                subst hs1
                clear hs2 hs3
                have hat := own_at_of (d := ByteArray.empty) ho.out (j : Int) (by omega) (by omega)
                have hst := own_store_of ho.out (j : Int) ByteArray.empty
                have i0 : decide (0 ≤ (j : Int)) = true := decide_eq_true (by omega)
                rw [Int.toNat_natCast] at hat hst
                have hat1 := hat.1
                have hat2 := hat.2
                have HST := Aside0.mk hst
                have HGX := Aside0.mk (own_base ho.out gx rfl)
                clear hst hat
                obtain ⟨kk, rfl⟩ : ∃ m, gk = m + 1 := ⟨gk - 1, by omega⟩
                go_wp2_with fail
                try rw [wj]
                go_roundg kk
                case measure => omega
                case rel => exact ⟨j + 1, zs.set j ByteArray.empty, rfl, ⟨by omega⟩, ⟨by rw [List.length_set]; exact hz.out⟩, ⟨HST.out.1⟩, ⟨below_set hb.out HGX.out⟩⟩
              · have c1 : decide ((j : Int) < (q : Int)) = false := decide_eq_false (by omega)
                have L9 := Aside0.mk (L.out.beside hb.out)
                clear HO6 HB6 M6 B1 SQ LQ OQ
                go_wp2_with fail
                try rw [wi]
                go_roundg ki
                case measure => omega
                case rel => exact ⟨i + 1, g, xs, lo, rfl, rfl, ⟨by omega⟩, I5, L9⟩
    · have B := Aside0.mk L.out.bel
      have C := fun W => fixed W
      by_cases hi : i < ops.length
      · have c1 : decide ((i : Int) < (ops.length : Int)) = true := decide_eq_true (by omega)
        have c2 : decide ((i : Int) < 150) = false := decide_eq_false (by omega)
        go_wp2_with fail
        refine (C wr).mono ?_
        rintro e w2 ⟨rfl, hb2⟩
        have B2 := Aside0.mk (below_step B.out hb2)
        clear hb2
        go_wp2_with fail
        go_ret
        exact ⟨rfl, B2.out⟩
      · have c1 : decide ((i : Int) < (ops.length : Int)) = false := decide_eq_false (by omega)
        go_wp2_with fail
        refine (C wr).mono ?_
        rintro e w2 ⟨rfl, hb2⟩
        have B2 := Aside0.mk (below_step B.out hb2)
        clear hb2
        go_wp2_with fail
        go_ret
        exact ⟨rfl, B2.out⟩
end Go.Proofs.Ytbbboejcjcakbaa.Hand
