/- The law LaneAll, walked by hand over the contracts of what it calls: for every input it returns true and leaves old memory as it was. -/
import Derived.Test.YtbbboejcjcakbaaFix
import Derived.Test.YtbbboejcjcakbaaMth
import Derived.Test.YtbbboejcjcakbaaPx2
namespace Go.Proofs.Ytbbboejcjcakbaa.Hand
open Go Go.RowKit Go.Proofs.YtbbboejcjcakbaaW.PrintWords Go.Proofs.YtbbboejcjcakbaaW.PrintLast Go.Proofs.YtbbboejcjcakbaaW.PrintMore Go.Proofs.Ytbbboejcjcakbaa.Own Go.Proofs.Ytbbboejcjcakbaa.P Go.Proofs.Ytbbboejcjcakbaa.Lane Go.Proofs.Ytbbboejcjcakbaa
set_option linter.unusedVariables false
set_option linter.unusedSimpArgs false
theorem same_l (l : List ByteArray) (hl : l.length ≤ 1099511627776) : ∀ (d i k : Nat), i ≤ l.length → l.length - i = d → d < k → aqueductref19_Same.l0 k l l (i : Int) = some true := by
  intro d
  induction d with
  | zero =>
    intro i k hi hd hk
    obtain ⟨k, rfl⟩ : ∃ m, k = m + 1 := ⟨k - 1, by omega⟩
    simp only [aqueductref19_Same.l0]
    rw [if_neg (by omega)]
  | succ d ih =>
    intro i k hi hd hk
    obtain ⟨k, rfl⟩ : ∃ m, k = m + 1 := ⟨k - 1, by omega⟩
    simp only [aqueductref19_Same.l0]
    have e3 : wrap64 ((i : Int) + 1) = ((i + 1 : Nat) : Int) := by rw [Mth.wrap64_in (by omega) (by omega)]; omega
    rw [if_pos (show (i : Int) < (l.length : Int) by omega), if_pos (by omega), if_pos (show (i : Int) < (l.length : Int) by omega), if_true, e3]
    exact ih (i + 1) k (by omega) (by omega) (by omega)
theorem same_f (l : List ByteArray) (hl : l.length ≤ 1099511627776) : aqueductref19_Same.f (l.length + 1) l l = some true := by
  unfold aqueductref19_Same.f
  rw [if_pos rfl]
  exact same_l l hl l.length 0 _ (by omega) (by omega) (by omega)
/-- The document's Same at one and the same texts. -/
theorem Same_ok (l : List ByteArray) (n : Nat) (hn : l.length = n) (A A' : Option Addr) (c c' : Nat) (W : World) (hl : l.length ≤ 1099511627776) (h1 : ReadsOf Value.string ByteArray.empty W A n l) (k1 : n ≤ c) (h2 : ReadsOf Value.string ByteArray.empty W A' n l) (k2 : n ≤ c') :
    Calls Try.prog 16 #[.slice A n c, .slice A' n c'] W fun e w' => e = .returned (.bool true) ∧ ∃ n, w' = W.drewN n := by
  subst hn
  refine (aqueductref19_Same.calls (l.length + 1) A c l A' c' l true W (Kd.C_of_reads h1) k1 (Kd.C_of_reads h2) k2 (same_f l hl)).mono ?_
  rintro e w' ⟨rfl, h⟩
  exact ⟨rfl, h.out⟩
/-- All that is there. -/
theorem list_ {w0 w : World} {g : Nat} {xs : List ByteArray} {room lost : Int} (n : Nat) (hn : xs.length = n) (hl : xs.length ≤ 1099511627776) (h : Strs.Lane w0 w g xs room lost) :
    Calls Try.prog 17 #[Strs.ptr g] w fun e w' => ∃ A c, e = .returned (.slice A n c) ∧ n ≤ c ∧ w'.ownsRow w.heap.size 9 1 (.slice A n c) n (xs.map fun x => .string x) ∧ ReadsOf Value.string ByteArray.empty w' A n xs ∧ Strs.Lane w0 w' g xs room lost ∧ Below w.heap.size w w' := by
  subst hn
  have h' := h
  obtain ⟨v, s⟩ := h
  refine (Strs.List_ g v xs room lost w hl s.ln).mono ?_
  rintro e w' ⟨v', rfl, ho, hb⟩
  obtain ⟨A, c, rfl, hc, hr⟩ := own_reads_of_le (enc := Value.string) (d := ByteArray.empty) (xs := xs) ho
  exact ⟨A, c, rfl, hc, ho, hr, h'.beside hb, hb⟩
theorem drewL {w0 w : World} {g : Nat} {xs : List ByteArray} {room lost : Int} (h : Strs.Lane w0 w g xs room lost) : Strs.Lane w0 w.drew g xs room lost := h.beside (below_drew1 (Below.refl _ _))
theorem drewNL {w0 w : World} {g : Nat} {xs : List ByteArray} {room lost : Int} (m : Nat) (h : Strs.Lane w0 w g xs room lost) : Strs.Lane w0 (w.drewN m) g xs room lost := h.beside (pw_below_drewN (Below.refl _ _) m)
theorem take_next {l : List ByteArray} {i : Nat} (h : i < l.length) : l.take (i + 1) = l.take i ++ [rdOf ByteArray.empty l (i : Int)] := by
  rw [List.take_succ_eq_append_getElem h]
  simp [rdOf, List.getD_eq_getElem?_getD, List.getElem?_eq_getElem h]
theorem drop_next {l : List ByteArray} {i : Nat} (h : i < l.length) : l.drop i = rdOf ByteArray.empty l (i : Int) :: l.drop (i + 1) := by
  rw [List.drop_eq_getElem_cons h]
  simp [rdOf, List.getD_eq_getElem?_getD, List.getElem?_eq_getElem h]
theorem rd_take {l : List ByteArray} {i m : Nat} (h : i < m) : rdOf ByteArray.empty (l.take m) (i : Int) = rdOf ByteArray.empty l (i : Int) := by
  simp [rdOf, List.getD_eq_getElem?_getD, List.getElem?_take, h]
set_option maxHeartbeats 8000000 in
set_option maxRecDepth 100000 in
theorem LaneAll (room : Int) (A : Option Addr) (c : Nat) (l : List ByteArray) (w : World) (h0 : (Lit.int .i64 room).wf = true) (hle : l.length ≤ c) (hmx : c ≤ 9223372036854775807) (hgd : ∀ b ∈ l, b.size ≤ maxLen) (hcs : ReadsOf Value.string ByteArray.empty w A l.length l) :
    Calls Try.prog 5 #[.int .i64 room, .slice A l.length c] w fun e w' => e = .returned (.bool true) ∧ Below w.heap.size w w' := by
  have e63 : Go.bits .and .i64 room 63 = room % 64 := Mth.and_i64 room 6 (by decide)
  obtain ⟨r, hr, hr0, hr1⟩ : ∃ r : Int, Go.bits .and .i64 room 63 = r ∧ 0 ≤ r ∧ r ≤ 63 := ⟨_, rfl, by omega, by omega⟩
  have hn : IntKind.i64.wrap (1 + r) = 1 + r := by rw [IntKind.wrap_i64]; omega
  obtain ⟨n, en⟩ : ∃ n : Nat, 1 + r = (n : Int) := ⟨(1 + r).toNat, by omega⟩
  rw [en] at hn
  have n1 : 1 ≤ n := by omega
  have n2 : n ≤ 64 := by omega
  have HCS := Aside0.mk hcs
  clear hcs e63 h0
  go_enter Try.func5, Try.ntmps5
  go_wp2_with fail
  try rw [hn]
  try rw [en]
  refine (Strs.texts (w0 := w) (n : Int) (Below.refl _ _) (by omega) (by omega)).mono ?_
  rintro e w1 ⟨g, rfl, h1, -⟩
  have L := Aside0.mk h1
  clear h1
  obtain ⟨l', hl'⟩ : ∃ l' : List ByteArray, l.take 100 = l' := ⟨_, rfl⟩
  have ll : l'.length = min 100 l.length := by rw [← hl', List.length_take]
  have hm : (min (l.length : Int) 100).toNat = l'.length := by omega
  have hR : ReadsOf Value.string ByteArray.empty w A l'.length l' := by
    have q := HCS.out.take_ (min 100 l.length) (by omega)
    rw [ll]
    have e : l.take (min 100 l.length) = l' := by rw [← hl', List.take_eq_take_iff]; omega
    rw [e] at q
    exact q
  have HR := Aside0.mk hR
  have c5 : l'.length ≤ c := by omega
  clear hR HCS
  have LL := Aside0.mk ll
  clear ll hl' hle hgd
  go_upto_region 6 with (fail)
  try rw [hm]
  clear hm
  have ll : l'.length ≤ 100 := by have := LL.out; omega
  clear LL
  go_wp2_with fail
  go_loopg [8] l'.length (fun k v8 w' => ∃ i : Nat, v8 = .int .i64 (i : Int) ∧ Aside0 (i + k = l'.length) ∧ Aside0 (Strs.Lane w w' g (l'.take (min i n)) n ((i - min i n : Nat) : Int)))
  case atStart => exact ⟨0, rfl, ⟨by omega⟩, ⟨by simpa using L.out⟩⟩
  case round =>
    clear L
    obtain ⟨i, rfl, hk, L⟩ := hrel
    have hkk := hk.out
    have wi : IntKind.i64.wrap ((i : Int) + 1) = ((i + 1 : Nat) : Int) := by rw [IntKind.wrap_i64]; omega
    by_cases hc : i < l'.length
    · have c1 : decide ((i : Int) < (l'.length : Int)) = true := decide_eq_true (by omega)
      have R := HR.out.below L.out.bel
      obtain ⟨ad, rfl, hcell⟩ := R.at_ (i : Int) (by omega) (by omega)
      have i0 : decide (0 ≤ (i : Int)) = true := decide_eq_true (by omega)
      clear R
      obtain ⟨kk, rfl⟩ : ∃ m, gk = m + 1 := ⟨gk - 1, by omega⟩
      rw [Int.toNat_natCast] at hcell
      have en' := take_next hc
      obtain ⟨x, hx⟩ : ∃ x, rdOf ByteArray.empty l' (i : Int) = x := ⟨_, rfl⟩
      rw [hx] at hcell en'
      go_wp2_with fail
      by_cases hin : i < n
      · have e1 : min i n = i := by omega
        have e2 : min (i + 1) n = i + 1 := by omega
        rw [e1] at L
        refine (Strs.put x (by rw [List.length_take]; omega) (by rw [List.length_take]; omega) L.out).mono ?_
        rintro e w3 ⟨rfl, h3⟩
        rw [← en'] at h3
        have L3 := Aside0.mk h3
        clear h3
        go_wp2_with fail
        try rw [wi]
        go_roundg kk
        case measure => omega
        case rel => exact ⟨i + 1, rfl, ⟨by omega⟩, by rw [e2]; simpa using L3⟩
      · have e1 : min i n = n := by omega
        have e2 : min (i + 1) n = n := by omega
        rw [e1] at L
        refine (Strs.lose x (by rw [List.length_take]; omega) (by omega) (by omega) L.out).mono ?_
        rintro e w3 ⟨rfl, h3⟩
        have e3 : ((i - n : Nat) : Int) + 1 = ((i + 1 - n : Nat) : Int) := by omega
        rw [e3] at h3
        have L3 := Aside0.mk h3
        clear h3
        go_wp2_with fail
        try rw [wi]
        go_roundg kk
        case measure => omega
        case rel => exact ⟨i + 1, rfl, ⟨by omega⟩, by rw [e2]; exact L3⟩
    · have c1 : decide ((i : Int) < (l'.length : Int)) = false := decide_eq_false (by omega)
      obtain rfl : i = l'.length := by omega
      obtain ⟨q, hq⟩ : ∃ q : Nat, min l'.length n = q := ⟨_, rfl⟩
      rw [hq] at L
      have hmin : min (n : Int) (l'.length : Int) = (q : Int) := by omega
      have hq2 : (q : Int).toNat = q := Int.toNat_natCast q
      have R := HR.out.below L.out.bel
      have qc : q ≤ l'.length := by omega
      have lq : (l'.take q).length = q := by rw [List.length_take]; omega
      have Rq := R.take_ q qc
      have RQ := Aside0.mk Rq
      clear Rq R
      have s1 : decide (0 ≤ (q : Int)) = true := decide_eq_true (by omega)
      have s2 : decide ((q : Int) ≤ (c : Int)) = true := decide_eq_true (by omega)
      have wl : IntKind.i64.wrap ((l'.length : Int) - (q : Int)) = ((l'.length - q : Nat) : Int) := by rw [IntKind.wrap_i64]; omega
      go_upto_region 11 with (fail)
      have RD := Aside0.mk (HR.out.below (drewL L.out).bel)
      have C := Aside0.mk (list_ q lq (by omega) (drewL L.out))
      go_region_with (first
        | (go_at_call 17; (with_reducible refine C.out.mono ?_); rintro e w2 ⟨A2, c2, rfl, hc2, ho2, hr2, hL2, hb2⟩; have HC2 := Aside0.mk hc2; have R2 := Aside0.mk hr2; have L2 := Aside0.mk hL2; have RQ2 := Aside0.mk (RQ.out.below (below_then (below_drew1 (Below.refl _ _)) (Nat.le_refl _) hb2)); clear hc2 ho2 hr2 hL2 hb2)
        | (go_at_call 16; refine (Same_ok (l'.take q) q lq A2 A c2 c _ (by omega) R2.out HC2.out RQ2.out (by omega)).mono ?_; rintro e w3 ⟨rfl, m3, rfl⟩; have L3 := Aside0.mk (drewNL m3 L2.out))
        | (go_at_call 18; refine (Strs.lost_ L3.out).mono ?_; rintro e w4 ⟨rfl, rfl⟩))
      all_goals (
        have LZ := Aside0.mk L3.out
        have lost0 : True := trivial
        go_wp2_with fail
        go_loopg [10, 11, 12] q (fun k v10 v11 v12 w' => ∃ j : Nat, v10 = .int .i64 (j : Int) ∧ Aside0 (j + k = q) ∧ Aside0 (Strs.Lane w w' g ((l'.take q).drop j) n ((l'.length - q : Nat) : Int)))
        case atStart => exact ⟨0, rfl, ⟨by omega⟩, LZ⟩
        case round =>
          clear LZ L3 L2
          obtain ⟨j, rfl, hk2, L⟩ := hrel
          have hkk2 := hk2.out
          have wj : IntKind.i64.wrap ((j : Int) + 1) = ((j + 1 : Nat) : Int) := by rw [IntKind.wrap_i64]; omega
          by_cases hj : j < q
          · have c1 : decide ((j : Int) < (q : Int)) = true := decide_eq_true (by omega)
            have ed := drop_next (l := l'.take q) (i := j) (by omega)
            rw [rd_take hj] at ed
            obtain ⟨x, hx⟩ : ∃ x, rdOf ByteArray.empty l' (j : Int) = x := ⟨_, rfl⟩
            rw [hx] at ed
            rw [ed] at L
            obtain ⟨kk, rfl⟩ : ∃ m, gk = m + 1 := ⟨gk - 1, by omega⟩
            go_wp2_with fail
            refine (Strs.take (by rw [List.length_drop]; omega) L.out).mono ?_
            rintro e w5 ⟨rfl, h5⟩
            have L5 := Aside0.mk h5
            clear h5 L
            have R5 := HR.out.below L5.out.bel
            obtain ⟨ad, rfl, hcell⟩ := R5.at_ (j : Int) (by omega) (by omega)
            have i0 : decide (0 ≤ (j : Int)) = true := decide_eq_true (by omega)
            have i1 : decide ((j : Int) < (l'.length : Int)) = true := decide_eq_true (by omega)
            rw [hx, Int.toNat_natCast] at hcell
            clear R5
            go_wp2_with fail
            try rw [wj]
            go_roundg kk
            case measure => omega
            case rel => exact ⟨j + 1, rfl, ⟨by omega⟩, L5⟩
          · have c1 : decide ((j : Int) < (q : Int)) = false := decide_eq_false (by omega)
            obtain rfl : j = q := by omega
            have e0 : (l'.take j).drop j = [] := by rw [List.drop_eq_nil_iff]; omega
            rw [e0] at L
            go_wp2_with fail
            refine (Strs.len L.out).mono ?_
            rintro e w5 ⟨rfl, rfl⟩
            go_wp2_with fail
            refine (Strs.put ⟨#[109, 111, 114, 101]⟩ (by simp only [List.length_nil]; omega) (by decide) L.out).mono ?_
            rintro e w6 ⟨rfl, h6⟩
            have B6 := Aside0.mk h6.bel
            clear h6 L
            go_wp2_with fail
            refine (fixed w6).mono ?_
            rintro e w7 ⟨rfl, h7⟩
            have B7 := Aside0.mk (below_step B6.out h7)
            clear h7 B6
            go_wp2_with fail
            go_ret
            exact ⟨rfl, B7.out⟩)
end Go.Proofs.Ytbbboejcjcakbaa.Hand
