/- Addresses and their texts: laws by hand. -/
import Derived.Test.YtiffbjpmmbfkjaaDoorAdPure
import Derived.Test.YtiffbjpmmbfkjaaDoorShelf
import Derived.Test.YtiffbjpmmbfkjaaDoorPx0
import Derived.Test.YtiffbjpmmbfkjaaDoorPx1
import Derived.WalkLawsBesides
namespace Go.Proofs.YtiffbjpmmbfkjaaDoor.Ad
open Go Go.RowKit Go.Proofs.YtiffbjpmmbfkjaaDoor.Mth Go.Proofs.YtiffbjpmmbfkjaaDoorW.PrintWords Go.Proofs.YtiffbjpmmbfkjaaDoorW.PrintLast Go.Proofs.YtiffbjpmmbfkjaaDoorW.PrintMore Go.Proofs.YtiffbjpmmbfkjaaDoor.P Go.Proofs
set_option linter.unusedVariables false
set_option linter.unusedSimpArgs false
def dg : ByteArray := ⟨#[48, 49, 50, 51, 52, 53, 54, 55, 56, 57, 97, 98, 99, 100, 101, 102]⟩
theorem dg_at : ∀ (i : Nat) (h : i < dg.size), (dg[i]'h).toNat = hx i := by
  intro i h
  have h' : i < 16 := h
  have q : ∀ j : Fin 16, (dg[j.1]'j.2).toNat = hx j.1 := by decide
  exact q ⟨i, h'⟩
theorem digitS_none {c : Nat} (h : ∀ j, j < 16 → hx j ≠ c) : digitS c = -1 := by
  unfold digitS
  split
  · next q => exact absurd (show hx (c - 48) = c by unfold hx; rw [if_pos (by omega)]; omega) (h _ (by omega))
  · split
    · next q => exact absurd (show hx (c - 87) = c by unfold hx; rw [if_neg (by omega)]; omega) (h _ (by omega))
    · rfl
theorem below_iter (w : World) (s : ByteArray) (p : Nat) : Below w.heap.size w (w.iter s p) := below_alloc (Below.refl _ _) _
set_option maxHeartbeats 4000000 in
set_option maxRecDepth 100000 in
theorem digit_calls (c : Nat) (hc : c < 256) (w : World) :
    Calls Tryd.prog 22 #[.int .u8 (c : Int)] w fun e w' => e = .returned (.int .i64 (digitS c)) ∧ Below w.heap.size w w' := by
  go_enter Tryd.func22, Tryd.ntmps22
  go_wp2_with fail
  go_loopg [3] 16 (fun k v3 w' => ∃ i : Nat, Aside0 (i + k = 16) ∧ Aside0 (∀ j, j < i → hx j ≠ c) ∧ w' = w.iter dg i)
  case atStart => exact ⟨0, ⟨rfl⟩, ⟨fun j hj => absurd hj (by omega)⟩, rfl⟩
  case round =>
    obtain ⟨i, hk, hI, rfl⟩ := hrel
    have hkk := hk.out
    by_cases hi : i < 16
    · have hlt := hx_lt hi
      have h128 : hx i < 128 := by unfold hx; split <;> omega
      have hnx : ∀ ty, (Instr.next (.pointer (some ⟨w.heap.size, 0, none⟩)) true ty).run Tryd.prog (w.iter dg i) = .ok (.tuple #[.bool true, .int .i64 i, .int .i32 (hx i : Int)]) (w.iter dg (i + 1)) := fun ty => by
        have e := dg_at i hi
        have q := run_next_ascii (P := Tryd.prog) w dg i ty hi (by rw [e]; exact h128)
        rw [e] at q
        exact q
      have hcv : IntKind.u8.wrap (hx i : Int) = (hx i : Int) := by rw [IntKind.wrap_u8]; omega
      obtain ⟨kk, rfl⟩ : ∃ m, gk = m + 1 := ⟨gk - 1, by omega⟩
      by_cases he : hx i = c
      · have b1 : ((hx i : Int) == (c : Int)) = true := by rw [he]; exact beq_self_eq_true _
        go_wp2_with fail
        go_ret
        exact ⟨by rw [← he, digit_hx hi]; rfl, below_iter _ _ _⟩
      · have b1 : ((hx i : Int) == (c : Int)) = false := beq_eq_false_iff_ne.2 (by omega)
        go_wp2_with fail
        go_roundg kk
        case measure => omega
        case rel => exact ⟨i + 1, ⟨by omega⟩, ⟨fun j hj => by
          by_cases e : j = i
          · rw [e]; exact he
          · exact hI.out j (by omega)⟩, rfl⟩
    · have hnx := fun ty => run_next_end (P := Tryd.prog) w dg i ty hi
      go_wp2_with fail
      go_ret
      exact ⟨by rw [digitS_none fun j hj => hI.out j (by omega)]; rfl, below_iter _ _ _⟩
/-! strings.Split at one byte, as a recursion. -/
def splU (c : UInt8) : List UInt8 → List (List UInt8)
  | [] => [[]]
  | a :: l => if a = c then [] :: splU c l else match splU c l with | [] => [[a]] | h :: t => (a :: h) :: t
theorem splU_none {c : UInt8} : ∀ {l : List UInt8}, l.count c = 0 → splU c l = [l]
  | [], _ => rfl
  | a :: l, h => by
    by_cases e : a = c
    · subst e; simp at h
    · rw [List.count_cons_of_ne (by simpa using e)] at h
      simp only [splU, if_neg e, splU_none h]
theorem index_pos {c : UInt8} : ∀ {l : List UInt8}, l.count c ≠ 0 → ∃ i : Nat, Lib.indexByte l c = (i : Int) ∧ splU c l = l.take i :: splU c (l.drop (i + 1)) ∧ (l.drop (i + 1)).count c + 1 = l.count c
  | [], h => absurd rfl h
  | a :: l, h => by
    by_cases e : a = c
    · subst e
      refine ⟨0, ?_, ?_, ?_⟩
      · simp [Lib.indexByte]
      · simp [splU]
      · simp
    · rw [List.count_cons_of_ne (by simpa using e)] at h
      obtain ⟨i, h1, h2, h3⟩ := index_pos h
      refine ⟨i + 1, ?_, ?_, ?_⟩
      · have e1 : (a == c) = false := by simpa using e
        have e2 : (Lib.indexByte l c == -1) = false := beq_eq_false_iff_ne.2 (by omega)
        simp only [Lib.indexByte, e1, e2]
        rw [h1]
        simp
      · simp only [splU, if_neg e, h2, List.take_succ_cons, List.drop_succ_cons]
      · rw [List.count_cons_of_ne (by simpa using e), List.drop_succ_cons, h3]
theorem splitK_one (c : UInt8) : ∀ (k : Nat) (l : List UInt8), l.count c = k → Lib.splitK [c] 0 k l = splU c l
  | 0, l, h => by rw [splU_none h]; rfl
  | k + 1, l, h => by
    obtain ⟨i, h1, h2, h3⟩ := index_pos (c := c) (l := l) (by omega)
    have e : ¬ (Lib.index l [c] == -1) = true := by rw [Lib.index_one, h1]; intro q; have := beq_iff_eq.1 q; omega
    rw [Lib.splitK, if_neg e, Lib.index_one, h1, h2]
    simp only [Int.toNat_natCast, Nat.add_zero, List.length_singleton]
    rw [splitK_one c k _ (by omega)]
def toN (l : List UInt8) : List Nat := l.map UInt8.toNat
theorem splU_spl : ∀ l : List UInt8, (splU 58 l).map toN = spl (toN l)
  | [] => rfl
  | a :: l => by
    have ih := splU_spl l
    have e : toN (a :: l) = a.toNat :: toN l := rfl
    rw [e]
    simp only [splU, spl]
    by_cases h : a = 58
    · subst h
      rw [if_pos rfl, if_pos (show UInt8.toNat 58 = 58 from rfl), List.map_cons, ih]; rfl
    · have h' : a.toNat ≠ 58 := fun q => h (UInt8.toNat_inj.1 q)
      rw [if_neg h, if_neg h', ← ih]
      cases splU 58 l with
      | nil => rfl
      | cons x r => rfl
/-- The pieces that Split makes, as numbers. -/
theorem split_spl (s : ByteArray) : (Lib.splitB ⟨#[58]⟩ 0 (Lib.countB s ⟨#[58]⟩) s).map B = spl (B s) := by
  have e : Lib.countB s ⟨#[58]⟩ = s.data.toList.count 58 := Lib.count_one 58 _
  have h := Lib.splitB_data ⟨#[58]⟩ 0 (Lib.countB s ⟨#[58]⟩) s
  rw [e, show (⟨#[58]⟩ : ByteArray).data.toList = [58] from rfl, splitK_one 58 _ _ rfl, ← e] at h
  have h2 := congrArg (List.map toN) h
  rw [List.map_map, splU_spl] at h2
  exact h2
/-- The join that Print makes. -/
theorem join_joinS : ∀ xs : List ByteArray, toN (Lib.join (xs.map (·.data.toList)) [58]) = joinS (xs.map B)
  | [] => rfl
  | [x] => by simp [Lib.join, joinS, toN, B, List.intercalate]
  | x :: y :: r => by
    have ih := join_joinS (y :: r)
    simp only [List.map_cons] at ih ⊢
    rw [show joinS (B x :: B y :: List.map B r) = B x ++ 58 :: joinS (B y :: List.map B r) from rfl, ← ih]
    simp [Lib.join, toN, B, List.intercalate, List.intersperse]
def twS (b : Nat) : ByteArray := dg.extract (b / 16) (b / 16 + 1) ++ dg.extract (b % 16) (b % 16 + 1)
theorem dg_one : ∀ d : Fin 16, B (dg.extract d.1 (d.1 + 1)) = [hx d.1] := by decide
theorem B_twS {b : Nat} (h : b < 256) : B (twS b) = two b := by
  unfold twS
  rw [B_append, dg_one ⟨b / 16, by omega⟩, dg_one ⟨b % 16, by omega⟩]
  rfl
theorem twS_size {b : Nat} (h : b < 256) : (twS b).size = 2 := by rw [← B_length, B_twS h]; rfl
def rowS (l : List Nat) : List Value := l.map fun b => .string (twS b)
theorem take_snoc {l : List Nat} {i : Nat} (h : i < l.length) : l.take (i + 1) = l.take i ++ [l.getD i 0] := by
  rw [List.take_succ_eq_append_getElem h]
  simp [List.getD_eq_getElem?_getD, List.getElem?_eq_getElem h]
theorem info9 : (Tryd.prog.info? 9).map (fun i => (i.zero, i.size, i.bytes)) = some (some (.string ByteArray.empty), 1, 16) := by kernel_rfl
theorem join_mk (l : List Nat) (h : Bt l) : (⟨(Lib.join ((l.map twS).map (·.data.toList)) [58]).toArray⟩ : ByteArray) = mk (textS l) := by
  apply B_inj
  have hb : ∀ x ∈ l.map two, Bt x := by
    intro x hx'
    obtain ⟨y, hy, rfl⟩ := List.mem_map.1 hx'
    have := h y hy
    intro z hz
    simp only [two, List.mem_cons, List.not_mem_nil, or_false] at hz
    have h1 := hx_lt (show y / 16 < 16 by omega)
    have h2 := hx_lt (show y % 16 < 16 by omega)
    omega
  have hj : ∀ ps : List (List Nat), (∀ x ∈ ps, Bt x) → Bt (joinS ps) := by
    intro ps
    induction ps with
    | nil => intro _; exact Bt.nil
    | cons x r ih =>
      intro hp
      cases r with
      | nil => exact hp x (by simp)
      | cons y r =>
        refine Bt.append (hp x (by simp)) ?_
        intro z hz
        rcases List.mem_cons.1 hz with e | e
        · rw [e]; decide
        · exact ih (fun q hq => hp q (List.mem_cons_of_mem _ hq)) z e
  rw [B_mk (show Bt (textS l) from hj _ hb)]
  have e := join_joinS (l.map twS)
  have e2 : (l.map twS).map B = l.map two := by
    rw [List.map_map]
    exact List.map_congr_left fun b hb' => B_twS (h b hb')
  rw [e2] at e
  exact e
theorem twS_ext (b d2 : Nat) (h : b % 16 = d2) : twS b = dg.extract ((b : Int) / 16).toNat ((b : Int) / 16 + 1).toNat ++ dg.extract d2 (d2 + 1) := by
  have e1 : ((b : Int) / 16).toNat = b / 16 := by omega
  have e2 : ((b : Int) / 16 + 1).toNat = b / 16 + 1 := by omega
  rw [e1, e2, ← h]; rfl
theorem shr_u8 {b : Nat} (h : b < 256) : shr .u8 (b : Int) 4 = ((b / 16 : Nat) : Int) := by
  have q : ∀ b : Fin 256, shr .u8 ((b.1 : Nat) : Int) 4 = ((b.1 / 16 : Nat) : Int) := by decide +kernel
  exact q ⟨b, h⟩
theorem and_u8 {b : Nat} (h : b < 256) : Go.bits .and .u8 (b : Int) 15 = ((b % 16 : Nat) : Int) := by
  have q : ∀ b : Fin 256, Go.bits .and .u8 ((b.1 : Nat) : Int) 15 = ((b.1 % 16 : Nat) : Int) := by decide +kernel
  exact q ⟨b, h⟩
set_option maxHeartbeats 8000000 in
set_option maxRecDepth 100000 in
theorem print_calls (mac : ByteArray) (w : World) (hs : mac.size = 6) :
    Calls Tryd.prog 8 #[.string mac] w fun e w' => e = .returned (.tuple #[.string (mk (textS (B mac))), .int .i64 0]) ∧ Below w.heap.size w w' := by
  have hl : (B mac).length = 6 := by rw [B_length, hs]
  have hb := B_bt mac
  have hsz : ((mac.size : Int) != 6) = false := by rw [hs]; rfl
  have hsi : (mac.size : Int) = 6 := by rw [hs]; rfl
  go_enter Tryd.func8, Tryd.ntmps8
  go_wp2_with fail
  try rw [hsi]
  go_loopg [4, 11] 6 (fun k v4 v11 w' => ∃ (i : Nat), v11 = .int .i64 (i : Int) ∧ Aside0 (i + k = 6) ∧ Aside0 (w'.ownsRow w.heap.size 9 1 v4 i (rowS ((B mac).take i))) ∧ Aside0 (Below w.heap.size w w'))
  case atStart => exact ⟨0, rfl, ⟨rfl⟩, ⟨own_nil _ _ _ _⟩, ⟨Below.refl _ _⟩⟩
  case round =>
    obtain ⟨i, rfl, hk, HO, HB⟩ := hrel
    have hkk := hk.out
    by_cases hi : i < 6
    · have c1 : decide ((i : Int) < 6) = true := decide_eq_true (by omega)
      have p0 : decide (0 ≤ (i : Int)) = true := decide_eq_true (by omega)
      have p1 : decide ((i : Int) < (mac.size : Int)) = true := decide_eq_true (by omega)
      obtain ⟨b, hb'⟩ : ∃ b, (B mac).getD i 0 = b := ⟨_, rfl⟩
      have hblt : b < 256 := hb' ▸ getD_lt hb i
      have ebt : bt mac (i : Int) = (b : Int) := by rw [bt_eq, hb']
      obtain ⟨d1, hd1⟩ : ∃ d, b / 16 = d := ⟨_, rfl⟩
      obtain ⟨d2, hd2⟩ : ∃ d, b % 16 = d := ⟨_, rfl⟩
      have e1 : shr .u8 (b : Int) 4 = (d1 : Int) := by rw [shr_u8 hblt, hd1]
      have e2 : Go.bits .and .u8 (b : Int) 15 = (d2 : Int) := by rw [and_u8 hblt, hd2]
      have hbt : ∀ h : i < mac.size, (mac[i]'h).toNat = b := fun h => by
        have q := bt_at mac (i : Int) (by simpa using h)
        rw [ebt] at q
        have q2 : ((mac[i].toNat : Nat) : Int) = (b : Int) := by simpa using q
        exact Int.ofNat.inj q2
      have q0 := eq_true (show 0 ≤ (i : Int) by omega)
      have q1 := eq_true (show (i : Int) < 6 by omega)
      have hd3 : d1 < 16 := by omega
      have hd4 : d2 < 16 := by omega
      have r0 := eq_true (show 0 ≤ (b : Int) / 16 by omega)
      have r0' := eq_true (show 0 ≤ (d2 : Int) by omega)
      have r1 := eq_true (show (b : Int) / 16 ≤ (b : Int) / 16 + 1 by omega)
      have r2 := eq_true (show (b : Int) / 16 + 1 ≤ 16 by omega)
      have r3 := eq_true (show (d2 : Int) ≤ (d2 : Int) + 1 by omega)
      have r4 := eq_true (show (d2 : Int) + 1 ≤ 16 by omega)
      have w1 : IntKind.u8.wrap ((b : Int) / 16 + 1) = (b : Int) / 16 + 1 := by rw [IntKind.wrap_u8]; omega
      have w2 : IntKind.u8.wrap ((d2 : Int) + 1) = (d2 : Int) + 1 := by rw [IntKind.wrap_u8]; omega
      have w3 : (9223372036854775807 < ((b : Int) / 16 + 1).toNat - ((b : Int) / 16).toNat + (min (d2 + 1) 16 - d2)) = False := eq_false (by omega)
      have wi : IntKind.i64.wrap ((i : Int) + 1) = ((i + 1 : Nat) : Int) := by rw [IntKind.wrap_i64]; omega
      obtain ⟨kk, rfl⟩ : ∃ m, gk = m + 1 := ⟨gk - 1, by omega⟩
      clear ebt
      go_upto_region 7 with (fail)
      go_region_law (refine step_append_cells (w0 := w) (W := wr.drew) w.heap.size rfl (.tmp 14) (.tmp 36) 33 9 (.string ByteArray.empty) 1 16 rfl Tryd.underlying33 info9 rfl (by decide) (by decide) u4 i (rowS ((B mac).take i)) _ rfl rfl rfl (by intro u hu; simp at hu; rcases hu with rfl; rfl) (World.ownsRow.drew HO.out) (below_drew1 HB.out) HB.out.size (by omega) ?_; intro v1 w1 ho1 hb1 hg1 hf1; have HO1 := Aside0.mk ho1; have HB1 := Aside0.mk hb1; clear ho1 hb1 hg1 hf1)
      all_goals (
        have HR := Aside0.mk (show w1.ownsRow w.heap.size 9 1 v1 (i + 1) (rowS ((B mac).take (i + 1))) by
          have q := HO1.out
          rw [take_snoc (by omega), hb', rowS, List.map_append, List.map_cons, List.map_nil]
          rw [show twS b = _ from twS_ext b d2 hd2]
          exact q)
        clear HO1 w3 r0 r1 r2 r3 r4 r0' e1 e2 hbt q0 q1
        go_wp2_with fail
        try rw [wi]
        go_roundg kk
        case measure => omega
        case rel => exact ⟨i + 1, rfl, ⟨by omega⟩, HR, HB1⟩)
    · have c1 : decide ((i : Int) < 6) = false := decide_eq_false (by omega)
      obtain rfl : i = 6 := by omega
      have ho := HO.out
      rw [List.take_of_length_le (by omega)] at ho
      rcases ho.2 with ⟨-, h0⟩ | ⟨bk, cap, cur, rfl, g1, g2, g3, g4, g5, g6⟩
      · exact absurd h0 (by decide)
      have hcell : ∀ (j : Nat) x, ((B mac).map twS)[j]? = some x → wr.cell? ⟨bk, 0 + j, none⟩ = some (.string x) := by
        intro j x hx'
        have hj : j < 6 := by
          have := (List.getElem?_eq_some_iff.1 hx').1
          rw [List.length_map] at this; omega
        rw [Nat.zero_add, ho.cellAt j (by omega)]
        unfold rowS
        rw [List.getElem?_map] at hx' ⊢
        cases hq : (B mac)[j]? with
        | none => rw [hq] at hx'; cases hx'
        | some y => rw [hq] at hx'; simp only [Option.map_some, Option.some.injEq] at hx' ⊢; rw [hx']
      have J := Aside0.mk (Tryd.strings_Join bk 0 cap ((B mac).map twS) ⟨#[58]⟩ wr hcell (by have := ho; exact own_lt this bk rfl) (by rw [List.length_map, hl]; decide) (by rw [List.length_map, hl]; exact g3) (by
        have e := congrArg List.length (join_joinS ((B mac).map twS))
        have e2 : ((B mac).map twS).map B = (B mac).map two := by rw [List.map_map]; exact List.map_congr_left fun b hb' => B_twS (hb b hb')
        rw [e2, toN, List.length_map, show joinS ((B mac).map two) = textS (B mac) from rfl, text_len hl] at e
        rw [show (⟨#[58]⟩ : ByteArray).data.toList = [58] from rfl, e]; decide))
      rw [show (⟨#[58]⟩ : ByteArray).data.toList = [58] from rfl, join_mk _ hb, List.length_map, hl] at J
      go_wp2_with fail
      refine J.out.mono ?_
      rintro e w3 ⟨rfl, hb3⟩
      have B3 := Aside0.mk (below_step HB.out hb3)
      clear hb3
      go_wp2_with fail
      go_ret2
      exact ⟨rfl, B3.out⟩
/-! strings.Split at ":" -/
def pcs (s : ByteArray) : List ByteArray := Lib.splitB ⟨#[58]⟩ 0 (Lib.countB s ⟨#[58]⟩) s
theorem pcs_spl (s : ByteArray) : (pcs s).map B = spl (B s) := split_spl s
theorem split_calls (s : ByteArray) (w : World) (hs : s.size < 4294967281) :
    Calls Tryd.prog 21 #[.string s, .string ⟨#[58]⟩] w fun e w' =>
      e = .returned (.slice (some ⟨w.heap.size, 0, none⟩) (pcs s).length (pcs s).length) ∧ w' = w.alloc (.cells ((pcs s).map Value.string).toArray 9) := by
  have h1 : 1 ≤ (⟨#[58]⟩ : ByteArray).size := by decide
  have hle := Lib.countB_le ⟨#[58]⟩ h1 s.size s (Nat.le_refl _)
  have hlen := Lib.splitB_all ⟨#[58]⟩ h1 0 _ s rfl
  have hC : Calls Tryd.prog 33 #[.string s, .string ⟨#[58]⟩] w fun e w' => e = .returned (.int .i64 (Lib.countB s ⟨#[58]⟩)) ∧ w' = w := by
    refine (Tryd.strings_Count_one s 58 w).mono fun e w' ⟨he, hw⟩ => ⟨?_, hw⟩
    rw [he]
    show _ = Ending.returned (Value.int .i64 ((Lib.count s.data.toList [58] : Nat) : Int))
    rw [Lib.count_one]
    rfl
  have hI : ∀ (x : ByteArray) (c : Array Value), x.size ≤ s.size → Calls Tryd.prog 34 #[.string x, .string ⟨#[58]⟩] (w.alloc (.cells c 9)) fun e w' => e = .returned (.int .i64 (Lib.indexB x ⟨#[58]⟩)) ∧ w' = w.alloc (.cells c 9) := by
    intro x c _
    refine (Tryd.strings_Index_one x 58 _).mono fun e w' ⟨he, hw⟩ => ⟨?_, hw⟩
    rw [he]
    show _ = Ending.returned (Value.int .i64 (Lib.index x.data.toList [58]))
    rw [Lib.index_one]
  have c := Any.strings_genSplit_core Tryd.lays221 (by kernel_rfl) s ⟨#[58]⟩ 0 (-1) (Lib.countB s ⟨#[58]⟩ + 1) w hs h1 (Nat.zero_le _) hI hC (by decide) (by decide) (by rw [if_pos (by decide)]; omega)
  rw [Nat.add_sub_cancel] at c
  have e2 : Lib.cellsOf (pcs s) (Lib.countB s ⟨#[58]⟩ + 1) = ((pcs s).map Value.string).toArray := by rw [← hlen]; exact Lib.cellsOf_full _
  rw [show Lib.splitB ⟨#[58]⟩ 0 (Lib.countB s ⟨#[58]⟩) s = pcs s from rfl] at c hlen
  rw [e2, ← hlen] at c
  have C := Aside0.mk c
  clear c hC hI hle e2 hlen
  go_enter Tryd.func21, Tryd.ntmps21
  go_wp2_with fail
  refine C.out.mono ?_
  rintro e w' ⟨rfl, rfl⟩
  go_wp2_with fail
  go_ret
  exact ⟨rfl, rfl⟩
def parseP : List (List Nat) → List Nat → List Nat × Int
  | [], b => (b, 0)
  | p :: ps, b => match p with
    | [x, y] => if digitS x < 0 ∨ digitS y < 0 then ([], 50) else parseP ps (b ++ [16 * (digitS x).toNat + (digitS y).toNat])
    | _ => ([], 50)
theorem parseP_eq : ∀ (ps : List (List Nat)) (b : List Nat), parseP ps b = match partsS ps with | some c => (b ++ c, 0) | none => ([], 50)
  | [], b => by simp [parseP, partsS]
  | [] :: ps, b => rfl
  | [x] :: ps, b => rfl
  | (x :: y :: z :: r) :: ps, b => rfl
  | [x, y] :: ps, b => by
    have ih := parseP_eq ps
    unfold parseP partsS
    by_cases q : digitS x < 0 ∨ digitS y < 0
    · simp only [if_pos q]
    · simp only [if_neg q]
      rw [ih]
      cases partsS ps with
      | none => rfl
      | some c => simp
theorem parseS_eq {l : List Nat} (h : (spl l).length = 6) : parseS l = parseP (spl l) [] := by
  unfold parseS
  rw [if_pos h, parseP_eq]
  cases partsS (spl l) with
  | none => rfl
  | some c => simp
theorem parseP_bad {p : List Nat} {ps : List (List Nat)} {b : List Nat} (h : p.length ≠ 2) : parseP (p :: ps) b = ([], 50) := by
  match p, h with
  | [], _ => rfl
  | [x], _ => rfl
  | [x, y], h => exact absurd rfl h
  | (x :: y :: z :: r), _ => rfl
theorem parseP_two {x y : Nat} {ps : List (List Nat)} {b : List Nat} : parseP ([x, y] :: ps) b = if digitS x < 0 ∨ digitS y < 0 then ([], 50) else parseP ps (b ++ [16 * (digitS x).toNat + (digitS y).toNat]) := rfl
def bN (t : ByteArray) (i : Int) : Nat := (bt t i).toNat
theorem two_of {t : ByteArray} (h : t.size = 2) : B t = [bN t 0, bN t 1] := by
  have hl : (B t).length = 2 := by rw [B_length, h]
  match hb : B t, hl with
  | [x, y], _ =>
    have e0 := bt_eq t 0
    have e1 := bt_eq t 1
    rw [hb] at e0 e1
    unfold bN
    rw [show (0 : Int) = ((0 : Nat) : Int) from rfl, e0, show (1 : Int) = ((1 : Nat) : Int) from rfl, e1]
    rfl
theorem or16 {d1 d2 : Nat} (h1 : d1 < 16) (h2 : d2 < 16) : Go.bits .or .i64 ((d1 : Int) * 16) (d2 : Int) % 256 = ((16 * d1 + d2 : Nat) : Int) := by
  have q : ∀ a b : Fin 16, Go.bits .or .i64 (((a.1 : Nat) : Int) * 16) ((b.1 : Nat) : Int) % 256 = ((16 * a.1 + b.1 : Nat) : Int) := by decide +kernel
  exact q ⟨d1, h1⟩ ⟨d2, h2⟩
theorem nums_app (k : IntKind) (a b : List Int) : nums k (a ++ b) = nums k a ++ nums k b := by simp [nums]
set_option maxHeartbeats 8000000 in
set_option maxRecDepth 100000 in
theorem parse_calls (s : ByteArray) (w : World) (hs : s.size < 4294967281) :
    Calls Tryd.prog 10 #[.string s] w fun e w' => e = .returned (.tuple #[.string (mk (parseS (B s)).1), .int .i64 (parseS (B s)).2]) ∧ Below w.heap.size w w' := by
  have hp := pcs_spl s
  obtain ⟨ps, eps⟩ : ∃ ps, pcs s = ps := ⟨_, rfl⟩
  have C := Aside0.mk (split_calls s w hs)
  rw [eps] at C hp
  have hl : (spl (B s)).length = ps.length := by rw [← hp, List.length_map]
  obtain ⟨R, hR⟩ : ∃ R, parseS (B s) = R := ⟨_, rfl⟩
  rw [hR]
  go_enter Tryd.func10, Tryd.ntmps10
  go_wp2_with fail
  refine C.out.mono ?_
  rintro e w1 ⟨rfl, hw1⟩
  have HB1 := Aside0.mk (show Below w.heap.size w w1 by rw [hw1]; exact below_alloc (Below.refl _ _) _)
  have hcell : ∀ j, j < ps.length → w1.cell? ⟨w.heap.size, j, none⟩ = some (.string (ps.getD j ByteArray.empty)) := by
    intro j hj
    rw [hw1, World.cell?_alloc_new]
    simp [List.getD_eq_getElem?_getD, List.getElem?_eq_getElem hj]
  have HC := Aside0.mk hcell
  clear hcell hw1 C
  by_cases h6 : ps.length = 6
  · rw [parseS_eq (by rw [hl, h6]), ← hp] at hR
    have hs6 : ((ps.length : Int) != 6) = false := by rw [h6]; rfl
    go_wp2_with fail
    try rw [h6]
    go_loopg [5, 17] 6 (fun k v5 v17 w' => ∃ (i : Nat) (b : List Nat), v17 = .int .i64 (i : Int) ∧ Aside0 (i + k = 6) ∧ Aside0 (parseP ((ps.map B).drop i) b = R) ∧ Aside0 (w'.ownsRow w1.heap.size 5 1 v5 i (nums .u8 (b.map fun (x : Nat) => (x : Int)))) ∧ Aside0 (Below w1.heap.size w1 w'))
    case atStart => exact ⟨0, [], rfl, ⟨rfl⟩, ⟨hR⟩, ⟨own_nil _ _ _ _⟩, ⟨Below.refl _ _⟩⟩
    case round =>
      obtain ⟨i, b, rfl, hk, hP, HO, HB⟩ := hrel
      have hkk := hk.out
      have wi : IntKind.i64.wrap ((i : Int) + 1) = ((i + 1 : Nat) : Int) := by rw [IntKind.wrap_i64]; omega
      by_cases hi : i < 6
      · have c1 : decide ((i : Int) < 6) = true := decide_eq_true (by omega)
        have p0 : decide (0 ≤ (i : Int)) = true := decide_eq_true (by omega)
        obtain ⟨t, ht⟩ : ∃ t, ps.getD i ByteArray.empty = t := ⟨_, rfl⟩
        have hc := HC.out i (by omega)
        rw [ht] at hc
        have hcell : wr.cell? ⟨w.heap.size, i, none⟩ = some (.string t) := by rw [HB.out.cell (World.block_lt_of_cell? _ _ hc)]; exact hc
        have hd : (ps.map B).drop i = B t :: (ps.map B).drop (i + 1) := by
          rw [List.drop_eq_getElem_cons (by rw [List.length_map]; omega)]
          congr 1
          rw [List.getElem_map, ← ht]
          simp [List.getD_eq_getElem?_getD, List.getElem?_eq_getElem (show i < ps.length by omega)]
        have hP2 := hP.out
        rw [hd] at hP2
        clear hP hd hc
        by_cases h2 : t.size = 2
        · rw [two_of h2, parseP_two] at hP2
          have hs2 : ((t.size : Int) != 2) = false := by rw [h2]; rfl
          have ht2 : (t.size : Int) = 2 := by rw [h2]; rfl
          have x0 : bN t 0 < 256 := by have := bt_range t 0; unfold bN; omega
          have x1 : bN t 1 < 256 := by have := bt_range t 1; unfold bN; omega
          obtain ⟨x, hx'⟩ : ∃ x, bN t 0 = x := ⟨_, rfl⟩
          obtain ⟨y, hy'⟩ : ∃ y, bN t 1 = y := ⟨_, rfl⟩
          have g0 : ∀ h : 0 < t.size, (t[0]'h).toNat = x := fun h => by
            have q := bt_at t 0 h
            have q2 := bt_range t 0
            have q3 : ((t[0].toNat : Nat) : Int) = bt t 0 := q
            unfold bN at hx'; omega
          have g1 : ∀ h : 1 < t.size, (t[1]'h).toNat = y := fun h => by
            have q := bt_at t 1 h
            have q2 := bt_range t 1
            have q3 : ((t[1].toNat : Nat) : Int) = bt t 1 := q
            unfold bN at hy'; omega
          rw [hx', hy'] at hP2
          rw [hx'] at x0
          rw [hy'] at x1
          have D := Aside0.mk (digit_calls x x0)
          have E := Aside0.mk (digit_calls y x1)
          have dx := @hx_digit x
          have dy := @hx_digit y
          obtain ⟨X, hX⟩ : ∃ X, digitS x = X := ⟨_, rfl⟩
          obtain ⟨Y, hY⟩ : ∃ Y, digitS y = Y := ⟨_, rfl⟩
          rw [hX, hY] at hP2
          rw [hX] at D dx
          rw [hY] at E dy
          have DX := Aside0.mk (And.intro dx dy)
          have HP2 := Aside0.mk hP2
          clear hP2 hx' hy' hX hY dx dy
          obtain ⟨kk, rfl⟩ : ∃ m, gk = m + 1 := ⟨gk - 1, by omega⟩
          go_upto_region 10 with (fail)
          have W0 := Aside0.mk (below_drew1 (Below.refl wr.heap.size wr))
          go_region_with (first
            | (go_at_call 22; (with_reducible refine (D.out _).mono ?_); rintro e w5 ⟨rfl, h5⟩; have B5 := Aside0.mk (below_step W0.out h5); clear h5)
            | (go_at_call 22; (with_reducible refine (E.out _).mono ?_); rintro e w6 ⟨rfl, h6'⟩; have B6 := Aside0.mk (below_step B5.out h6'); clear h6'))
          all_goals (
            have HO6 := Aside0.mk (pw_own_below HO.out B6.out)
            have HB6 := Aside0.mk (below_step HB.out B6.out)
            by_cases hbad : X < 0 ∨ Y < 0
            · have eR := HP2.out
              rw [if_pos hbad] at eR
              subst eR
              by_cases hX0 : X < 0
              · have b1 : decide (X < 0) = true := decide_eq_true hX0
                go_wp2_with fail
                go_ret2
                exact ⟨rfl, below_step HB1.out HB6.out⟩
              · have b1 : decide (X < 0) = false := decide_eq_false hX0
                have b2 : decide (Y < 0) = true := decide_eq_true (hbad.resolve_left hX0)
                go_wp2_with fail
                go_ret2
                exact ⟨rfl, below_step HB1.out HB6.out⟩
            · have eR := HP2.out
              rw [if_neg hbad] at eR
              have hX0 : ¬ X < 0 := fun h => hbad (.inl h)
              have hY0 : ¬ Y < 0 := fun h => hbad (.inr h)
              have q1 := (DX.out.1 (by omega)).2
              have q2 := (DX.out.2 (by omega)).2
              obtain ⟨d1, rfl⟩ : ∃ d : Nat, X = (d : Int) := ⟨X.toNat, by omega⟩
              obtain ⟨d2, rfl⟩ : ∃ d : Nat, Y = (d : Int) := ⟨Y.toNat, by omega⟩
              rw [Int.toNat_natCast] at q1 q2
              rw [Int.toNat_natCast, Int.toNat_natCast] at eR
              have ER := Aside0.mk eR
              have b1 : decide ((d1 : Int) < 0) = false := decide_eq_false hX0
              have b2 : decide ((d2 : Int) < 0) = false := decide_eq_false hY0
              clear eR hbad hX0 hY0 DX HP2
              go_wp2_with (at_builtin; refine print_append_cells (w0 := w1) w1.heap.size rfl (.tmp 36) (.tmp 42) 37 5 (.int .u8 0) 1 1 rfl Tryd.underlying37 info5 rfl (by decide) (by decide) u5 i _ _ rfl rfl rfl (by intro u hu; simp at hu; rcases hu with rfl; rfl) HO6.out HB6.out HB6.out.size (by omega) ?_; intro v1 w7 ho7 hb7 hg7 hf7; have HO7 := Aside0.mk ho7; have HB7 := Aside0.mk hb7; clear ho7 hb7 hg7 hf7)
              have HR := Aside0.mk (show w7.ownsRow w1.heap.size 5 1 v1 (i + 1) (nums .u8 ((b ++ [16 * d1 + d2]).map fun (x : Nat) => (x : Int))) by
                have q := HO7.out
                rw [or16 q1 q2] at q
                rw [List.map_append, nums_app]
                exact q)
              clear HO7 HO6 HB6
              go_wp2_with fail
              try rw [wi]
              go_roundg kk
              case measure => omega
              case rel => exact ⟨i + 1, b ++ [16 * d1 + d2], rfl, ⟨by omega⟩, ER, HR, HB7⟩)
        · rw [parseP_bad (by rw [B_length]; exact h2)] at hP2
          subst hP2
          have hs2 : ((t.size : Int) != 2) = true := bne_iff_ne.2 (by omega)
          go_wp2_with fail
          go_ret2
          exact ⟨rfl, below_step HB1.out HB.out⟩
      · have c1 : decide ((i : Int) < 6) = false := decide_eq_false (by omega)
        obtain rfl : i = 6 := by omega
        have hP2 := hP.out
        rw [List.drop_eq_nil_iff.2 (by rw [List.length_map]; omega)] at hP2
        have hcv := own_string (P := Tryd.prog) Tryd.underlying37 Tryd.underlying5 Tryd.underlying9 HO.out
        rw [strOfNums_cast] at hcv
        have e : R = (b, 0) := hP2.symm
        subst e
        go_wp2_with fail
        go_ret2
        exact ⟨rfl, below_step HB1.out HB.out⟩
  · have hs6 : ((ps.length : Int) != 6) = true := bne_iff_ne.2 (by omega)
    have e : R = ([], 50) := by rw [← hR]; unfold parseS; rw [if_neg (by rw [hl]; exact h6)]
    subst e
    go_wp2_with fail
    go_ret2
    exact ⟨rfl, HB1.out⟩
end Go.Proofs.YtiffbjpmmbfkjaaDoor.Ad
