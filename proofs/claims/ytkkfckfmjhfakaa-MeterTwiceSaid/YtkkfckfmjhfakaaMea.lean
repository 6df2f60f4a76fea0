/- Floats and the meter: contracts by hand, and the laws over them. -/
import Derived.Test.YtkkfckfmjhfakaaOwn
import Derived.Test.YtkkfckfmjhfakaaCal
namespace Go.Proofs.Ytkkfckfmjhfakaa.Mt
open Go Go.RowKit Go.Proofs.YtkkfckfmjhfakaaW.PrintWords Go.Proofs.YtkkfckfmjhfakaaW.PrintLast Go.Proofs.YtkkfckfmjhfakaaW.PrintMore Go.Proofs.Ytkkfckfmjhfakaa.Mth Go.Proofs.Ytkkfckfmjhfakaa.Own Go.Proofs
set_option linter.unusedVariables false
set_option linter.unusedSimpArgs false
open Ieee (Datum signed)
/-! ### The mean -/
theorem word_read {s : Bool} {r : Nat} (h : r ≤ Ieee.double.infRung) : (rd (Ieee.double.word s r)).isNaN = false ∧ Ieee.double.word s r < 2 ^ 64 := by
  rw [infr] at h
  have hw : Ieee.double.word s r = (if s then 2 ^ 63 + r else r) := by unfold Ieee.Format.word; rw [sw]
  rw [hw]
  refine ⟨?_, by split <;> omega⟩
  have hm : (if s then 2 ^ 63 + r else r) % 2 ^ 63 = r := by split <;> omega
  unfold rd Ieee.Format.read
  rw [sw, bin, infr, lp]
  dsimp only
  rw [hm]
  by_cases h1 : r < 2 ^ 52
  · rw [if_pos h1]; rfl
  · rw [if_neg h1]
    by_cases h2 : r < 2047 * 2 ^ 52
    · rw [if_pos h2]; rfl
    · rw [if_neg h2, if_pos (by omega)]; rfl
theorem write_read {d : Datum} (h : d.isNaN = false) : (rd (Ieee.double.write d)).isNaN = false ∧ Ieee.double.write d < 2 ^ 64 := by
  cases d with
  | nan s f => cases h
  | infinity s => exact word_read (Nat.le_refl _)
  | number s m i =>
    show (rd (Ieee.double.nearest s m i)).isNaN = false ∧ Ieee.double.nearest s m i < 2 ^ 64
    unfold Ieee.Format.nearest
    split
    · exact word_read (Nat.zero_le _)
    · exact word_read (Nat.min_le_right _ _)
/-- A sum with a finite number is no NaN. -/
theorem add_ok {s x : Nat} (hs : kd s ≠ 6) (hx : 1 ≤ kd x ∧ kd x ≤ 4) : ∃ r, floatBits .add .f64 s x = some r ∧ kd r ≠ 6 ∧ r < 2 ^ 64 := by
  have hsn : (rd s).isNaN = false := by rw [kd_nan]; exact decide_eq_false hs
  have go : ∀ d : Datum, d.isNaN = false → ((Datum.sum (rd s) (rd x)) = some d) → ∃ r, floatBits .add .f64 s x = some r ∧ kd r ≠ 6 ∧ r < 2 ^ 64 := by
    intro d hd e
    refine ⟨Ieee.double.write d, ?_, ?_, (write_read hd).2⟩
    · show (Datum.sum (rd s) (rd x)).map Ieee.double.write = _
      rw [e]; rfl
    · have q := (write_read hd).1
      rw [kd_nan] at q
      exact of_decide_eq_false q
  cases hr : rd x with
  | nan t f => unfold kd kdD at hx; rw [hr] at hx; simp at hx
  | infinity t => unfold kd kdD at hx; rw [hr] at hx; cases t <;> simp at hx
  | number t m i =>
    cases hq : rd s with
    | nan t f => rw [hq] at hsn; cases hsn
    | infinity u => exact go (.infinity u) rfl (by rw [hq, hr]; rfl)
    | number u n j => exact go (.number _ _ _) rfl (by rw [hq, hr]; rfl)
def isNum (x : Nat) : Bool := decide (1 ≤ kd x ∧ kd x ≤ 4)
def addF (s x : Nat) : Nat := (floatBits .add .f64 s x).getD 0
def sumS : List Nat → Nat
  | l => l.foldl (fun s x => if isNum x then addF s x else s) 0
def cntS (l : List Nat) : Nat := l.countP isNum
theorem add_run {s x : Nat} (hs : kd s ≠ 6) (hx : isNum x = true) : floatBits .add .f64 s x = some (addF s x) ∧ kd (addF s x) ≠ 6 ∧ addF s x < 2 ^ 64 := by
  obtain ⟨r, e, h1, h2⟩ := add_ok hs (of_decide_eq_true hx)
  unfold addF
  rw [e]
  exact ⟨rfl, h1, h2⟩
theorem sum_snoc (l : List Nat) (x : Nat) : sumS (l ++ [x]) = (if isNum x then addF (sumS l) x else sumS l) := by
  unfold sumS; rw [List.foldl_append]; rfl
theorem cnt_snoc (l : List Nat) (x : Nat) : cntS (l ++ [x]) = cntS l + (if isNum x then 1 else 0) := by
  unfold cntS; rw [List.countP_append, List.countP_cons, List.countP_nil]; omega
theorem sum_ok : ∀ l : List Nat, kd (sumS l) ≠ 6 := by
  have gen : ∀ (l : List Nat) (s : Nat), kd s ≠ 6 → kd (l.foldl (fun s x => if isNum x then addF s x else s) s) ≠ 6 := by
    intro l
    induction l with
    | nil => intro s h; exact h
    | cons a r ih =>
      intro s h
      rw [List.foldl_cons]
      refine ih _ ?_
      by_cases q : isNum a = true
      · rw [if_pos q]; exact (add_run h q).2.1
      · rw [if_neg q]; exact h
  exact fun l => gen l 0 (by decide)
theorem take_snoc {l : List Nat} {i : Nat} (h : i < l.length) : l.take (i + 1) = l.take i ++ [l.getD i 0] := by
  rw [List.take_add_one, List.getD_eq_getElem?_getD, List.getElem?_eq_getElem h]; rfl
/-- What Mean hands back. -/
def MeanP (l : List Nat) (r : Nat) : Prop := Res .quo (sumS l) (floatOfInt .f64 (cntS l)) r
set_option maxHeartbeats 8000000 in
set_option maxRecDepth 100000 in
theorem Mean_calls (A : Option Addr) (c : Nat) (l : List Nat) (w : World) (hr : ReadsOf (Value.float .f64) 0 w A l.length l) (hc : l.length ≤ c) (hb : l.length ≤ 100000) (hl : ∀ x ∈ l, x < 2 ^ 64) :
    Calls Try.prog 22 #[.slice A l.length c] w fun e w' => ∃ r, e = .returned (.tuple #[.float .f64 r, .int .i64 (cntS l)]) ∧ MeanP l r ∧ Below w.heap.size w w' := by
  have HL := Aside0.mk hl
  have HRD := Aside0.mk hr
  clear hl hr
  go_enter Try.func22, Try.ntmps22
  go_wp2_with fail
  go_loopg [4, 5, 11] l.length (fun gk v4 v5 v11 w' => ∃ i : Nat, v11 = .int .i64 (i : Int) ∧ v4 = .float .f64 (sumS (l.take i)) ∧ v5 = .int .i64 (cntS (l.take i) : Nat) ∧ Aside0 (i + gk = l.length) ∧ w' = w)
  case atStart => exact ⟨0, rfl, rfl, rfl, ⟨by omega⟩, rfl⟩
  case round =>
    obtain ⟨i, rfl, rfl, rfl, hk, hw⟩ := hrel
    rw [hw]
    clear hw
    have hkk := hk.out
    have wi : IntKind.i64.wrap ((i : Int) + 1) = ((i + 1 : Nat) : Int) := by rw [IntKind.wrap_i64]; omega
    by_cases hi : i < l.length
    · have c1 : decide ((i : Int) < (l.length : Int)) = true := decide_eq_true (by omega)
      have i0 : decide (0 ≤ (i : Int)) = true := decide_eq_true (by omega)
      obtain ⟨ad, hA, hcell⟩ := HRD.out.2.2 (by omega)
      subst hA
      have hx := hcell i hi
      clear hcell
      have HT := Aside0.mk (take_snoc hi)
      have hxl : l.getD i 0 < 2 ^ 64 := HL.out _ (by rw [List.getD_eq_getElem?_getD, List.getElem?_eq_getElem hi]; exact List.getElem_mem hi)
      have HC := Aside0.mk (cnt_snoc (l.take i) (l.getD i 0))
      have HS := Aside0.mk (sum_snoc (l.take i) (l.getD i 0))
      have SO := Aside0.mk (sum_ok (l.take i))
      have cl : cntS (l.take i) ≤ i := Nat.le_trans (List.countP_le_length) (by rw [List.length_take]; omega)
      obtain ⟨t, ht⟩ : ∃ t, l.take i = t := ⟨_, rfl⟩
      obtain ⟨x, hxe⟩ : ∃ x, l.getD i 0 = x := ⟨_, rfl⟩
      rw [ht] at HT HC HS SO cl
      rw [hxe] at HT HC HS hx hxl
      rw [ht]
      have HX := Aside0.mk hxl
      clear ht hxe hxl
      have KR := Aside0.mk (kd_range x)
      obtain ⟨ki, rfl⟩ : ∃ m, gk = m + 1 := ⟨gk - 1, by omega⟩
      go_wp2_with fail
      refine (Kind_calls x w HX.out).mono ?_
      rintro e w_ ⟨rfl, hw_⟩
      rw [hw_]
      clear hw_ w_
      by_cases q : isNum x = true
      · have kr := of_decide_eq_true q
        have Q := Aside0.mk q
        have k6 : (kd x != 6) = true := bne_iff_ne.2 (by omega)
        have k0 : (kd x != 0) = true := bne_iff_ne.2 (by omega)
        have k5 : (kd x != 5) = true := bne_iff_ne.2 (by omega)
        have ha := run_float_arith (P := Try.prog) w .add 22 .f64 _ _ _ (add_run SO.out q).1
        have ci : IntKind.i64.wrap ((cntS t : Int) + 1) = ((cntS t + 1 : Nat) : Int) := by rw [IntKind.wrap_i64]; omega
        clear q
        go_wp2_with fail
        try rw [wi]
        try rw [ci]
        go_roundg ki
        case measure => omega
        case rel => exact ⟨i + 1, rfl, by rw [HT.out, HS.out, if_pos Q.out], by rw [HT.out, HC.out, if_pos Q.out]; rfl, ⟨by omega⟩, rfl⟩
      · have Q := Aside0.mk q
        have kr := KR.out
        have hn : ¬ (1 ≤ kd x ∧ kd x ≤ 4) := fun h => q (decide_eq_true h)
        have three : kd x = 6 ∨ kd x = 0 ∨ kd x = 5 := by omega
        clear q hn kr
        have fin : sumS (t ++ [x]) = sumS t ∧ cntS (t ++ [x]) = cntS t := ⟨by rw [HS.out, if_neg Q.out], by rw [HC.out, if_neg Q.out]; rfl⟩
        have FN := Aside0.mk fin
        clear fin
        rcases three with k | k | k
        all_goals
          rw [k]
          go_wp2_with fail
          try rw [wi]
          go_roundg ki
          case measure => omega
          case rel => exact ⟨i + 1, rfl, by rw [HT.out, FN.out.1], by rw [HT.out, FN.out.2], ⟨by omega⟩, rfl⟩
    · have c1 : decide ((i : Int) < (l.length : Int)) = false := decide_eq_false (by omega)
      have hi' : i = l.length := by omega
      obtain ⟨r, w1, hrun, hres, hbb⟩ := run_fl .quo (.inr (.inr rfl)) 22 (sumS l) (floatOfInt .f64 (cntS l)) w
      have HB := Aside0.mk hbb
      have HR := Aside0.mk hres
      clear hbb hres
      rw [hi', List.take_length]
      rw [hi'] at c1
      go_wp2
      go_ret2
      exact ⟨r, rfl, HR.out, HB.out⟩
set_option maxHeartbeats 8000000 in
set_option maxRecDepth 100000 in
theorem RMean_calls (A : Option Addr) (c : Nat) (l : List Nat) (w : World) (hr : ReadsOf (Value.float .f64) 0 w A l.length l) (hc : l.length ≤ c) (hb : l.length ≤ 100000) (hl : ∀ x ∈ l, x < 2 ^ 64) :
    Calls Try.prog 23 #[.slice A l.length c] w fun e w' => ∃ r, e = .returned (.tuple #[.float .f64 r, .int .i64 (cntS l)]) ∧ MeanP l r ∧ Below w.heap.size w w' := by
  have HL := Aside0.mk hl
  have HRD := Aside0.mk hr
  clear hl hr
  go_enter Try.func23, Try.ntmps23
  go_wp2_with fail
  go_loopg [4, 5, 6] l.length (fun gk v4 v5 v6 w' => ∃ i : Nat, v6 = .int .i64 (i : Int) ∧ v4 = .float .f64 (sumS (l.take i)) ∧ v5 = .int .i64 (cntS (l.take i) : Nat) ∧ Aside0 (i + gk = l.length) ∧ Aside0 (Below w.heap.size w w'))
  case atStart => exact ⟨0, rfl, rfl, rfl, ⟨by omega⟩, ⟨Below.refl _ _⟩⟩
  case round =>
    obtain ⟨i, rfl, rfl, rfl, hk, hb_⟩ := hrel
    have hkk := hk.out
    have wi : IntKind.i64.wrap ((i : Int) + 1) = ((i + 1 : Nat) : Int) := by rw [IntKind.wrap_i64]; omega
    by_cases hi : i < l.length
    · have c1 : decide ((i : Int) < (l.length : Int)) = true := decide_eq_true (by omega)
      have i0 : decide (0 ≤ (i : Int)) = true := decide_eq_true (by omega)
      obtain ⟨ad, hA, hcell⟩ := (HRD.out.below hb_.out).2.2 (by omega)
      subst hA
      have hx := hcell i hi
      clear hcell
      have HT := Aside0.mk (take_snoc hi)
      have hxl : l.getD i 0 < 2 ^ 64 := HL.out _ (by rw [List.getD_eq_getElem?_getD, List.getElem?_eq_getElem hi]; exact List.getElem_mem hi)
      have HC := Aside0.mk (cnt_snoc (l.take i) (l.getD i 0))
      have HS := Aside0.mk (sum_snoc (l.take i) (l.getD i 0))
      have SO := Aside0.mk (sum_ok (l.take i))
      have cl : cntS (l.take i) ≤ i := Nat.le_trans (List.countP_le_length) (by rw [List.length_take]; omega)
      obtain ⟨t, ht⟩ : ∃ t, l.take i = t := ⟨_, rfl⟩
      obtain ⟨x, hxe⟩ : ∃ x, l.getD i 0 = x := ⟨_, rfl⟩
      rw [ht] at HT HC HS SO cl
      rw [hxe] at HT HC HS hx hxl
      rw [ht]
      have HX := Aside0.mk hxl
      clear ht hxe hxl
      have KR := Aside0.mk (kd_range x)
      obtain ⟨ki, rfl⟩ : ∃ m, gk = m + 1 := ⟨gk - 1, by omega⟩
      go_wp2_with fail
      refine (finite_calls x wr).mono ?_
      rintro e w2 ⟨rfl, h2_⟩
      have B2 := Aside0.mk (below_step hb_.out h2_)
      have hx2 := pw_cell_below h2_ hx
      clear h2_ hx
      cases q : decide (1 ≤ kd x ∧ kd x ≤ 4) with
      | true =>
        have Q := Aside0.mk (show isNum x = true from q)
        have ha := run_float_arith (P := Try.prog) w2 .add 22 .f64 _ _ _ (add_run SO.out Q.out).1
        have ci : IntKind.i64.wrap ((cntS t : Int) + 1) = ((cntS t + 1 : Nat) : Int) := by rw [IntKind.wrap_i64]; omega
        clear q
        go_wp2_with fail
        try rw [wi]
        try rw [ci]
        go_roundg ki
        case measure => omega
        case rel => exact ⟨i + 1, rfl, by rw [HT.out, HS.out, if_pos Q.out], by rw [HT.out, HC.out, if_pos Q.out]; rfl, ⟨by omega⟩, B2⟩
      | false =>
        have Q := Aside0.mk (show ¬ isNum x = true from fun h => by rw [show isNum x = decide (1 ≤ kd x ∧ kd x ≤ 4) from rfl, q] at h; cases h)
        clear q
        have fin : sumS (t ++ [x]) = sumS t ∧ cntS (t ++ [x]) = cntS t := ⟨by rw [HS.out, if_neg Q.out], by rw [HC.out, if_neg Q.out]; rfl⟩
        have FN := Aside0.mk fin
        clear fin
        go_wp2_with fail
        try rw [wi]
        go_roundg ki
        case measure => omega
        case rel => exact ⟨i + 1, rfl, by rw [HT.out, FN.out.1], by rw [HT.out, FN.out.2], ⟨by omega⟩, B2⟩
    · have c1 : decide ((i : Int) < (l.length : Int)) = false := decide_eq_false (by omega)
      have hi' : i = l.length := by omega
      obtain ⟨r, w1, hrun, hres, hbb⟩ := run_fl .quo (.inr (.inr rfl)) 22 (sumS l) (floatOfInt .f64 (cntS l)) wr
      have HB := Aside0.mk (below_step hb_.out hbb)
      have HR := Aside0.mk hres
      clear hbb hres
      rw [hi', List.take_length]
      rw [hi'] at c1
      go_wp2
      go_ret2
      exact ⟨r, rfl, HR.out, HB.out⟩
end Go.Proofs.Ytkkfckfmjhfakaa.Mt
