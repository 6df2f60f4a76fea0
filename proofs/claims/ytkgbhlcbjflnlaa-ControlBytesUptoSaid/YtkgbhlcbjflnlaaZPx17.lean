/- What functions of the program compute, each with the walk that shows it: by a program (a turned copy of the kit's print; wip/myprint.py). -/
import Derived.Test.YtkgbhlcbjflnlaaZPx0
import Derived.Test.YtkgbhlcbjflnlaaZPx16
namespace Go.Proofs.Ytkgbhlcbjflnlaa.P
open Go.RowKit Go.Proofs.YtkgbhlcbjflnlaaW.PrintWords Go.Proofs.YtkgbhlcbjflnlaaW.PrintLast Go.Proofs.YtkgbhlcbjflnlaaW.PrintMore
attribute [local go_sem] max2_int min2_int max_two min_two max_three min_three max_four min_four   -- for this text's walks alone
set_option linter.unusedVariables false
set_option linter.unusedSimpArgs false

/-! ### aqueductref16_Same: function 16 -/
mutual
def aqueductref16_Same.j0 : Nat → Bool → ByteArray → Bool → Bool → Bool → Bool → Bool → Bool → List ByteArray → List ByteArray → Bool → List Int → ByteArray → Bool → Bool → Bool → Bool → Bool → Bool → List ByteArray → List ByteArray → Bool → List Int → Option (Bool)
  | 0, _, _, _, _, _, _, _, _, _, _, _, _, _, _, _, _, _, _, _, _, _, _, _ => none
  | k + 1, x28, x252000, x252001, x252002, x252003, x252004, x252005, x252006, x252007, x252008, x252009, x252010, x253000, x253001, x253002, x253003, x253004, x253005, x253006, x253007, x253008, x253009, x253010 => if x28 = true then (some false) else (aqueductref16_Same.l0 k 0 x252000 x252001 x252002 x252003 x252004 x252005 x252006 x252007 x252008 x252009 x252010 x253000 x253001 x253002 x253003 x253004 x253005 x253006 x253007 x253008 x253009 x253010)
def aqueductref16_Same.l0 : Nat → Int → ByteArray → Bool → Bool → Bool → Bool → Bool → Bool → List ByteArray → List ByteArray → Bool → List Int → ByteArray → Bool → Bool → Bool → Bool → Bool → Bool → List ByteArray → List ByteArray → Bool → List Int → Option (Bool)
  | 0, _, _, _, _, _, _, _, _, _, _, _, _, _, _, _, _, _, _, _, _, _, _, _ => none
  | k + 1, x5, x252000, x252001, x252002, x252003, x252004, x252005, x252006, x252007, x252008, x252009, x252010, x253000, x253001, x253002, x253003, x253004, x253005, x253006, x253007, x253008, x253009, x253010 => if x5 < (x252010.length : Int) then (if 0 ≤ x5 then (if x5 < (x253010.length : Int) then (if (rd x252010 x5) = (rd x253010 x5) then (aqueductref16_Same.l0 k (wrap64 (x5 + 1)) x252000 x252001 x252002 x252003 x252004 x252005 x252006 x252007 x252008 x252009 x252010 x253000 x253001 x253002 x253003 x253004 x253005 x253006 x253007 x253008 x253009 x253010) else (some false)) else (none)) else (none)) else (if x252000.toList = x253000.toList then (if (x252001 == x253001) = true then (if (x252002 == x253002) = true then (if (x252003 == x253003) = true then (if (x252004 == x253004) = true then (if (x252005 == x253005) = true then (if (x252006 == x253006) = true then (some (x252009 == x253009)) else (some false)) else (some false)) else (some false)) else (some false)) else (some false)) else (some false)) else (some false))
end
def aqueductref16_Same.f (k : Nat) (a0_0 : ByteArray) (a0_1 : Bool) (a0_2 : Bool) (a0_3 : Bool) (a0_4 : Bool) (a0_5 : Bool) (a0_6 : Bool) (l0_7 : List ByteArray) (l0_8 : List ByteArray) (a0_9 : Bool) (l0_10 : List Int) (a1_0 : ByteArray) (a1_1 : Bool) (a1_2 : Bool) (a1_3 : Bool) (a1_4 : Bool) (a1_5 : Bool) (a1_6 : Bool) (l1_7 : List ByteArray) (l1_8 : List ByteArray) (a1_9 : Bool) (l1_10 : List Int) : Option (Bool) := if (l0_10.length : Int) = (l1_10.length : Int) then ((aqueductref16_texts.f k l0_7 l1_7).bind fun t253 => (if t253 = true then ((aqueductref16_texts.f k l0_8 l1_8).bind fun t254 => (aqueductref16_Same.j0 k (!t254) a0_0 a0_1 a0_2 a0_3 a0_4 a0_5 a0_6 l0_7 l0_8 a0_9 l0_10 a1_0 a1_1 a1_2 a1_3 a1_4 a1_5 a1_6 l1_7 l1_8 a1_9 l1_10)) else (aqueductref16_Same.j0 k true a0_0 a0_1 a0_2 a0_3 a0_4 a0_5 a0_6 l0_7 l0_8 a0_9 l0_10 a1_0 a1_1 a1_2 a1_3 a1_4 a1_5 a1_6 l1_7 l1_8 a1_9 l1_10))) else (aqueductref16_Same.j0 k true a0_0 a0_1 a0_2 a0_3 a0_4 a0_5 a0_6 l0_7 l0_8 a0_9 l0_10 a1_0 a1_1 a1_2 a1_3 a1_4 a1_5 a1_6 l1_7 l1_8 a1_9 l1_10)
theorem aqueductref16_Same.mono_l : ∀ k, (∀ y0 y1 y2 y3 y4 y5 y6 y7 y8 y9 y10 y11 y12 y13 y14 y15 y16 y17 y18 y19 y20 y21 y22, LeO (aqueductref16_Same.j0 k y0 y1 y2 y3 y4 y5 y6 y7 y8 y9 y10 y11 y12 y13 y14 y15 y16 y17 y18 y19 y20 y21 y22) (aqueductref16_Same.j0 (k + 1) y0 y1 y2 y3 y4 y5 y6 y7 y8 y9 y10 y11 y12 y13 y14 y15 y16 y17 y18 y19 y20 y21 y22)) ∧ (∀ y0 y1 y2 y3 y4 y5 y6 y7 y8 y9 y10 y11 y12 y13 y14 y15 y16 y17 y18 y19 y20 y21 y22, LeO (aqueductref16_Same.l0 k y0 y1 y2 y3 y4 y5 y6 y7 y8 y9 y10 y11 y12 y13 y14 y15 y16 y17 y18 y19 y20 y21 y22) (aqueductref16_Same.l0 (k + 1) y0 y1 y2 y3 y4 y5 y6 y7 y8 y9 y10 y11 y12 y13 y14 y15 y16 y17 y18 y19 y20 y21 y22))
  | 0 => ⟨fun _ _ _ _ _ _ _ _ _ _ _ _ _ _ _ _ _ _ _ _ _ _ _ r h => by simp [aqueductref16_Same.j0] at h, fun _ _ _ _ _ _ _ _ _ _ _ _ _ _ _ _ _ _ _ _ _ _ _ r h => by simp [aqueductref16_Same.l0] at h⟩
  | k + 1 => by
    obtain ⟨ih0, ih1⟩ := aqueductref16_Same.mono_l k
    refine ⟨?_, ?_⟩
    · intro y0 y1 y2 y3 y4 y5 y6 y7 y8 y9 y10 y11 y12 y13 y14 y15 y16 y17 y18 y19 y20 y21 y22
      unfold aqueductref16_Same.j0
      repeat' first
      | (with_reducible exact ih0 _ _ _ _ _ _ _ _ _ _ _ _ _ _ _ _ _ _ _ _ _ _ _)
      | (with_reducible exact ih1 _ _ _ _ _ _ _ _ _ _ _ _ _ _ _ _ _ _ _ _ _ _ _)
      | (with_reducible exact aqueductref16_texts.mono _ _ _)
      | (with_reducible exact LeO.refl _)
      | (with_reducible exact LeO.none _)
      | (with_reducible refine LeO.ite ?_ ?_)
      | (with_reducible refine LeO.bind ?_ (fun _ => ?_))
      | exact ih0 _ _ _ _ _ _ _ _ _ _ _ _ _ _ _ _ _ _ _ _ _ _ _
      | exact ih1 _ _ _ _ _ _ _ _ _ _ _ _ _ _ _ _ _ _ _ _ _ _ _
      | exact aqueductref16_texts.mono _ _ _
      | exact LeO.none _
      | refine LeO.ite ?_ ?_
      | refine LeO.bind ?_ (fun _ => ?_)
    · intro y0 y1 y2 y3 y4 y5 y6 y7 y8 y9 y10 y11 y12 y13 y14 y15 y16 y17 y18 y19 y20 y21 y22
      unfold aqueductref16_Same.l0
      repeat' first
      | (with_reducible exact ih0 _ _ _ _ _ _ _ _ _ _ _ _ _ _ _ _ _ _ _ _ _ _ _)
      | (with_reducible exact ih1 _ _ _ _ _ _ _ _ _ _ _ _ _ _ _ _ _ _ _ _ _ _ _)
      | (with_reducible exact aqueductref16_texts.mono _ _ _)
      | (with_reducible exact LeO.refl _)
      | (with_reducible exact LeO.none _)
      | (with_reducible refine LeO.ite ?_ ?_)
      | (with_reducible refine LeO.bind ?_ (fun _ => ?_))
      | exact ih0 _ _ _ _ _ _ _ _ _ _ _ _ _ _ _ _ _ _ _ _ _ _ _
      | exact ih1 _ _ _ _ _ _ _ _ _ _ _ _ _ _ _ _ _ _ _ _ _ _ _
      | exact aqueductref16_texts.mono _ _ _
      | exact LeO.none _
      | refine LeO.ite ?_ ?_
      | refine LeO.bind ?_ (fun _ => ?_)
theorem aqueductref16_Same.mono : ∀ a0 a1 a2 a3 a4 a5 a6 a7 a8 a9 a10 a11 a12 a13 a14 a15 a16 a17 a18 a19 a20 a21 k, LeO (aqueductref16_Same.f k a0 a1 a2 a3 a4 a5 a6 a7 a8 a9 a10 a11 a12 a13 a14 a15 a16 a17 a18 a19 a20 a21) (aqueductref16_Same.f (k + 1) a0 a1 a2 a3 a4 a5 a6 a7 a8 a9 a10 a11 a12 a13 a14 a15 a16 a17 a18 a19 a20 a21) := by
  intro a0 a1 a2 a3 a4 a5 a6 a7 a8 a9 a10 a11 a12 a13 a14 a15 a16 a17 a18 a19 a20 a21 k
  obtain ⟨ih0, ih1⟩ := aqueductref16_Same.mono_l k
  unfold aqueductref16_Same.f
  repeat' first
      | (with_reducible exact ih0 _ _ _ _ _ _ _ _ _ _ _ _ _ _ _ _ _ _ _ _ _ _ _)
      | (with_reducible exact ih1 _ _ _ _ _ _ _ _ _ _ _ _ _ _ _ _ _ _ _ _ _ _ _)
      | (with_reducible exact aqueductref16_texts.mono _ _ _)
      | (with_reducible exact LeO.refl _)
      | (with_reducible exact LeO.none _)
      | (with_reducible refine LeO.ite ?_ ?_)
      | (with_reducible refine LeO.bind ?_ (fun _ => ?_))
      | exact ih0 _ _ _ _ _ _ _ _ _ _ _ _ _ _ _ _ _ _ _ _ _ _ _
      | exact ih1 _ _ _ _ _ _ _ _ _ _ _ _ _ _ _ _ _ _ _ _ _ _ _
      | exact aqueductref16_texts.mono _ _ _
      | exact LeO.none _
      | refine LeO.ite ?_ ?_
      | refine LeO.bind ?_ (fun _ => ?_)
set_option maxHeartbeats 8000000 in
set_option maxRecDepth 100000 in
theorem aqueductref16_Same.calls (k : Nat) (a0_0 : ByteArray) (a0_1 : Bool) (a0_2 : Bool) (a0_3 : Bool) (a0_4 : Bool) (a0_5 : Bool) (a0_6 : Bool) (A0_7 : Option Addr) (c0_7 : Nat) (l0_7 : List ByteArray) (A0_8 : Option Addr) (c0_8 : Nat) (l0_8 : List ByteArray) (a0_9 : Bool) (A0_10 : Option Addr) (c0_10 : Nat) (l0_10 : List Int) (a1_0 : ByteArray) (a1_1 : Bool) (a1_2 : Bool) (a1_3 : Bool) (a1_4 : Bool) (a1_5 : Bool) (a1_6 : Bool) (A1_7 : Option Addr) (c1_7 : Nat) (l1_7 : List ByteArray) (A1_8 : Option Addr) (c1_8 : Nat) (l1_8 : List ByteArray) (a1_9 : Bool) (A1_10 : Option Addr) (c1_10 : Nat) (l1_10 : List Int) (r : Bool) (w : World) (hr0_7 : Kd.C Kd.string w A0_7 l0_7.length l0_7) (hc0_7 : l0_7.length ≤ c0_7) (hr0_8 : Kd.C Kd.string w A0_8 l0_8.length l0_8) (hc0_8 : l0_8.length ≤ c0_8) (hr0_10 : Kd.C (Kd.int .i64) w A0_10 l0_10.length l0_10) (hc0_10 : l0_10.length ≤ c0_10) (hr1_7 : Kd.C Kd.string w A1_7 l1_7.length l1_7) (hc1_7 : l1_7.length ≤ c1_7) (hr1_8 : Kd.C Kd.string w A1_8 l1_8.length l1_8) (hc1_8 : l1_8.length ≤ c1_8) (hr1_10 : Kd.C (Kd.int .i64) w A1_10 l1_10.length l1_10) (hc1_10 : l1_10.length ≤ c1_10) (h : aqueductref16_Same.f k a0_0 a0_1 a0_2 a0_3 a0_4 a0_5 a0_6 l0_7 l0_8 a0_9 l0_10 a1_0 a1_1 a1_2 a1_3 a1_4 a1_5 a1_6 l1_7 l1_8 a1_9 l1_10 = some r) :
    Calls Try.prog 16 #[.agg #[.string a0_0, .bool a0_1, .bool a0_2, .bool a0_3, .bool a0_4, .bool a0_5, .bool a0_6, .slice A0_7 l0_7.length c0_7, .slice A0_8 l0_8.length c0_8, .bool a0_9, .slice A0_10 l0_10.length c0_10], .agg #[.string a1_0, .bool a1_1, .bool a1_2, .bool a1_3, .bool a1_4, .bool a1_5, .bool a1_6, .slice A1_7 l1_7.length c1_7, .slice A1_8 l1_8.length c1_8, .bool a1_9, .slice A1_10 l1_10.length c1_10]] w fun e w' => e = .returned (.bool r) ∧ Below w.heap.size w w' := by
  have hu25 := Try.underlying25
  have HR0_7 := Aside0.mk hr0_7
  have HC0_7 := Aside0.mk hc0_7
  clear hr0_7 hc0_7
  have HR0_8 := Aside0.mk hr0_8
  have HC0_8 := Aside0.mk hc0_8
  clear hr0_8 hc0_8
  have HR0_10 := Aside0.mk hr0_10
  have HC0_10 := Aside0.mk hc0_10
  clear hr0_10 hc0_10
  have HR1_7 := Aside0.mk hr1_7
  have HC1_7 := Aside0.mk hc1_7
  clear hr1_7 hc1_7
  have HR1_8 := Aside0.mk hr1_8
  have HC1_8 := Aside0.mk hc1_8
  clear hr1_8 hc1_8
  have HR1_10 := Aside0.mk hr1_10
  have HC1_10 := Aside0.mk hc1_10
  clear hr1_10 hc1_10
  have HB := Aside0.mk (Below.refl w.heap.size w)
  have H : (if (l0_10.length : Int) = (l1_10.length : Int) then ((aqueductref16_texts.f k l0_7 l1_7).bind fun t253 => (if t253 = true then ((aqueductref16_texts.f k l0_8 l1_8).bind fun t254 => (aqueductref16_Same.j0 k (!t254) a0_0 a0_1 a0_2 a0_3 a0_4 a0_5 a0_6 l0_7 l0_8 a0_9 l0_10 a1_0 a1_1 a1_2 a1_3 a1_4 a1_5 a1_6 l1_7 l1_8 a1_9 l1_10)) else (aqueductref16_Same.j0 k true a0_0 a0_1 a0_2 a0_3 a0_4 a0_5 a0_6 l0_7 l0_8 a0_9 l0_10 a1_0 a1_1 a1_2 a1_3 a1_4 a1_5 a1_6 l1_7 l1_8 a1_9 l1_10))) else (aqueductref16_Same.j0 k true a0_0 a0_1 a0_2 a0_3 a0_4 a0_5 a0_6 l0_7 l0_8 a0_9 l0_10 a1_0 a1_1 a1_2 a1_3 a1_4 a1_5 a1_6 l1_7 l1_8 a1_9 l1_10)) = some r := h
  clear h
  have HC3 := Aside0.mk H
  clear H
  go_enter Try.func16, Try.ntmps16
  go_upto_region 1 with (first | ((with_reducible refine gate_dst (N := 2) rfl ?_); refine box_event ?hg (N := 2) ?hd (cs := #[.string a0_0, .bool a0_1, .bool a0_2, .bool a0_3, .bool a0_4, .bool a0_5, .bool a0_6, .slice A0_7 l0_7.length c0_7, .slice A0_8 l0_8.length c0_8, .bool a0_9, .slice A0_10 l0_10.length c0_10]) (t := 25) ?hr ?_; (case hd => rfl); (case hg => rfl); (case hr => first | (go_simp; done) | (go_simp; rfl)); intro gb251 hg w4 hbox hb; have n0_ := Aside0.mk (below_step (by repeat (first | (with_reducible first | exact HB.out | apply below_alloc | apply pw_below_drewN | apply below_drew1) | exact HB.out)) hb); have n1_ := Aside0.mk (hbox); have n2_ := Aside0.mk ((by rw [hg]; exact (below_size (by repeat (first | (with_reducible first | exact HB.out | apply below_alloc | apply pw_below_drewN | apply below_drew1) | exact HB.out))) : w.heap.size ≤ gb251)); have n3_ := Aside0.mk ((by rw [hg]; exact (below_size (by repeat (first | (with_reducible first | exact HB.out | apply below_alloc | apply pw_below_drewN | apply below_drew1) | exact HB.out))) : w.heap.size ≤ gb251)); clear HB; have HB := n0_; have BK251 := n1_; have GW251 := n2_; have GE251 := n3_; clear n0_ n1_ n2_ n3_; clear hb hbox hg) | ((with_reducible refine gate_dst (N := 3) rfl ?_); refine box_event ?hg (N := 3) ?hd (cs := #[.string a1_0, .bool a1_1, .bool a1_2, .bool a1_3, .bool a1_4, .bool a1_5, .bool a1_6, .slice A1_7 l1_7.length c1_7, .slice A1_8 l1_8.length c1_8, .bool a1_9, .slice A1_10 l1_10.length c1_10]) (t := 25) ?hr ?_; (case hd => rfl); (case hg => rfl); (case hr => first | (go_simp; done) | (go_simp; rfl)); intro gb252 hg w5 hbox hb; have n0_ := Aside0.mk (blk_below (g := gb251) (o := .cells #[.string a0_0, .bool a0_1, .bool a0_2, .bool a0_3, .bool a0_4, .bool a0_5, .bool a0_6, .slice A0_7 l0_7.length c0_7, .slice A0_8 l0_8.length c0_8, .bool a0_9, .slice A0_10 l0_10.length c0_10] 25 (0, 0)) (by (with_reducible repeat (first | refine blk_drewN ?_ _ | refine blk_drew ?_ | refine blk_alloc ?_ _)); exact BK251.out) hb); have n1_ := Aside0.mk (below_step (by repeat (first | (with_reducible first | exact HB.out | apply below_alloc | apply pw_below_drewN | apply below_drew1 | refine below_set ?_ GE251.out) | exact HB.out)) hb); have n2_ := Aside0.mk (hbox); have n3_ := Aside0.mk ((by rw [hg]; exact (below_size (by repeat (first | (with_reducible first | exact HB.out | apply below_alloc | apply pw_below_drewN | apply below_drew1 | refine below_set ?_ GE251.out) | exact HB.out))) : w.heap.size ≤ gb252)); have n4_ := Aside0.mk ((by rw [hg]; exact (below_size (by repeat (first | (with_reducible first | exact HB.out | apply below_alloc | apply pw_below_drewN | apply below_drew1 | refine below_set ?_ GE251.out) | exact HB.out))) : w.heap.size ≤ gb252)); have n5_ := Aside0.mk ((by rw [hg]; exact Nat.ne_of_lt (blk_lt (g := gb251) (o := .cells #[.string a0_0, .bool a0_1, .bool a0_2, .bool a0_3, .bool a0_4, .bool a0_5, .bool a0_6, .slice A0_7 l0_7.length c0_7, .slice A0_8 l0_8.length c0_8, .bool a0_9, .slice A0_10 l0_10.length c0_10] 25 (0, 0)) (by (with_reducible repeat (first | refine blk_drewN ?_ _ | refine blk_drew ?_ | refine blk_alloc ?_ _)); exact BK251.out)) : gb251 ≠ gb252)); have n6_ := Aside0.mk ((by rw [hg]; exact Nat.ne_of_gt (blk_lt (g := gb251) (o := .cells #[.string a0_0, .bool a0_1, .bool a0_2, .bool a0_3, .bool a0_4, .bool a0_5, .bool a0_6, .slice A0_7 l0_7.length c0_7, .slice A0_8 l0_8.length c0_8, .bool a0_9, .slice A0_10 l0_10.length c0_10] 25 (0, 0)) (by (with_reducible repeat (first | refine blk_drewN ?_ _ | refine blk_drew ?_ | refine blk_alloc ?_ _)); exact BK251.out)) : gb252 ≠ gb251)); clear BK251; clear HB; have BK251 := n0_; have HB := n1_; have BK252 := n2_; have GW252 := n3_; have GE252 := n4_; have NB251_252 := n5_; have NB252_251 := n6_; clear n0_ n1_ n2_ n3_ n4_ n5_ n6_; clear hb hbox hg))
  repeat (go_quiet (first | ((with_reducible refine gate_dst (N := 2) rfl ?_); refine box_event ?hg (N := 2) ?hd (cs := #[.string a0_0, .bool a0_1, .bool a0_2, .bool a0_3, .bool a0_4, .bool a0_5, .bool a0_6, .slice A0_7 l0_7.length c0_7, .slice A0_8 l0_8.length c0_8, .bool a0_9, .slice A0_10 l0_10.length c0_10]) (t := 25) ?hr ?_; (case hd => rfl); (case hg => rfl); (case hr => first | (go_simp; done) | (go_simp; rfl)); intro gb251 hg w4 hbox hb; have n0_ := Aside0.mk (below_step (by repeat (first | (with_reducible first | exact HB.out | apply below_alloc | apply pw_below_drewN | apply below_drew1) | exact HB.out)) hb); have n1_ := Aside0.mk (hbox); have n2_ := Aside0.mk ((by rw [hg]; exact (below_size (by repeat (first | (with_reducible first | exact HB.out | apply below_alloc | apply pw_below_drewN | apply below_drew1) | exact HB.out))) : w.heap.size ≤ gb251)); have n3_ := Aside0.mk ((by rw [hg]; exact (below_size (by repeat (first | (with_reducible first | exact HB.out | apply below_alloc | apply pw_below_drewN | apply below_drew1) | exact HB.out))) : w.heap.size ≤ gb251)); clear HB; have HB := n0_; have BK251 := n1_; have GW251 := n2_; have GE251 := n3_; clear n0_ n1_ n2_ n3_; clear hb hbox hg) | ((with_reducible refine gate_dst (N := 3) rfl ?_); refine box_event ?hg (N := 3) ?hd (cs := #[.string a1_0, .bool a1_1, .bool a1_2, .bool a1_3, .bool a1_4, .bool a1_5, .bool a1_6, .slice A1_7 l1_7.length c1_7, .slice A1_8 l1_8.length c1_8, .bool a1_9, .slice A1_10 l1_10.length c1_10]) (t := 25) ?hr ?_; (case hd => rfl); (case hg => rfl); (case hr => first | (go_simp; done) | (go_simp; rfl)); intro gb252 hg w5 hbox hb; have n0_ := Aside0.mk (blk_below (g := gb251) (o := .cells #[.string a0_0, .bool a0_1, .bool a0_2, .bool a0_3, .bool a0_4, .bool a0_5, .bool a0_6, .slice A0_7 l0_7.length c0_7, .slice A0_8 l0_8.length c0_8, .bool a0_9, .slice A0_10 l0_10.length c0_10] 25 (0, 0)) (by (with_reducible repeat (first | refine blk_drewN ?_ _ | refine blk_drew ?_ | refine blk_alloc ?_ _)); exact BK251.out) hb); have n1_ := Aside0.mk (below_step (by repeat (first | (with_reducible first | exact HB.out | apply below_alloc | apply pw_below_drewN | apply below_drew1 | refine below_set ?_ GE251.out) | exact HB.out)) hb); have n2_ := Aside0.mk (hbox); have n3_ := Aside0.mk ((by rw [hg]; exact (below_size (by repeat (first | (with_reducible first | exact HB.out | apply below_alloc | apply pw_below_drewN | apply below_drew1 | refine below_set ?_ GE251.out) | exact HB.out))) : w.heap.size ≤ gb252)); have n4_ := Aside0.mk ((by rw [hg]; exact (below_size (by repeat (first | (with_reducible first | exact HB.out | apply below_alloc | apply pw_below_drewN | apply below_drew1 | refine below_set ?_ GE251.out) | exact HB.out))) : w.heap.size ≤ gb252)); have n5_ := Aside0.mk ((by rw [hg]; exact Nat.ne_of_lt (blk_lt (g := gb251) (o := .cells #[.string a0_0, .bool a0_1, .bool a0_2, .bool a0_3, .bool a0_4, .bool a0_5, .bool a0_6, .slice A0_7 l0_7.length c0_7, .slice A0_8 l0_8.length c0_8, .bool a0_9, .slice A0_10 l0_10.length c0_10] 25 (0, 0)) (by (with_reducible repeat (first | refine blk_drewN ?_ _ | refine blk_drew ?_ | refine blk_alloc ?_ _)); exact BK251.out)) : gb251 ≠ gb252)); have n6_ := Aside0.mk ((by rw [hg]; exact Nat.ne_of_gt (blk_lt (g := gb251) (o := .cells #[.string a0_0, .bool a0_1, .bool a0_2, .bool a0_3, .bool a0_4, .bool a0_5, .bool a0_6, .slice A0_7 l0_7.length c0_7, .slice A0_8 l0_8.length c0_8, .bool a0_9, .slice A0_10 l0_10.length c0_10] 25 (0, 0)) (by (with_reducible repeat (first | refine blk_drewN ?_ _ | refine blk_drew ?_ | refine blk_alloc ?_ _)); exact BK251.out)) : gb252 ≠ gb251)); clear BK251; clear HB; have BK251 := n0_; have HB := n1_; have BK252 := n2_; have GW252 := n3_; have GE252 := n4_; have NB251_252 := n5_; have NB252_251 := n6_; clear n0_ n1_ n2_ n3_ n4_ n5_ n6_; clear hb hbox hg)); go_upto_region 1 with (first | ((with_reducible refine gate_dst (N := 2) rfl ?_); refine box_event ?hg (N := 2) ?hd (cs := #[.string a0_0, .bool a0_1, .bool a0_2, .bool a0_3, .bool a0_4, .bool a0_5, .bool a0_6, .slice A0_7 l0_7.length c0_7, .slice A0_8 l0_8.length c0_8, .bool a0_9, .slice A0_10 l0_10.length c0_10]) (t := 25) ?hr ?_; (case hd => rfl); (case hg => rfl); (case hr => first | (go_simp; done) | (go_simp; rfl)); intro gb251 hg w4 hbox hb; have n0_ := Aside0.mk (below_step (by repeat (first | (with_reducible first | exact HB.out | apply below_alloc | apply pw_below_drewN | apply below_drew1) | exact HB.out)) hb); have n1_ := Aside0.mk (hbox); have n2_ := Aside0.mk ((by rw [hg]; exact (below_size (by repeat (first | (with_reducible first | exact HB.out | apply below_alloc | apply pw_below_drewN | apply below_drew1) | exact HB.out))) : w.heap.size ≤ gb251)); have n3_ := Aside0.mk ((by rw [hg]; exact (below_size (by repeat (first | (with_reducible first | exact HB.out | apply below_alloc | apply pw_below_drewN | apply below_drew1) | exact HB.out))) : w.heap.size ≤ gb251)); clear HB; have HB := n0_; have BK251 := n1_; have GW251 := n2_; have GE251 := n3_; clear n0_ n1_ n2_ n3_; clear hb hbox hg) | ((with_reducible refine gate_dst (N := 3) rfl ?_); refine box_event ?hg (N := 3) ?hd (cs := #[.string a1_0, .bool a1_1, .bool a1_2, .bool a1_3, .bool a1_4, .bool a1_5, .bool a1_6, .slice A1_7 l1_7.length c1_7, .slice A1_8 l1_8.length c1_8, .bool a1_9, .slice A1_10 l1_10.length c1_10]) (t := 25) ?hr ?_; (case hd => rfl); (case hg => rfl); (case hr => first | (go_simp; done) | (go_simp; rfl)); intro gb252 hg w5 hbox hb; have n0_ := Aside0.mk (blk_below (g := gb251) (o := .cells #[.string a0_0, .bool a0_1, .bool a0_2, .bool a0_3, .bool a0_4, .bool a0_5, .bool a0_6, .slice A0_7 l0_7.length c0_7, .slice A0_8 l0_8.length c0_8, .bool a0_9, .slice A0_10 l0_10.length c0_10] 25 (0, 0)) (by (with_reducible repeat (first | refine blk_drewN ?_ _ | refine blk_drew ?_ | refine blk_alloc ?_ _)); exact BK251.out) hb); have n1_ := Aside0.mk (below_step (by repeat (first | (with_reducible first | exact HB.out | apply below_alloc | apply pw_below_drewN | apply below_drew1 | refine below_set ?_ GE251.out) | exact HB.out)) hb); have n2_ := Aside0.mk (hbox); have n3_ := Aside0.mk ((by rw [hg]; exact (below_size (by repeat (first | (with_reducible first | exact HB.out | apply below_alloc | apply pw_below_drewN | apply below_drew1 | refine below_set ?_ GE251.out) | exact HB.out))) : w.heap.size ≤ gb252)); have n4_ := Aside0.mk ((by rw [hg]; exact (below_size (by repeat (first | (with_reducible first | exact HB.out | apply below_alloc | apply pw_below_drewN | apply below_drew1 | refine below_set ?_ GE251.out) | exact HB.out))) : w.heap.size ≤ gb252)); have n5_ := Aside0.mk ((by rw [hg]; exact Nat.ne_of_lt (blk_lt (g := gb251) (o := .cells #[.string a0_0, .bool a0_1, .bool a0_2, .bool a0_3, .bool a0_4, .bool a0_5, .bool a0_6, .slice A0_7 l0_7.length c0_7, .slice A0_8 l0_8.length c0_8, .bool a0_9, .slice A0_10 l0_10.length c0_10] 25 (0, 0)) (by (with_reducible repeat (first | refine blk_drewN ?_ _ | refine blk_drew ?_ | refine blk_alloc ?_ _)); exact BK251.out)) : gb251 ≠ gb252)); have n6_ := Aside0.mk ((by rw [hg]; exact Nat.ne_of_gt (blk_lt (g := gb251) (o := .cells #[.string a0_0, .bool a0_1, .bool a0_2, .bool a0_3, .bool a0_4, .bool a0_5, .bool a0_6, .slice A0_7 l0_7.length c0_7, .slice A0_8 l0_8.length c0_8, .bool a0_9, .slice A0_10 l0_10.length c0_10] 25 (0, 0)) (by (with_reducible repeat (first | refine blk_drewN ?_ _ | refine blk_drew ?_ | refine blk_alloc ?_ _)); exact BK251.out)) : gb252 ≠ gb251)); clear BK251; clear HB; have BK251 := n0_; have HB := n1_; have BK252 := n2_; have GW252 := n3_; have GE252 := n4_; have NB251_252 := n5_; have NB252_251 := n6_; clear n0_ n1_ n2_ n3_ n4_ n5_ n6_; clear hb hbox hg)))
  (try simp only [Act.put, List.setIfInBounds_toArray, List.set_cons_zero, List.set_cons_succ])
  go_cut [28] (fun v28 wc => ∃ (kq : Nat) (x28_2 : Bool), v28 = .bool x28_2 ∧ Aside0 (aqueductref16_Same.j0 kq x28_2 a0_0 a0_1 a0_2 a0_3 a0_4 a0_5 a0_6 l0_7 l0_8 a0_9 l0_10 a1_0 a1_1 a1_2 a1_3 a1_4 a1_5 a1_6 l1_7 l1_8 a1_9 l1_10 = some r) ∧ Aside0 (kq ≤ k) ∧ Aside0 (wc.heap[gb251]? = some (.cells #[.string a0_0, .bool a0_1, .bool a0_2, .bool a0_3, .bool a0_4, .bool a0_5, .bool a0_6, (.slice A0_7 l0_7.length c0_7), (.slice A0_8 l0_8.length c0_8), .bool a0_9, (.slice A0_10 l0_10.length c0_10)] 25 (0, 0))) ∧ Aside0 (wc.heap[gb252]? = some (.cells #[.string a1_0, .bool a1_1, .bool a1_2, .bool a1_3, .bool a1_4, .bool a1_5, .bool a1_6, (.slice A1_7 l1_7.length c1_7), (.slice A1_8 l1_8.length c1_8), .bool a1_9, (.slice A1_10 l1_10.length c1_10)] 25 (0, 0))) ∧ Aside0 (Below w.heap.size w wc))
  case first =>
    have H := HC3.out
    clear HC3
    by_cases c6 : (l0_10.length : Int) = (l1_10.length : Int)
    · rw [if_pos c6] at H
      have c6b0 : ((l0_10.length : Int) == (l1_10.length : Int)) = true := beq_iff_eq.mpr c6
      have c6b1 : ((l0_10.length : Int) != (l1_10.length : Int)) = false := bne_eq_false_iff_eq.mpr c6
      have c6b2 : (l0_10.length == l1_10.length) = true := by first | simpa using c6 | (simp at c6 ⊢; omega)
      clear c6
      (first | rw [c6b0] | (simp only [i64_w, i32_w]; rw [c6b0]) | skip)
      replace H := Option.bind_eq_some_iff.mp H
      obtain ⟨t253, A70, H⟩ := H
      replace H : (if t253 = true then ((aqueductref16_texts.f k l0_8 l1_8).bind fun t254 => (aqueductref16_Same.j0 k (!t254) a0_0 a0_1 a0_2 a0_3 a0_4 a0_5 a0_6 l0_7 l0_8 a0_9 l0_10 a1_0 a1_1 a1_2 a1_3 a1_4 a1_5 a1_6 l1_7 l1_8 a1_9 l1_10)) else (aqueductref16_Same.j0 k true a0_0 a0_1 a0_2 a0_3 a0_4 a0_5 a0_6 l0_7 l0_8 a0_9 l0_10 a1_0 a1_1 a1_2 a1_3 a1_4 a1_5 a1_6 l1_7 l1_8 a1_9 l1_10)) = some r := H
      have A7 := Aside0.mk A70
      clear A70
      by_cases c8 : t253 = true
      · subst c8
        have H1 : ((aqueductref16_texts.f k l0_8 l1_8).bind fun t254 => (aqueductref16_Same.j0 k (!t254) a0_0 a0_1 a0_2 a0_3 a0_4 a0_5 a0_6 l0_7 l0_8 a0_9 l0_10 a1_0 a1_1 a1_2 a1_3 a1_4 a1_5 a1_6 l1_7 l1_8 a1_9 l1_10)) = some r := by rw [if_pos rfl] at H; exact H
        clear H
        have H := H1
        clear H1
        replace H := Option.bind_eq_some_iff.mp H
        obtain ⟨t254, A90, H⟩ := H
        replace H : (aqueductref16_Same.j0 k (!t254) a0_0 a0_1 a0_2 a0_3 a0_4 a0_5 a0_6 l0_7 l0_8 a0_9 l0_10 a1_0 a1_1 a1_2 a1_3 a1_4 a1_5 a1_6 l1_7 l1_8 a1_9 l1_10) = some r := H
        have A9 := Aside0.mk A90
        clear A90
        have H' := Aside0.mk H
        clear H
        have hnb10 := NB251_252.out
        have hnc10 := NB252_251.out
        have hcz11_0 : w5.cell? ⟨gb251, 0, none⟩ = some (.string a0_0) := (blk_cell BK251.out 0).trans rfl
        have hcz11_1 : w5.cell? ⟨gb251, 1, none⟩ = some (.bool a0_1) := (blk_cell BK251.out 1).trans rfl
        have hcz11_2 : w5.cell? ⟨gb251, 2, none⟩ = some (.bool a0_2) := (blk_cell BK251.out 2).trans rfl
        have hcz11_3 : w5.cell? ⟨gb251, 3, none⟩ = some (.bool a0_3) := (blk_cell BK251.out 3).trans rfl
        have hcz11_4 : w5.cell? ⟨gb251, 4, none⟩ = some (.bool a0_4) := (blk_cell BK251.out 4).trans rfl
        have hcz11_5 : w5.cell? ⟨gb251, 5, none⟩ = some (.bool a0_5) := (blk_cell BK251.out 5).trans rfl
        have hcz11_6 : w5.cell? ⟨gb251, 6, none⟩ = some (.bool a0_6) := (blk_cell BK251.out 6).trans rfl
        have hcz11_7 : w5.cell? ⟨gb251, 7, none⟩ = some (.slice A0_7 l0_7.length c0_7) := (blk_cell BK251.out 7).trans rfl
        have hcz11_8 : w5.cell? ⟨gb251, 8, none⟩ = some (.slice A0_8 l0_8.length c0_8) := (blk_cell BK251.out 8).trans rfl
        have hcz11_9 : w5.cell? ⟨gb251, 9, none⟩ = some (.bool a0_9) := (blk_cell BK251.out 9).trans rfl
        have hcz11_10 : w5.cell? ⟨gb251, 10, none⟩ = some (.slice A0_10 l0_10.length c0_10) := (blk_cell BK251.out 10).trans rfl
        have hfz11_0 := blk_frozen BK251.out 0
        have hfz11_1 := blk_frozen BK251.out 1
        have hfz11_2 := blk_frozen BK251.out 2
        have hfz11_3 := blk_frozen BK251.out 3
        have hfz11_4 := blk_frozen BK251.out 4
        have hfz11_5 := blk_frozen BK251.out 5
        have hfz11_6 := blk_frozen BK251.out 6
        have hfz11_7 := blk_frozen BK251.out 7
        have hfz11_8 := blk_frozen BK251.out 8
        have hfz11_9 := blk_frozen BK251.out 9
        have hfz11_10 := blk_frozen BK251.out 10
        have hcz12_0 : w5.cell? ⟨gb252, 0, none⟩ = some (.string a1_0) := (blk_cell BK252.out 0).trans rfl
        have hcz12_1 : w5.cell? ⟨gb252, 1, none⟩ = some (.bool a1_1) := (blk_cell BK252.out 1).trans rfl
        have hcz12_2 : w5.cell? ⟨gb252, 2, none⟩ = some (.bool a1_2) := (blk_cell BK252.out 2).trans rfl
        have hcz12_3 : w5.cell? ⟨gb252, 3, none⟩ = some (.bool a1_3) := (blk_cell BK252.out 3).trans rfl
        have hcz12_4 : w5.cell? ⟨gb252, 4, none⟩ = some (.bool a1_4) := (blk_cell BK252.out 4).trans rfl
        have hcz12_5 : w5.cell? ⟨gb252, 5, none⟩ = some (.bool a1_5) := (blk_cell BK252.out 5).trans rfl
        have hcz12_6 : w5.cell? ⟨gb252, 6, none⟩ = some (.bool a1_6) := (blk_cell BK252.out 6).trans rfl
        have hcz12_7 : w5.cell? ⟨gb252, 7, none⟩ = some (.slice A1_7 l1_7.length c1_7) := (blk_cell BK252.out 7).trans rfl
        have hcz12_8 : w5.cell? ⟨gb252, 8, none⟩ = some (.slice A1_8 l1_8.length c1_8) := (blk_cell BK252.out 8).trans rfl
        have hcz12_9 : w5.cell? ⟨gb252, 9, none⟩ = some (.bool a1_9) := (blk_cell BK252.out 9).trans rfl
        have hcz12_10 : w5.cell? ⟨gb252, 10, none⟩ = some (.slice A1_10 l1_10.length c1_10) := (blk_cell BK252.out 10).trans rfl
        have hfz12_0 := blk_frozen BK252.out 0
        have hfz12_1 := blk_frozen BK252.out 1
        have hfz12_2 := blk_frozen BK252.out 2
        have hfz12_3 := blk_frozen BK252.out 3
        have hfz12_4 := blk_frozen BK252.out 4
        have hfz12_5 := blk_frozen BK252.out 5
        have hfz12_6 := blk_frozen BK252.out 6
        have hfz12_7 := blk_frozen BK252.out 7
        have hfz12_8 := blk_frozen BK252.out 8
        have hfz12_9 := blk_frozen BK252.out 9
        have hfz12_10 := blk_frozen BK252.out 10
        go_wp2_with (first | (go_at_call 40; (with_reducible refine (aqueductref16_texts.calls k _ _ l0_7 _ _ l1_7 true _ ?side1 ?side2 ?side3 ?side4 A7.out).mono ?_); (case side1 => repeat (first | exact (Kd.C_below HR0_7.out HB.out) | (with_reducible refine Kd.C_alloc ?_ _) | (with_reducible refine Kd.C_drewN ?_ _) | (with_reducible refine Kd.C_drew ?_))); (case side2 => exact HC0_7.out); (case side3 => repeat (first | exact (Kd.C_below HR1_7.out HB.out) | (with_reducible refine Kd.C_alloc ?_ _) | (with_reducible refine Kd.C_drewN ?_ _) | (with_reducible refine Kd.C_drew ?_))); (case side4 => exact HC1_7.out); rintro e w' ⟨rfl, ⟨nd, rfl⟩⟩; (try first | exact ⟨rfl, _, World.drewN_drewN _ _ _⟩ | exact ⟨rfl, _, Eq.trans (World.drewN_drewN _ _ _) (congrArg (World.drewN _) (Nat.add_assoc _ _ _))⟩)) | (go_at_call 40; (with_reducible refine (aqueductref16_texts.calls k _ _ l0_8 _ _ l1_8 t254 _ ?side1 ?side2 ?side3 ?side4 A9.out).mono ?_); (case side1 => repeat (first | exact (Kd.C_below HR0_8.out (by repeat (first | (with_reducible first | exact HB.out | apply below_alloc | apply pw_below_drewN | apply below_drew1 | refine below_set ?_ GE251.out | refine below_set ?_ GE252.out) | exact HB.out))) | (with_reducible refine Kd.C_alloc ?_ _) | (with_reducible refine Kd.C_drewN ?_ _) | (with_reducible refine Kd.C_drew ?_))); (case side2 => exact HC0_8.out); (case side3 => repeat (first | exact (Kd.C_below HR1_8.out (by repeat (first | (with_reducible first | exact HB.out | apply below_alloc | apply pw_below_drewN | apply below_drew1 | refine below_set ?_ GE251.out | refine below_set ?_ GE252.out) | exact HB.out))) | (with_reducible refine Kd.C_alloc ?_ _) | (with_reducible refine Kd.C_drewN ?_ _) | (with_reducible refine Kd.C_drew ?_))); (case side4 => exact HC1_8.out); rintro e w' ⟨rfl, ⟨nd, rfl⟩⟩; (try first | exact ⟨rfl, _, World.drewN_drewN _ _ _⟩ | exact ⟨rfl, _, Eq.trans (World.drewN_drewN _ _ _) (congrArg (World.drewN _) (Nat.add_assoc _ _ _))⟩)))
        repeat (go_quiet (first | (go_at_call 40; (with_reducible refine (aqueductref16_texts.calls k _ _ l0_7 _ _ l1_7 true _ ?side1 ?side2 ?side3 ?side4 A7.out).mono ?_); (case side1 => repeat (first | exact (Kd.C_below HR0_7.out HB.out) | (with_reducible refine Kd.C_alloc ?_ _) | (with_reducible refine Kd.C_drewN ?_ _) | (with_reducible refine Kd.C_drew ?_))); (case side2 => exact HC0_7.out); (case side3 => repeat (first | exact (Kd.C_below HR1_7.out HB.out) | (with_reducible refine Kd.C_alloc ?_ _) | (with_reducible refine Kd.C_drewN ?_ _) | (with_reducible refine Kd.C_drew ?_))); (case side4 => exact HC1_7.out); rintro e w' ⟨rfl, ⟨nd, rfl⟩⟩; (try first | exact ⟨rfl, _, World.drewN_drewN _ _ _⟩ | exact ⟨rfl, _, Eq.trans (World.drewN_drewN _ _ _) (congrArg (World.drewN _) (Nat.add_assoc _ _ _))⟩)) | (go_at_call 40; (with_reducible refine (aqueductref16_texts.calls k _ _ l0_8 _ _ l1_8 t254 _ ?side1 ?side2 ?side3 ?side4 A9.out).mono ?_); (case side1 => repeat (first | exact (Kd.C_below HR0_8.out (by repeat (first | (with_reducible first | exact HB.out | apply below_alloc | apply pw_below_drewN | apply below_drew1 | refine below_set ?_ GE251.out | refine below_set ?_ GE252.out) | exact HB.out))) | (with_reducible refine Kd.C_alloc ?_ _) | (with_reducible refine Kd.C_drewN ?_ _) | (with_reducible refine Kd.C_drew ?_))); (case side2 => exact HC0_8.out); (case side3 => repeat (first | exact (Kd.C_below HR1_8.out (by repeat (first | (with_reducible first | exact HB.out | apply below_alloc | apply pw_below_drewN | apply below_drew1 | refine below_set ?_ GE251.out | refine below_set ?_ GE252.out) | exact HB.out))) | (with_reducible refine Kd.C_alloc ?_ _) | (with_reducible refine Kd.C_drewN ?_ _) | (with_reducible refine Kd.C_drew ?_))); (case side4 => exact HC1_8.out); rintro e w' ⟨rfl, ⟨nd, rfl⟩⟩; (try first | exact ⟨rfl, _, World.drewN_drewN _ _ _⟩ | exact ⟨rfl, _, Eq.trans (World.drewN_drewN _ _ _) (congrArg (World.drewN _) (Nat.add_assoc _ _ _))⟩))); try go_wp2_with (first | (go_at_call 40; (with_reducible refine (aqueductref16_texts.calls k _ _ l0_7 _ _ l1_7 true _ ?side1 ?side2 ?side3 ?side4 A7.out).mono ?_); (case side1 => repeat (first | exact (Kd.C_below HR0_7.out HB.out) | (with_reducible refine Kd.C_alloc ?_ _) | (with_reducible refine Kd.C_drewN ?_ _) | (with_reducible refine Kd.C_drew ?_))); (case side2 => exact HC0_7.out); (case side3 => repeat (first | exact (Kd.C_below HR1_7.out HB.out) | (with_reducible refine Kd.C_alloc ?_ _) | (with_reducible refine Kd.C_drewN ?_ _) | (with_reducible refine Kd.C_drew ?_))); (case side4 => exact HC1_7.out); rintro e w' ⟨rfl, ⟨nd, rfl⟩⟩; (try first | exact ⟨rfl, _, World.drewN_drewN _ _ _⟩ | exact ⟨rfl, _, Eq.trans (World.drewN_drewN _ _ _) (congrArg (World.drewN _) (Nat.add_assoc _ _ _))⟩)) | (go_at_call 40; (with_reducible refine (aqueductref16_texts.calls k _ _ l0_8 _ _ l1_8 t254 _ ?side1 ?side2 ?side3 ?side4 A9.out).mono ?_); (case side1 => repeat (first | exact (Kd.C_below HR0_8.out (by repeat (first | (with_reducible first | exact HB.out | apply below_alloc | apply pw_below_drewN | apply below_drew1 | refine below_set ?_ GE251.out | refine below_set ?_ GE252.out) | exact HB.out))) | (with_reducible refine Kd.C_alloc ?_ _) | (with_reducible refine Kd.C_drewN ?_ _) | (with_reducible refine Kd.C_drew ?_))); (case side2 => exact HC0_8.out); (case side3 => repeat (first | exact (Kd.C_below HR1_8.out (by repeat (first | (with_reducible first | exact HB.out | apply below_alloc | apply pw_below_drewN | apply below_drew1 | refine below_set ?_ GE251.out | refine below_set ?_ GE252.out) | exact HB.out))) | (with_reducible refine Kd.C_alloc ?_ _) | (with_reducible refine Kd.C_drewN ?_ _) | (with_reducible refine Kd.C_drew ?_))); (case side4 => exact HC1_8.out); rintro e w' ⟨rfl, ⟨nd, rfl⟩⟩; (try first | exact ⟨rfl, _, World.drewN_drewN _ _ _⟩ | exact ⟨rfl, _, Eq.trans (World.drewN_drewN _ _ _) (congrArg (World.drewN _) (Nat.add_assoc _ _ _))⟩))))
        go_meet
        case rel => exact ⟨_, (!t254), (by first | rfl | (simp; done) | (simp [*]; done)), H', ⟨by first | omega | exact Nat.le_refl _⟩, ⟨by (with_reducible repeat (first | refine blk_drewN ?_ _ | refine blk_drew ?_ | refine blk_alloc ?_ _)); exact BK251.out⟩, ⟨by (with_reducible repeat (first | refine blk_drewN ?_ _ | refine blk_drew ?_ | refine blk_alloc ?_ _)); exact BK252.out⟩, ⟨by repeat (first | (with_reducible first | exact HB.out | apply below_alloc | apply pw_below_drewN | apply below_drew1 | refine below_set ?_ GE251.out | refine below_set ?_ GE252.out) | exact HB.out)⟩⟩
      · replace c8 := Bool.eq_false_iff.mpr c8
        subst c8
        have H1 : (aqueductref16_Same.j0 k true a0_0 a0_1 a0_2 a0_3 a0_4 a0_5 a0_6 l0_7 l0_8 a0_9 l0_10 a1_0 a1_1 a1_2 a1_3 a1_4 a1_5 a1_6 l1_7 l1_8 a1_9 l1_10) = some r := by rw [if_neg (show ¬ (false = true) by decide)] at H; exact H
        clear H
        have H := H1
        clear H1
        have H' := Aside0.mk H
        clear H
        have hnb13 := NB251_252.out
        have hnc13 := NB252_251.out
        have hcz14_0 : w5.cell? ⟨gb251, 0, none⟩ = some (.string a0_0) := (blk_cell BK251.out 0).trans rfl
        have hcz14_1 : w5.cell? ⟨gb251, 1, none⟩ = some (.bool a0_1) := (blk_cell BK251.out 1).trans rfl
        have hcz14_2 : w5.cell? ⟨gb251, 2, none⟩ = some (.bool a0_2) := (blk_cell BK251.out 2).trans rfl
        have hcz14_3 : w5.cell? ⟨gb251, 3, none⟩ = some (.bool a0_3) := (blk_cell BK251.out 3).trans rfl
        have hcz14_4 : w5.cell? ⟨gb251, 4, none⟩ = some (.bool a0_4) := (blk_cell BK251.out 4).trans rfl
        have hcz14_5 : w5.cell? ⟨gb251, 5, none⟩ = some (.bool a0_5) := (blk_cell BK251.out 5).trans rfl
        have hcz14_6 : w5.cell? ⟨gb251, 6, none⟩ = some (.bool a0_6) := (blk_cell BK251.out 6).trans rfl
        have hcz14_7 : w5.cell? ⟨gb251, 7, none⟩ = some (.slice A0_7 l0_7.length c0_7) := (blk_cell BK251.out 7).trans rfl
        have hcz14_8 : w5.cell? ⟨gb251, 8, none⟩ = some (.slice A0_8 l0_8.length c0_8) := (blk_cell BK251.out 8).trans rfl
        have hcz14_9 : w5.cell? ⟨gb251, 9, none⟩ = some (.bool a0_9) := (blk_cell BK251.out 9).trans rfl
        have hcz14_10 : w5.cell? ⟨gb251, 10, none⟩ = some (.slice A0_10 l0_10.length c0_10) := (blk_cell BK251.out 10).trans rfl
        have hfz14_0 := blk_frozen BK251.out 0
        have hfz14_1 := blk_frozen BK251.out 1
        have hfz14_2 := blk_frozen BK251.out 2
        have hfz14_3 := blk_frozen BK251.out 3
        have hfz14_4 := blk_frozen BK251.out 4
        have hfz14_5 := blk_frozen BK251.out 5
        have hfz14_6 := blk_frozen BK251.out 6
        have hfz14_7 := blk_frozen BK251.out 7
        have hfz14_8 := blk_frozen BK251.out 8
        have hfz14_9 := blk_frozen BK251.out 9
        have hfz14_10 := blk_frozen BK251.out 10
        have hcz15_0 : w5.cell? ⟨gb252, 0, none⟩ = some (.string a1_0) := (blk_cell BK252.out 0).trans rfl
        have hcz15_1 : w5.cell? ⟨gb252, 1, none⟩ = some (.bool a1_1) := (blk_cell BK252.out 1).trans rfl
        have hcz15_2 : w5.cell? ⟨gb252, 2, none⟩ = some (.bool a1_2) := (blk_cell BK252.out 2).trans rfl
        have hcz15_3 : w5.cell? ⟨gb252, 3, none⟩ = some (.bool a1_3) := (blk_cell BK252.out 3).trans rfl
        have hcz15_4 : w5.cell? ⟨gb252, 4, none⟩ = some (.bool a1_4) := (blk_cell BK252.out 4).trans rfl
        have hcz15_5 : w5.cell? ⟨gb252, 5, none⟩ = some (.bool a1_5) := (blk_cell BK252.out 5).trans rfl
        have hcz15_6 : w5.cell? ⟨gb252, 6, none⟩ = some (.bool a1_6) := (blk_cell BK252.out 6).trans rfl
        have hcz15_7 : w5.cell? ⟨gb252, 7, none⟩ = some (.slice A1_7 l1_7.length c1_7) := (blk_cell BK252.out 7).trans rfl
        have hcz15_8 : w5.cell? ⟨gb252, 8, none⟩ = some (.slice A1_8 l1_8.length c1_8) := (blk_cell BK252.out 8).trans rfl
        have hcz15_9 : w5.cell? ⟨gb252, 9, none⟩ = some (.bool a1_9) := (blk_cell BK252.out 9).trans rfl
        have hcz15_10 : w5.cell? ⟨gb252, 10, none⟩ = some (.slice A1_10 l1_10.length c1_10) := (blk_cell BK252.out 10).trans rfl
        have hfz15_0 := blk_frozen BK252.out 0
        have hfz15_1 := blk_frozen BK252.out 1
        have hfz15_2 := blk_frozen BK252.out 2
        have hfz15_3 := blk_frozen BK252.out 3
        have hfz15_4 := blk_frozen BK252.out 4
        have hfz15_5 := blk_frozen BK252.out 5
        have hfz15_6 := blk_frozen BK252.out 6
        have hfz15_7 := blk_frozen BK252.out 7
        have hfz15_8 := blk_frozen BK252.out 8
        have hfz15_9 := blk_frozen BK252.out 9
        have hfz15_10 := blk_frozen BK252.out 10
        go_wp2_with (first | (go_at_call 40; (with_reducible refine (aqueductref16_texts.calls k _ _ l0_7 _ _ l1_7 false _ ?side1 ?side2 ?side3 ?side4 A7.out).mono ?_); (case side1 => repeat (first | exact (Kd.C_below HR0_7.out HB.out) | (with_reducible refine Kd.C_alloc ?_ _) | (with_reducible refine Kd.C_drewN ?_ _) | (with_reducible refine Kd.C_drew ?_))); (case side2 => exact HC0_7.out); (case side3 => repeat (first | exact (Kd.C_below HR1_7.out HB.out) | (with_reducible refine Kd.C_alloc ?_ _) | (with_reducible refine Kd.C_drewN ?_ _) | (with_reducible refine Kd.C_drew ?_))); (case side4 => exact HC1_7.out); rintro e w' ⟨rfl, ⟨nd, rfl⟩⟩; (try first | exact ⟨rfl, _, World.drewN_drewN _ _ _⟩ | exact ⟨rfl, _, Eq.trans (World.drewN_drewN _ _ _) (congrArg (World.drewN _) (Nat.add_assoc _ _ _))⟩)))
        repeat (go_quiet (first | (go_at_call 40; (with_reducible refine (aqueductref16_texts.calls k _ _ l0_7 _ _ l1_7 false _ ?side1 ?side2 ?side3 ?side4 A7.out).mono ?_); (case side1 => repeat (first | exact (Kd.C_below HR0_7.out HB.out) | (with_reducible refine Kd.C_alloc ?_ _) | (with_reducible refine Kd.C_drewN ?_ _) | (with_reducible refine Kd.C_drew ?_))); (case side2 => exact HC0_7.out); (case side3 => repeat (first | exact (Kd.C_below HR1_7.out HB.out) | (with_reducible refine Kd.C_alloc ?_ _) | (with_reducible refine Kd.C_drewN ?_ _) | (with_reducible refine Kd.C_drew ?_))); (case side4 => exact HC1_7.out); rintro e w' ⟨rfl, ⟨nd, rfl⟩⟩; (try first | exact ⟨rfl, _, World.drewN_drewN _ _ _⟩ | exact ⟨rfl, _, Eq.trans (World.drewN_drewN _ _ _) (congrArg (World.drewN _) (Nat.add_assoc _ _ _))⟩))); try go_wp2_with (first | (go_at_call 40; (with_reducible refine (aqueductref16_texts.calls k _ _ l0_7 _ _ l1_7 false _ ?side1 ?side2 ?side3 ?side4 A7.out).mono ?_); (case side1 => repeat (first | exact (Kd.C_below HR0_7.out HB.out) | (with_reducible refine Kd.C_alloc ?_ _) | (with_reducible refine Kd.C_drewN ?_ _) | (with_reducible refine Kd.C_drew ?_))); (case side2 => exact HC0_7.out); (case side3 => repeat (first | exact (Kd.C_below HR1_7.out HB.out) | (with_reducible refine Kd.C_alloc ?_ _) | (with_reducible refine Kd.C_drewN ?_ _) | (with_reducible refine Kd.C_drew ?_))); (case side4 => exact HC1_7.out); rintro e w' ⟨rfl, ⟨nd, rfl⟩⟩; (try first | exact ⟨rfl, _, World.drewN_drewN _ _ _⟩ | exact ⟨rfl, _, Eq.trans (World.drewN_drewN _ _ _) (congrArg (World.drewN _) (Nat.add_assoc _ _ _))⟩))))
        go_meet
        case rel => exact ⟨_, (true), (by first | rfl | (simp; done) | (simp [*]; done)), H', ⟨by first | omega | exact Nat.le_refl _⟩, ⟨by (with_reducible repeat (first | refine blk_drewN ?_ _ | refine blk_drew ?_ | refine blk_alloc ?_ _)); exact BK251.out⟩, ⟨by (with_reducible repeat (first | refine blk_drewN ?_ _ | refine blk_drew ?_ | refine blk_alloc ?_ _)); exact BK252.out⟩, ⟨by repeat (first | (with_reducible first | exact HB.out | apply below_alloc | apply pw_below_drewN | apply below_drew1 | refine below_set ?_ GE251.out | refine below_set ?_ GE252.out) | exact HB.out)⟩⟩
    · rw [if_neg c6] at H
      have c6b0 : ((l0_10.length : Int) == (l1_10.length : Int)) = false := beq_eq_false_iff_ne.mpr c6
      have c6b1 : ((l0_10.length : Int) != (l1_10.length : Int)) = true := bne_iff_ne.mpr c6
      have c6b2 : (l0_10.length == l1_10.length) = false := by first | simpa using c6 | (simp at c6 ⊢; omega)
      (first | rw [c6b0] | (simp only [i64_w, i32_w]; rw [c6b0]) | skip)
      have H' := Aside0.mk H
      clear H
      have hnb16 := NB251_252.out
      have hnc16 := NB252_251.out
      have hcz17_0 : w5.cell? ⟨gb251, 0, none⟩ = some (.string a0_0) := (blk_cell BK251.out 0).trans rfl
      have hcz17_1 : w5.cell? ⟨gb251, 1, none⟩ = some (.bool a0_1) := (blk_cell BK251.out 1).trans rfl
      have hcz17_2 : w5.cell? ⟨gb251, 2, none⟩ = some (.bool a0_2) := (blk_cell BK251.out 2).trans rfl
      have hcz17_3 : w5.cell? ⟨gb251, 3, none⟩ = some (.bool a0_3) := (blk_cell BK251.out 3).trans rfl
      have hcz17_4 : w5.cell? ⟨gb251, 4, none⟩ = some (.bool a0_4) := (blk_cell BK251.out 4).trans rfl
      have hcz17_5 : w5.cell? ⟨gb251, 5, none⟩ = some (.bool a0_5) := (blk_cell BK251.out 5).trans rfl
      have hcz17_6 : w5.cell? ⟨gb251, 6, none⟩ = some (.bool a0_6) := (blk_cell BK251.out 6).trans rfl
      have hcz17_7 : w5.cell? ⟨gb251, 7, none⟩ = some (.slice A0_7 l0_7.length c0_7) := (blk_cell BK251.out 7).trans rfl
      have hcz17_8 : w5.cell? ⟨gb251, 8, none⟩ = some (.slice A0_8 l0_8.length c0_8) := (blk_cell BK251.out 8).trans rfl
      have hcz17_9 : w5.cell? ⟨gb251, 9, none⟩ = some (.bool a0_9) := (blk_cell BK251.out 9).trans rfl
      have hcz17_10 : w5.cell? ⟨gb251, 10, none⟩ = some (.slice A0_10 l0_10.length c0_10) := (blk_cell BK251.out 10).trans rfl
      have hfz17_0 := blk_frozen BK251.out 0
      have hfz17_1 := blk_frozen BK251.out 1
      have hfz17_2 := blk_frozen BK251.out 2
      have hfz17_3 := blk_frozen BK251.out 3
      have hfz17_4 := blk_frozen BK251.out 4
      have hfz17_5 := blk_frozen BK251.out 5
      have hfz17_6 := blk_frozen BK251.out 6
      have hfz17_7 := blk_frozen BK251.out 7
      have hfz17_8 := blk_frozen BK251.out 8
      have hfz17_9 := blk_frozen BK251.out 9
      have hfz17_10 := blk_frozen BK251.out 10
      have hcz18_0 : w5.cell? ⟨gb252, 0, none⟩ = some (.string a1_0) := (blk_cell BK252.out 0).trans rfl
      have hcz18_1 : w5.cell? ⟨gb252, 1, none⟩ = some (.bool a1_1) := (blk_cell BK252.out 1).trans rfl
      have hcz18_2 : w5.cell? ⟨gb252, 2, none⟩ = some (.bool a1_2) := (blk_cell BK252.out 2).trans rfl
      have hcz18_3 : w5.cell? ⟨gb252, 3, none⟩ = some (.bool a1_3) := (blk_cell BK252.out 3).trans rfl
      have hcz18_4 : w5.cell? ⟨gb252, 4, none⟩ = some (.bool a1_4) := (blk_cell BK252.out 4).trans rfl
      have hcz18_5 : w5.cell? ⟨gb252, 5, none⟩ = some (.bool a1_5) := (blk_cell BK252.out 5).trans rfl
      have hcz18_6 : w5.cell? ⟨gb252, 6, none⟩ = some (.bool a1_6) := (blk_cell BK252.out 6).trans rfl
      have hcz18_7 : w5.cell? ⟨gb252, 7, none⟩ = some (.slice A1_7 l1_7.length c1_7) := (blk_cell BK252.out 7).trans rfl
      have hcz18_8 : w5.cell? ⟨gb252, 8, none⟩ = some (.slice A1_8 l1_8.length c1_8) := (blk_cell BK252.out 8).trans rfl
      have hcz18_9 : w5.cell? ⟨gb252, 9, none⟩ = some (.bool a1_9) := (blk_cell BK252.out 9).trans rfl
      have hcz18_10 : w5.cell? ⟨gb252, 10, none⟩ = some (.slice A1_10 l1_10.length c1_10) := (blk_cell BK252.out 10).trans rfl
      have hfz18_0 := blk_frozen BK252.out 0
      have hfz18_1 := blk_frozen BK252.out 1
      have hfz18_2 := blk_frozen BK252.out 2
      have hfz18_3 := blk_frozen BK252.out 3
      have hfz18_4 := blk_frozen BK252.out 4
      have hfz18_5 := blk_frozen BK252.out 5
      have hfz18_6 := blk_frozen BK252.out 6
      have hfz18_7 := blk_frozen BK252.out 7
      have hfz18_8 := blk_frozen BK252.out 8
      have hfz18_9 := blk_frozen BK252.out 9
      have hfz18_10 := blk_frozen BK252.out 10
      go_wp2
      repeat (go_quiet (fail); try go_wp2)
      go_meet
      case rel => exact ⟨_, (true), (by first | rfl | (simp; done) | (simp [*]; done)), H', ⟨by first | omega | exact Nat.le_refl _⟩, ⟨by (with_reducible repeat (first | refine blk_drewN ?_ _ | refine blk_drew ?_ | refine blk_alloc ?_ _)); exact BK251.out⟩, ⟨by (with_reducible repeat (first | refine blk_drewN ?_ _ | refine blk_drew ?_ | refine blk_alloc ?_ _)); exact BK252.out⟩, ⟨by repeat (first | (with_reducible first | exact HB.out | apply below_alloc | apply pw_below_drewN | apply below_drew1 | refine below_set ?_ GE251.out | refine below_set ?_ GE252.out) | exact HB.out)⟩⟩
  case rest =>
    clear HC3
    try clear c1
    try clear p2
    try clear c6
    try clear c6b0
    try clear c6b1
    try clear c6b2
    try clear c8
    try clear c10
    try clear c13
    try clear c16
    try clear hcz11_0
    try clear hcz11_1
    try clear hcz11_10
    try clear hcz11_2
    try clear hcz11_3
    try clear hcz11_4
    try clear hcz11_5
    try clear hcz11_6
    try clear hcz11_7
    try clear hcz11_8
    try clear hcz11_9
    try clear hcz12_0
    try clear hcz12_1
    try clear hcz12_10
    try clear hcz12_2
    try clear hcz12_3
    try clear hcz12_4
    try clear hcz12_5
    try clear hcz12_6
    try clear hcz12_7
    try clear hcz12_8
    try clear hcz12_9
    try clear hcz14_0
    try clear hcz14_1
    try clear hcz14_10
    try clear hcz14_2
    try clear hcz14_3
    try clear hcz14_4
    try clear hcz14_5
    try clear hcz14_6
    try clear hcz14_7
    try clear hcz14_8
    try clear hcz14_9
    try clear hcz15_0
    try clear hcz15_1
    try clear hcz15_10
    try clear hcz15_2
    try clear hcz15_3
    try clear hcz15_4
    try clear hcz15_5
    try clear hcz15_6
    try clear hcz15_7
    try clear hcz15_8
    try clear hcz15_9
    try clear hcz17_0
    try clear hcz17_1
    try clear hcz17_10
    try clear hcz17_2
    try clear hcz17_3
    try clear hcz17_4
    try clear hcz17_5
    try clear hcz17_6
    try clear hcz17_7
    try clear hcz17_8
    try clear hcz17_9
    try clear hcz18_0
    try clear hcz18_1
    try clear hcz18_10
    try clear hcz18_2
    try clear hcz18_3
    try clear hcz18_4
    try clear hcz18_5
    try clear hcz18_6
    try clear hcz18_7
    try clear hcz18_8
    try clear hcz18_9
    try clear hfz11_0
    try clear hfz11_1
    try clear hfz11_10
    try clear hfz11_2
    try clear hfz11_3
    try clear hfz11_4
    try clear hfz11_5
    try clear hfz11_6
    try clear hfz11_7
    try clear hfz11_8
    try clear hfz11_9
    try clear hfz12_0
    try clear hfz12_1
    try clear hfz12_10
    try clear hfz12_2
    try clear hfz12_3
    try clear hfz12_4
    try clear hfz12_5
    try clear hfz12_6
    try clear hfz12_7
    try clear hfz12_8
    try clear hfz12_9
    try clear hfz14_0
    try clear hfz14_1
    try clear hfz14_10
    try clear hfz14_2
    try clear hfz14_3
    try clear hfz14_4
    try clear hfz14_5
    try clear hfz14_6
    try clear hfz14_7
    try clear hfz14_8
    try clear hfz14_9
    try clear hfz15_0
    try clear hfz15_1
    try clear hfz15_10
    try clear hfz15_2
    try clear hfz15_3
    try clear hfz15_4
    try clear hfz15_5
    try clear hfz15_6
    try clear hfz15_7
    try clear hfz15_8
    try clear hfz15_9
    try clear hfz17_0
    try clear hfz17_1
    try clear hfz17_10
    try clear hfz17_2
    try clear hfz17_3
    try clear hfz17_4
    try clear hfz17_5
    try clear hfz17_6
    try clear hfz17_7
    try clear hfz17_8
    try clear hfz17_9
    try clear hfz18_0
    try clear hfz18_1
    try clear hfz18_10
    try clear hfz18_2
    try clear hfz18_3
    try clear hfz18_4
    try clear hfz18_5
    try clear hfz18_6
    try clear hfz18_7
    try clear hfz18_8
    try clear hfz18_9
    obtain ⟨kq, x28_2, rfl, HA, HJ2, BK251, BK252, HB⟩ := hcut
    cases kq with
    | zero => exact absurd HA.out (by simp [aqueductref16_Same.j0])
    | succ kj2 =>
      have H := HA.out
      clear HA
      simp only [aqueductref16_Same.j0] at H
      by_cases c19 : x28_2 = true
      · subst c19
        have H1 : (some false) = some r := by rw [if_pos rfl] at H; exact H
        clear H
        have H := H1
        clear H1
        obtain rfl := Option.some.inj H
        go_wp2
        repeat (go_quiet (fail); try go_wp2)
        go_ret
        exact ⟨by first | rfl | (simp [errW_none, errW_some] <;> rfl) | (simp [*, errW_none, errW_some] <;> rfl), by repeat (first | (with_reducible first | exact HB.out | apply below_alloc | apply pw_below_drewN | apply below_drew1 | refine below_set ?_ GE251.out | refine below_set ?_ GE252.out) | exact HB.out)⟩
      · replace c19 := Bool.eq_false_iff.mpr c19
        subst c19
        have H1 : (aqueductref16_Same.l0 kj2 0 a0_0 a0_1 a0_2 a0_3 a0_4 a0_5 a0_6 l0_7 l0_8 a0_9 l0_10 a1_0 a1_1 a1_2 a1_3 a1_4 a1_5 a1_6 l1_7 l1_8 a1_9 l1_10) = some r := by rw [if_neg (show ¬ (false = true) by decide)] at H; exact H
        clear H
        have H := H1
        clear H1
        have H' := Aside0.mk H
        clear H
        go_wp2
        repeat (go_quiet (fail); try go_wp2)
        go_loopg [5] kj2 (fun kq v5 w' => ∃ (x5_2 : Int), v5 = .int .i64 x5_2 ∧ Aside0 (aqueductref16_Same.l0 kq x5_2 a0_0 a0_1 a0_2 a0_3 a0_4 a0_5 a0_6 l0_7 l0_8 a0_9 l0_10 a1_0 a1_1 a1_2 a1_3 a1_4 a1_5 a1_6 l1_7 l1_8 a1_9 l1_10 = some r) ∧ Aside0 (kq ≤ kj2) ∧ Aside0 (w'.heap[gb251]? = some (.cells #[.string a0_0, .bool a0_1, .bool a0_2, .bool a0_3, .bool a0_4, .bool a0_5, .bool a0_6, (.slice A0_7 l0_7.length c0_7), (.slice A0_8 l0_8.length c0_8), .bool a0_9, (.slice A0_10 l0_10.length c0_10)] 25 (0, 0))) ∧ Aside0 (w'.heap[gb252]? = some (.cells #[.string a1_0, .bool a1_1, .bool a1_2, .bool a1_3, .bool a1_4, .bool a1_5, .bool a1_6, (.slice A1_7 l1_7.length c1_7), (.slice A1_8 l1_8.length c1_8), .bool a1_9, (.slice A1_10 l1_10.length c1_10)] 25 (0, 0))) ∧ Aside0 (Below w.heap.size w w'))
        case atStart => exact ⟨(0), (by first | rfl | (simp; done) | (simp [*]; done)), H', ⟨Nat.le_refl _⟩, ⟨by (with_reducible repeat (first | refine blk_drewN ?_ _ | refine blk_drew ?_ | refine blk_alloc ?_ _)); exact BK251.out⟩, ⟨by (with_reducible repeat (first | refine blk_drewN ?_ _ | refine blk_drew ?_ | refine blk_alloc ?_ _)); exact BK252.out⟩, ⟨by repeat (first | (with_reducible first | exact HB.out | apply below_alloc | apply pw_below_drewN | apply below_drew1 | refine below_set ?_ GE251.out | refine below_set ?_ GE252.out) | exact HB.out)⟩⟩
        case round =>
          clear H'
          try clear c1
          try clear p2
          try clear c6
          try clear c6b0
          try clear c6b1
          try clear c6b2
          try clear c8
          try clear c10
          try clear c13
          try clear c16
          try clear c19
          try clear hcz11_0
          try clear hcz11_1
          try clear hcz11_10
          try clear hcz11_2
          try clear hcz11_3
          try clear hcz11_4
          try clear hcz11_5
          try clear hcz11_6
          try clear hcz11_7
          try clear hcz11_8
          try clear hcz11_9
          try clear hcz12_0
          try clear hcz12_1
          try clear hcz12_10
          try clear hcz12_2
          try clear hcz12_3
          try clear hcz12_4
          try clear hcz12_5
          try clear hcz12_6
          try clear hcz12_7
          try clear hcz12_8
          try clear hcz12_9
          try clear hcz14_0
          try clear hcz14_1
          try clear hcz14_10
          try clear hcz14_2
          try clear hcz14_3
          try clear hcz14_4
          try clear hcz14_5
          try clear hcz14_6
          try clear hcz14_7
          try clear hcz14_8
          try clear hcz14_9
          try clear hcz15_0
          try clear hcz15_1
          try clear hcz15_10
          try clear hcz15_2
          try clear hcz15_3
          try clear hcz15_4
          try clear hcz15_5
          try clear hcz15_6
          try clear hcz15_7
          try clear hcz15_8
          try clear hcz15_9
          try clear hcz17_0
          try clear hcz17_1
          try clear hcz17_10
          try clear hcz17_2
          try clear hcz17_3
          try clear hcz17_4
          try clear hcz17_5
          try clear hcz17_6
          try clear hcz17_7
          try clear hcz17_8
          try clear hcz17_9
          try clear hcz18_0
          try clear hcz18_1
          try clear hcz18_10
          try clear hcz18_2
          try clear hcz18_3
          try clear hcz18_4
          try clear hcz18_5
          try clear hcz18_6
          try clear hcz18_7
          try clear hcz18_8
          try clear hcz18_9
          try clear hfz11_0
          try clear hfz11_1
          try clear hfz11_10
          try clear hfz11_2
          try clear hfz11_3
          try clear hfz11_4
          try clear hfz11_5
          try clear hfz11_6
          try clear hfz11_7
          try clear hfz11_8
          try clear hfz11_9
          try clear hfz12_0
          try clear hfz12_1
          try clear hfz12_10
          try clear hfz12_2
          try clear hfz12_3
          try clear hfz12_4
          try clear hfz12_5
          try clear hfz12_6
          try clear hfz12_7
          try clear hfz12_8
          try clear hfz12_9
          try clear hfz14_0
          try clear hfz14_1
          try clear hfz14_10
          try clear hfz14_2
          try clear hfz14_3
          try clear hfz14_4
          try clear hfz14_5
          try clear hfz14_6
          try clear hfz14_7
          try clear hfz14_8
          try clear hfz14_9
          try clear hfz15_0
          try clear hfz15_1
          try clear hfz15_10
          try clear hfz15_2
          try clear hfz15_3
          try clear hfz15_4
          try clear hfz15_5
          try clear hfz15_6
          try clear hfz15_7
          try clear hfz15_8
          try clear hfz15_9
          try clear hfz17_0
          try clear hfz17_1
          try clear hfz17_10
          try clear hfz17_2
          try clear hfz17_3
          try clear hfz17_4
          try clear hfz17_5
          try clear hfz17_6
          try clear hfz17_7
          try clear hfz17_8
          try clear hfz17_9
          try clear hfz18_0
          try clear hfz18_1
          try clear hfz18_10
          try clear hfz18_2
          try clear hfz18_3
          try clear hfz18_4
          try clear hfz18_5
          try clear hfz18_6
          try clear hfz18_7
          try clear hfz18_8
          try clear hfz18_9
          try clear p2
          obtain ⟨x5_2, rfl, HA, HK2, BK251, BK252, HB⟩ := hrel
          cases gk with
          | zero => exact absurd HA.out (by simp [aqueductref16_Same.l0])
          | succ k2 =>
            have H := HA.out
            clear HA
            simp only [aqueductref16_Same.l0] at H
            by_cases c20 : x5_2 < (l0_10.length : Int)
            · rw [if_pos c20] at H
              have c20b0 : decide (x5_2 < (l0_10.length : Int)) = true := decide_eq_true c20
              clear c20
              by_cases c21 : 0 ≤ x5_2
              · rw [if_pos c21] at H
                have c21b0 : decide (0 ≤ x5_2) = true := decide_eq_true c21
                clear c21
                by_cases c22 : x5_2 < (l1_10.length : Int)
                · rw [if_pos c22] at H
                  have c22b0 : decide (x5_2 < (l1_10.length : Int)) = true := decide_eq_true c22
                  clear c22
                  by_cases c23 : (rd l0_10 x5_2) = (rd l1_10 x5_2)
                  · rw [if_pos c23] at H
                    have c23b0 : ((rd l0_10 x5_2) == (rd l1_10 x5_2)) = true := beq_iff_eq.mpr c23
                    have c23b1 : ((rd l0_10 x5_2) != (rd l1_10 x5_2)) = false := bne_eq_false_iff_eq.mpr c23
                    clear c23
                    have H' := Aside0.mk H
                    clear H
                    have hnb24 := NB251_252.out
                    have hnc24 := NB252_251.out
                    have hcz25_0 : wr.cell? ⟨gb251, 0, none⟩ = some (.string a0_0) := (blk_cell BK251.out 0).trans rfl
                    have hcz25_1 : wr.cell? ⟨gb251, 1, none⟩ = some (.bool a0_1) := (blk_cell BK251.out 1).trans rfl
                    have hcz25_2 : wr.cell? ⟨gb251, 2, none⟩ = some (.bool a0_2) := (blk_cell BK251.out 2).trans rfl
                    have hcz25_3 : wr.cell? ⟨gb251, 3, none⟩ = some (.bool a0_3) := (blk_cell BK251.out 3).trans rfl
                    have hcz25_4 : wr.cell? ⟨gb251, 4, none⟩ = some (.bool a0_4) := (blk_cell BK251.out 4).trans rfl
                    have hcz25_5 : wr.cell? ⟨gb251, 5, none⟩ = some (.bool a0_5) := (blk_cell BK251.out 5).trans rfl
                    have hcz25_6 : wr.cell? ⟨gb251, 6, none⟩ = some (.bool a0_6) := (blk_cell BK251.out 6).trans rfl
                    have hcz25_7 : wr.cell? ⟨gb251, 7, none⟩ = some (.slice A0_7 l0_7.length c0_7) := (blk_cell BK251.out 7).trans rfl
                    have hcz25_8 : wr.cell? ⟨gb251, 8, none⟩ = some (.slice A0_8 l0_8.length c0_8) := (blk_cell BK251.out 8).trans rfl
                    have hcz25_9 : wr.cell? ⟨gb251, 9, none⟩ = some (.bool a0_9) := (blk_cell BK251.out 9).trans rfl
                    have hcz25_10 : wr.cell? ⟨gb251, 10, none⟩ = some (.slice A0_10 l0_10.length c0_10) := (blk_cell BK251.out 10).trans rfl
                    have hfz25_0 := blk_frozen BK251.out 0
                    have hfz25_1 := blk_frozen BK251.out 1
                    have hfz25_2 := blk_frozen BK251.out 2
                    have hfz25_3 := blk_frozen BK251.out 3
                    have hfz25_4 := blk_frozen BK251.out 4
                    have hfz25_5 := blk_frozen BK251.out 5
                    have hfz25_6 := blk_frozen BK251.out 6
                    have hfz25_7 := blk_frozen BK251.out 7
                    have hfz25_8 := blk_frozen BK251.out 8
                    have hfz25_9 := blk_frozen BK251.out 9
                    have hfz25_10 := blk_frozen BK251.out 10
                    have p255 : 0 ≤ (x5_2 : Int) := of_decide_eq_true (by first | (with_reducible assumption) | assumption)
                    have q255 : x5_2 < (l0_10.length : Int) := of_decide_eq_true (by first | (with_reducible assumption) | assumption)
                    obtain ⟨ad255, e255, hx255_0⟩ := Kd.at_int HR0_10.out x5_2 p255 q255
                    cases e255
                    replace hx255_0 := (HB.out.cell (World.block_lt_of_cell? w _ hx255_0)).trans hx255_0
                    replace p255 := eq_true p255
                    replace q255 := eq_true q255
                    have hcz26_0 : wr.cell? ⟨gb252, 0, none⟩ = some (.string a1_0) := (blk_cell BK252.out 0).trans rfl
                    have hcz26_1 : wr.cell? ⟨gb252, 1, none⟩ = some (.bool a1_1) := (blk_cell BK252.out 1).trans rfl
                    have hcz26_2 : wr.cell? ⟨gb252, 2, none⟩ = some (.bool a1_2) := (blk_cell BK252.out 2).trans rfl
                    have hcz26_3 : wr.cell? ⟨gb252, 3, none⟩ = some (.bool a1_3) := (blk_cell BK252.out 3).trans rfl
                    have hcz26_4 : wr.cell? ⟨gb252, 4, none⟩ = some (.bool a1_4) := (blk_cell BK252.out 4).trans rfl
                    have hcz26_5 : wr.cell? ⟨gb252, 5, none⟩ = some (.bool a1_5) := (blk_cell BK252.out 5).trans rfl
                    have hcz26_6 : wr.cell? ⟨gb252, 6, none⟩ = some (.bool a1_6) := (blk_cell BK252.out 6).trans rfl
                    have hcz26_7 : wr.cell? ⟨gb252, 7, none⟩ = some (.slice A1_7 l1_7.length c1_7) := (blk_cell BK252.out 7).trans rfl
                    have hcz26_8 : wr.cell? ⟨gb252, 8, none⟩ = some (.slice A1_8 l1_8.length c1_8) := (blk_cell BK252.out 8).trans rfl
                    have hcz26_9 : wr.cell? ⟨gb252, 9, none⟩ = some (.bool a1_9) := (blk_cell BK252.out 9).trans rfl
                    have hcz26_10 : wr.cell? ⟨gb252, 10, none⟩ = some (.slice A1_10 l1_10.length c1_10) := (blk_cell BK252.out 10).trans rfl
                    have hfz26_0 := blk_frozen BK252.out 0
                    have hfz26_1 := blk_frozen BK252.out 1
                    have hfz26_2 := blk_frozen BK252.out 2
                    have hfz26_3 := blk_frozen BK252.out 3
                    have hfz26_4 := blk_frozen BK252.out 4
                    have hfz26_5 := blk_frozen BK252.out 5
                    have hfz26_6 := blk_frozen BK252.out 6
                    have hfz26_7 := blk_frozen BK252.out 7
                    have hfz26_8 := blk_frozen BK252.out 8
                    have hfz26_9 := blk_frozen BK252.out 9
                    have hfz26_10 := blk_frozen BK252.out 10
                    have p256 : 0 ≤ (x5_2 : Int) := of_decide_eq_true (by first | (with_reducible assumption) | assumption)
                    have q256 : x5_2 < (l1_10.length : Int) := of_decide_eq_true (by first | (with_reducible assumption) | assumption)
                    obtain ⟨ad256, e256, hx256_0⟩ := Kd.at_int HR1_10.out x5_2 p256 q256
                    cases e256
                    replace hx256_0 := (HB.out.cell (World.block_lt_of_cell? w _ hx256_0)).trans hx256_0
                    replace p256 := eq_true p256
                    replace q256 := eq_true q256
                    go_wp2
                    repeat (go_quiet (fail); try go_wp2)
                    go_roundg k2
                    case measure => have := HJ2.out; have := HK2.out; omega
                    case rel => exact ⟨(wrap64 (x5_2 + 1)), (by first | rfl | (simp; done) | (simp [*]; done)), H', ⟨by have := HJ2.out; have := HK2.out; omega⟩, ⟨by (with_reducible repeat (first | refine blk_drewN ?_ _ | refine blk_drew ?_ | refine blk_alloc ?_ _)); exact BK251.out⟩, ⟨by (with_reducible repeat (first | refine blk_drewN ?_ _ | refine blk_drew ?_ | refine blk_alloc ?_ _)); exact BK252.out⟩, ⟨by repeat (first | (with_reducible first | exact HB.out | apply below_alloc | apply pw_below_drewN | apply below_drew1 | refine below_set ?_ GE251.out | refine below_set ?_ GE252.out) | exact HB.out)⟩⟩
                  · rw [if_neg c23] at H
                    have c23b0 : ((rd l0_10 x5_2) == (rd l1_10 x5_2)) = false := beq_eq_false_iff_ne.mpr c23
                    have c23b1 : ((rd l0_10 x5_2) != (rd l1_10 x5_2)) = true := bne_iff_ne.mpr c23
                    obtain rfl := Option.some.inj H
                    have hnb27 := NB251_252.out
                    have hnc27 := NB252_251.out
                    have hcz28_0 : wr.cell? ⟨gb251, 0, none⟩ = some (.string a0_0) := (blk_cell BK251.out 0).trans rfl
                    have hcz28_1 : wr.cell? ⟨gb251, 1, none⟩ = some (.bool a0_1) := (blk_cell BK251.out 1).trans rfl
                    have hcz28_2 : wr.cell? ⟨gb251, 2, none⟩ = some (.bool a0_2) := (blk_cell BK251.out 2).trans rfl
                    have hcz28_3 : wr.cell? ⟨gb251, 3, none⟩ = some (.bool a0_3) := (blk_cell BK251.out 3).trans rfl
                    have hcz28_4 : wr.cell? ⟨gb251, 4, none⟩ = some (.bool a0_4) := (blk_cell BK251.out 4).trans rfl
                    have hcz28_5 : wr.cell? ⟨gb251, 5, none⟩ = some (.bool a0_5) := (blk_cell BK251.out 5).trans rfl
                    have hcz28_6 : wr.cell? ⟨gb251, 6, none⟩ = some (.bool a0_6) := (blk_cell BK251.out 6).trans rfl
                    have hcz28_7 : wr.cell? ⟨gb251, 7, none⟩ = some (.slice A0_7 l0_7.length c0_7) := (blk_cell BK251.out 7).trans rfl
                    have hcz28_8 : wr.cell? ⟨gb251, 8, none⟩ = some (.slice A0_8 l0_8.length c0_8) := (blk_cell BK251.out 8).trans rfl
                    have hcz28_9 : wr.cell? ⟨gb251, 9, none⟩ = some (.bool a0_9) := (blk_cell BK251.out 9).trans rfl
                    have hcz28_10 : wr.cell? ⟨gb251, 10, none⟩ = some (.slice A0_10 l0_10.length c0_10) := (blk_cell BK251.out 10).trans rfl
                    have hfz28_0 := blk_frozen BK251.out 0
                    have hfz28_1 := blk_frozen BK251.out 1
                    have hfz28_2 := blk_frozen BK251.out 2
                    have hfz28_3 := blk_frozen BK251.out 3
                    have hfz28_4 := blk_frozen BK251.out 4
                    have hfz28_5 := blk_frozen BK251.out 5
                    have hfz28_6 := blk_frozen BK251.out 6
                    have hfz28_7 := blk_frozen BK251.out 7
                    have hfz28_8 := blk_frozen BK251.out 8
                    have hfz28_9 := blk_frozen BK251.out 9
                    have hfz28_10 := blk_frozen BK251.out 10
                    have p255 : 0 ≤ (x5_2 : Int) := of_decide_eq_true (by first | (with_reducible assumption) | assumption)
                    have q255 : x5_2 < (l0_10.length : Int) := of_decide_eq_true (by first | (with_reducible assumption) | assumption)
                    obtain ⟨ad255, e255, hx255_0⟩ := Kd.at_int HR0_10.out x5_2 p255 q255
                    cases e255
                    replace hx255_0 := (HB.out.cell (World.block_lt_of_cell? w _ hx255_0)).trans hx255_0
                    replace p255 := eq_true p255
                    replace q255 := eq_true q255
                    have hcz29_0 : wr.cell? ⟨gb252, 0, none⟩ = some (.string a1_0) := (blk_cell BK252.out 0).trans rfl
                    have hcz29_1 : wr.cell? ⟨gb252, 1, none⟩ = some (.bool a1_1) := (blk_cell BK252.out 1).trans rfl
                    have hcz29_2 : wr.cell? ⟨gb252, 2, none⟩ = some (.bool a1_2) := (blk_cell BK252.out 2).trans rfl
                    have hcz29_3 : wr.cell? ⟨gb252, 3, none⟩ = some (.bool a1_3) := (blk_cell BK252.out 3).trans rfl
                    have hcz29_4 : wr.cell? ⟨gb252, 4, none⟩ = some (.bool a1_4) := (blk_cell BK252.out 4).trans rfl
                    have hcz29_5 : wr.cell? ⟨gb252, 5, none⟩ = some (.bool a1_5) := (blk_cell BK252.out 5).trans rfl
                    have hcz29_6 : wr.cell? ⟨gb252, 6, none⟩ = some (.bool a1_6) := (blk_cell BK252.out 6).trans rfl
                    have hcz29_7 : wr.cell? ⟨gb252, 7, none⟩ = some (.slice A1_7 l1_7.length c1_7) := (blk_cell BK252.out 7).trans rfl
                    have hcz29_8 : wr.cell? ⟨gb252, 8, none⟩ = some (.slice A1_8 l1_8.length c1_8) := (blk_cell BK252.out 8).trans rfl
                    have hcz29_9 : wr.cell? ⟨gb252, 9, none⟩ = some (.bool a1_9) := (blk_cell BK252.out 9).trans rfl
                    have hcz29_10 : wr.cell? ⟨gb252, 10, none⟩ = some (.slice A1_10 l1_10.length c1_10) := (blk_cell BK252.out 10).trans rfl
                    have hfz29_0 := blk_frozen BK252.out 0
                    have hfz29_1 := blk_frozen BK252.out 1
                    have hfz29_2 := blk_frozen BK252.out 2
                    have hfz29_3 := blk_frozen BK252.out 3
                    have hfz29_4 := blk_frozen BK252.out 4
                    have hfz29_5 := blk_frozen BK252.out 5
                    have hfz29_6 := blk_frozen BK252.out 6
                    have hfz29_7 := blk_frozen BK252.out 7
                    have hfz29_8 := blk_frozen BK252.out 8
                    have hfz29_9 := blk_frozen BK252.out 9
                    have hfz29_10 := blk_frozen BK252.out 10
                    have p256 : 0 ≤ (x5_2 : Int) := of_decide_eq_true (by first | (with_reducible assumption) | assumption)
                    have q256 : x5_2 < (l1_10.length : Int) := of_decide_eq_true (by first | (with_reducible assumption) | assumption)
                    obtain ⟨ad256, e256, hx256_0⟩ := Kd.at_int HR1_10.out x5_2 p256 q256
                    cases e256
                    replace hx256_0 := (HB.out.cell (World.block_lt_of_cell? w _ hx256_0)).trans hx256_0
                    replace p256 := eq_true p256
                    replace q256 := eq_true q256
                    go_wp2
                    repeat (go_quiet (fail); try go_wp2)
                    go_ret
                    exact ⟨by first | rfl | (simp [errW_none, errW_some] <;> rfl) | (simp [*, errW_none, errW_some] <;> rfl), by repeat (first | (with_reducible first | exact HB.out | apply below_alloc | apply pw_below_drewN | apply below_drew1 | refine below_set ?_ GE251.out | refine below_set ?_ GE252.out) | exact HB.out)⟩
                · rw [if_neg c22] at H
                  exact absurd H (by simp)
              · rw [if_neg c21] at H
                exact absurd H (by simp)
            · rw [if_neg c20] at H
              have c20b0 : decide (x5_2 < (l0_10.length : Int)) = false := decide_eq_false c20
              clear c20
              by_cases c30 : a0_0.toList = a1_0.toList
              · rw [if_pos c30] at H
                have c30b0 : (a0_0.toList == a1_0.toList) = true := beq_iff_eq.mpr c30
                have c30b1 : (a0_0.toList != a1_0.toList) = false := bne_eq_false_iff_eq.mpr c30
                clear c30
                by_cases c31 : (a0_1 == a1_1) = true
                · rw [if_pos c31] at H
                  have c31b0 : (a0_1 == a1_1) = true := c31
                  (try (have c31b1 : decide (a0_1 = a1_1) = true := by simpa using c31))
                  (try (have c31b2 : (a0_1 == a1_1) = true := by simpa using c31))
                  clear c31
                  by_cases c32 : (a0_2 == a1_2) = true
                  · rw [if_pos c32] at H
                    have c32b0 : (a0_2 == a1_2) = true := c32
                    (try (have c32b1 : decide (a0_2 = a1_2) = true := by simpa using c32))
                    (try (have c32b2 : (a0_2 == a1_2) = true := by simpa using c32))
                    clear c32
                    by_cases c33 : (a0_3 == a1_3) = true
                    · rw [if_pos c33] at H
                      have c33b0 : (a0_3 == a1_3) = true := c33
                      (try (have c33b1 : decide (a0_3 = a1_3) = true := by simpa using c33))
                      (try (have c33b2 : (a0_3 == a1_3) = true := by simpa using c33))
                      clear c33
                      by_cases c34 : (a0_4 == a1_4) = true
                      · rw [if_pos c34] at H
                        have c34b0 : (a0_4 == a1_4) = true := c34
                        (try (have c34b1 : decide (a0_4 = a1_4) = true := by simpa using c34))
                        (try (have c34b2 : (a0_4 == a1_4) = true := by simpa using c34))
                        clear c34
                        by_cases c35 : (a0_5 == a1_5) = true
                        · rw [if_pos c35] at H
                          have c35b0 : (a0_5 == a1_5) = true := c35
                          (try (have c35b1 : decide (a0_5 = a1_5) = true := by simpa using c35))
                          (try (have c35b2 : (a0_5 == a1_5) = true := by simpa using c35))
                          clear c35
                          by_cases c36 : (a0_6 == a1_6) = true
                          · rw [if_pos c36] at H
                            have c36b0 : (a0_6 == a1_6) = true := c36
                            (try (have c36b1 : decide (a0_6 = a1_6) = true := by simpa using c36))
                            (try (have c36b2 : (a0_6 == a1_6) = true := by simpa using c36))
                            clear c36
                            obtain rfl := Option.some.inj H
                            have hnb37 := NB251_252.out
                            have hnc37 := NB252_251.out
                            have hcz38_0 : wr.cell? ⟨gb251, 0, none⟩ = some (.string a0_0) := (blk_cell BK251.out 0).trans rfl
                            have hcz38_1 : wr.cell? ⟨gb251, 1, none⟩ = some (.bool a0_1) := (blk_cell BK251.out 1).trans rfl
                            have hcz38_2 : wr.cell? ⟨gb251, 2, none⟩ = some (.bool a0_2) := (blk_cell BK251.out 2).trans rfl
                            have hcz38_3 : wr.cell? ⟨gb251, 3, none⟩ = some (.bool a0_3) := (blk_cell BK251.out 3).trans rfl
                            have hcz38_4 : wr.cell? ⟨gb251, 4, none⟩ = some (.bool a0_4) := (blk_cell BK251.out 4).trans rfl
                            have hcz38_5 : wr.cell? ⟨gb251, 5, none⟩ = some (.bool a0_5) := (blk_cell BK251.out 5).trans rfl
                            have hcz38_6 : wr.cell? ⟨gb251, 6, none⟩ = some (.bool a0_6) := (blk_cell BK251.out 6).trans rfl
                            have hcz38_7 : wr.cell? ⟨gb251, 7, none⟩ = some (.slice A0_7 l0_7.length c0_7) := (blk_cell BK251.out 7).trans rfl
                            have hcz38_8 : wr.cell? ⟨gb251, 8, none⟩ = some (.slice A0_8 l0_8.length c0_8) := (blk_cell BK251.out 8).trans rfl
                            have hcz38_9 : wr.cell? ⟨gb251, 9, none⟩ = some (.bool a0_9) := (blk_cell BK251.out 9).trans rfl
                            have hcz38_10 : wr.cell? ⟨gb251, 10, none⟩ = some (.slice A0_10 l0_10.length c0_10) := (blk_cell BK251.out 10).trans rfl
                            have hfz38_0 := blk_frozen BK251.out 0
                            have hfz38_1 := blk_frozen BK251.out 1
                            have hfz38_2 := blk_frozen BK251.out 2
                            have hfz38_3 := blk_frozen BK251.out 3
                            have hfz38_4 := blk_frozen BK251.out 4
                            have hfz38_5 := blk_frozen BK251.out 5
                            have hfz38_6 := blk_frozen BK251.out 6
                            have hfz38_7 := blk_frozen BK251.out 7
                            have hfz38_8 := blk_frozen BK251.out 8
                            have hfz38_9 := blk_frozen BK251.out 9
                            have hfz38_10 := blk_frozen BK251.out 10
                            have hcz39_0 : wr.cell? ⟨gb252, 0, none⟩ = some (.string a1_0) := (blk_cell BK252.out 0).trans rfl
                            have hcz39_1 : wr.cell? ⟨gb252, 1, none⟩ = some (.bool a1_1) := (blk_cell BK252.out 1).trans rfl
                            have hcz39_2 : wr.cell? ⟨gb252, 2, none⟩ = some (.bool a1_2) := (blk_cell BK252.out 2).trans rfl
                            have hcz39_3 : wr.cell? ⟨gb252, 3, none⟩ = some (.bool a1_3) := (blk_cell BK252.out 3).trans rfl
                            have hcz39_4 : wr.cell? ⟨gb252, 4, none⟩ = some (.bool a1_4) := (blk_cell BK252.out 4).trans rfl
                            have hcz39_5 : wr.cell? ⟨gb252, 5, none⟩ = some (.bool a1_5) := (blk_cell BK252.out 5).trans rfl
                            have hcz39_6 : wr.cell? ⟨gb252, 6, none⟩ = some (.bool a1_6) := (blk_cell BK252.out 6).trans rfl
                            have hcz39_7 : wr.cell? ⟨gb252, 7, none⟩ = some (.slice A1_7 l1_7.length c1_7) := (blk_cell BK252.out 7).trans rfl
                            have hcz39_8 : wr.cell? ⟨gb252, 8, none⟩ = some (.slice A1_8 l1_8.length c1_8) := (blk_cell BK252.out 8).trans rfl
                            have hcz39_9 : wr.cell? ⟨gb252, 9, none⟩ = some (.bool a1_9) := (blk_cell BK252.out 9).trans rfl
                            have hcz39_10 : wr.cell? ⟨gb252, 10, none⟩ = some (.slice A1_10 l1_10.length c1_10) := (blk_cell BK252.out 10).trans rfl
                            have hfz39_0 := blk_frozen BK252.out 0
                            have hfz39_1 := blk_frozen BK252.out 1
                            have hfz39_2 := blk_frozen BK252.out 2
                            have hfz39_3 := blk_frozen BK252.out 3
                            have hfz39_4 := blk_frozen BK252.out 4
                            have hfz39_5 := blk_frozen BK252.out 5
                            have hfz39_6 := blk_frozen BK252.out 6
                            have hfz39_7 := blk_frozen BK252.out 7
                            have hfz39_8 := blk_frozen BK252.out 8
                            have hfz39_9 := blk_frozen BK252.out 9
                            have hfz39_10 := blk_frozen BK252.out 10
                            go_wp2
                            repeat (go_quiet (fail); try go_wp2)
                            go_ret
                            exact ⟨by first | rfl | (simp [errW_none, errW_some] <;> rfl) | (simp [*, errW_none, errW_some] <;> rfl), by repeat (first | (with_reducible first | exact HB.out | apply below_alloc | apply pw_below_drewN | apply below_drew1 | refine below_set ?_ GE251.out | refine below_set ?_ GE252.out) | exact HB.out)⟩
                          · rw [if_neg c36] at H
                            have c36b0 : (a0_6 == a1_6) = false := by simpa using c36
                            (try (have c36b1 : decide (a0_6 = a1_6) = false := by simpa using c36))
                            (try (have c36b2 : (a0_6 == a1_6) = false := by simpa using c36))
                            (try (have c36b3 : ¬ (a0_6 = a1_6) := by simpa using c36))
                            clear c36
                            obtain rfl := Option.some.inj H
                            have hnb40 := NB251_252.out
                            have hnc40 := NB252_251.out
                            have hcz41_0 : wr.cell? ⟨gb251, 0, none⟩ = some (.string a0_0) := (blk_cell BK251.out 0).trans rfl
                            have hcz41_1 : wr.cell? ⟨gb251, 1, none⟩ = some (.bool a0_1) := (blk_cell BK251.out 1).trans rfl
                            have hcz41_2 : wr.cell? ⟨gb251, 2, none⟩ = some (.bool a0_2) := (blk_cell BK251.out 2).trans rfl
                            have hcz41_3 : wr.cell? ⟨gb251, 3, none⟩ = some (.bool a0_3) := (blk_cell BK251.out 3).trans rfl
                            have hcz41_4 : wr.cell? ⟨gb251, 4, none⟩ = some (.bool a0_4) := (blk_cell BK251.out 4).trans rfl
                            have hcz41_5 : wr.cell? ⟨gb251, 5, none⟩ = some (.bool a0_5) := (blk_cell BK251.out 5).trans rfl
                            have hcz41_6 : wr.cell? ⟨gb251, 6, none⟩ = some (.bool a0_6) := (blk_cell BK251.out 6).trans rfl
                            have hcz41_7 : wr.cell? ⟨gb251, 7, none⟩ = some (.slice A0_7 l0_7.length c0_7) := (blk_cell BK251.out 7).trans rfl
                            have hcz41_8 : wr.cell? ⟨gb251, 8, none⟩ = some (.slice A0_8 l0_8.length c0_8) := (blk_cell BK251.out 8).trans rfl
                            have hcz41_9 : wr.cell? ⟨gb251, 9, none⟩ = some (.bool a0_9) := (blk_cell BK251.out 9).trans rfl
                            have hcz41_10 : wr.cell? ⟨gb251, 10, none⟩ = some (.slice A0_10 l0_10.length c0_10) := (blk_cell BK251.out 10).trans rfl
                            have hfz41_0 := blk_frozen BK251.out 0
                            have hfz41_1 := blk_frozen BK251.out 1
                            have hfz41_2 := blk_frozen BK251.out 2
                            have hfz41_3 := blk_frozen BK251.out 3
                            have hfz41_4 := blk_frozen BK251.out 4
                            have hfz41_5 := blk_frozen BK251.out 5
                            have hfz41_6 := blk_frozen BK251.out 6
                            have hfz41_7 := blk_frozen BK251.out 7
                            have hfz41_8 := blk_frozen BK251.out 8
                            have hfz41_9 := blk_frozen BK251.out 9
                            have hfz41_10 := blk_frozen BK251.out 10
                            have hcz42_0 : wr.cell? ⟨gb252, 0, none⟩ = some (.string a1_0) := (blk_cell BK252.out 0).trans rfl
                            have hcz42_1 : wr.cell? ⟨gb252, 1, none⟩ = some (.bool a1_1) := (blk_cell BK252.out 1).trans rfl
                            have hcz42_2 : wr.cell? ⟨gb252, 2, none⟩ = some (.bool a1_2) := (blk_cell BK252.out 2).trans rfl
                            have hcz42_3 : wr.cell? ⟨gb252, 3, none⟩ = some (.bool a1_3) := (blk_cell BK252.out 3).trans rfl
                            have hcz42_4 : wr.cell? ⟨gb252, 4, none⟩ = some (.bool a1_4) := (blk_cell BK252.out 4).trans rfl
                            have hcz42_5 : wr.cell? ⟨gb252, 5, none⟩ = some (.bool a1_5) := (blk_cell BK252.out 5).trans rfl
                            have hcz42_6 : wr.cell? ⟨gb252, 6, none⟩ = some (.bool a1_6) := (blk_cell BK252.out 6).trans rfl
                            have hcz42_7 : wr.cell? ⟨gb252, 7, none⟩ = some (.slice A1_7 l1_7.length c1_7) := (blk_cell BK252.out 7).trans rfl
                            have hcz42_8 : wr.cell? ⟨gb252, 8, none⟩ = some (.slice A1_8 l1_8.length c1_8) := (blk_cell BK252.out 8).trans rfl
                            have hcz42_9 : wr.cell? ⟨gb252, 9, none⟩ = some (.bool a1_9) := (blk_cell BK252.out 9).trans rfl
                            have hcz42_10 : wr.cell? ⟨gb252, 10, none⟩ = some (.slice A1_10 l1_10.length c1_10) := (blk_cell BK252.out 10).trans rfl
                            have hfz42_0 := blk_frozen BK252.out 0
                            have hfz42_1 := blk_frozen BK252.out 1
                            have hfz42_2 := blk_frozen BK252.out 2
                            have hfz42_3 := blk_frozen BK252.out 3
                            have hfz42_4 := blk_frozen BK252.out 4
                            have hfz42_5 := blk_frozen BK252.out 5
                            have hfz42_6 := blk_frozen BK252.out 6
                            have hfz42_7 := blk_frozen BK252.out 7
                            have hfz42_8 := blk_frozen BK252.out 8
                            have hfz42_9 := blk_frozen BK252.out 9
                            have hfz42_10 := blk_frozen BK252.out 10
                            go_wp2
                            repeat (go_quiet (fail); try go_wp2)
                            go_ret
                            exact ⟨by first | rfl | (simp [errW_none, errW_some] <;> rfl) | (simp [*, errW_none, errW_some] <;> rfl), by repeat (first | (with_reducible first | exact HB.out | apply below_alloc | apply pw_below_drewN | apply below_drew1 | refine below_set ?_ GE251.out | refine below_set ?_ GE252.out) | exact HB.out)⟩
                        · rw [if_neg c35] at H
                          have c35b0 : (a0_5 == a1_5) = false := by simpa using c35
                          (try (have c35b1 : decide (a0_5 = a1_5) = false := by simpa using c35))
                          (try (have c35b2 : (a0_5 == a1_5) = false := by simpa using c35))
                          (try (have c35b3 : ¬ (a0_5 = a1_5) := by simpa using c35))
                          clear c35
                          obtain rfl := Option.some.inj H
                          have hnb43 := NB251_252.out
                          have hnc43 := NB252_251.out
                          have hcz44_0 : wr.cell? ⟨gb251, 0, none⟩ = some (.string a0_0) := (blk_cell BK251.out 0).trans rfl
                          have hcz44_1 : wr.cell? ⟨gb251, 1, none⟩ = some (.bool a0_1) := (blk_cell BK251.out 1).trans rfl
                          have hcz44_2 : wr.cell? ⟨gb251, 2, none⟩ = some (.bool a0_2) := (blk_cell BK251.out 2).trans rfl
                          have hcz44_3 : wr.cell? ⟨gb251, 3, none⟩ = some (.bool a0_3) := (blk_cell BK251.out 3).trans rfl
                          have hcz44_4 : wr.cell? ⟨gb251, 4, none⟩ = some (.bool a0_4) := (blk_cell BK251.out 4).trans rfl
                          have hcz44_5 : wr.cell? ⟨gb251, 5, none⟩ = some (.bool a0_5) := (blk_cell BK251.out 5).trans rfl
                          have hcz44_6 : wr.cell? ⟨gb251, 6, none⟩ = some (.bool a0_6) := (blk_cell BK251.out 6).trans rfl
                          have hcz44_7 : wr.cell? ⟨gb251, 7, none⟩ = some (.slice A0_7 l0_7.length c0_7) := (blk_cell BK251.out 7).trans rfl
                          have hcz44_8 : wr.cell? ⟨gb251, 8, none⟩ = some (.slice A0_8 l0_8.length c0_8) := (blk_cell BK251.out 8).trans rfl
                          have hcz44_9 : wr.cell? ⟨gb251, 9, none⟩ = some (.bool a0_9) := (blk_cell BK251.out 9).trans rfl
                          have hcz44_10 : wr.cell? ⟨gb251, 10, none⟩ = some (.slice A0_10 l0_10.length c0_10) := (blk_cell BK251.out 10).trans rfl
                          have hfz44_0 := blk_frozen BK251.out 0
                          have hfz44_1 := blk_frozen BK251.out 1
                          have hfz44_2 := blk_frozen BK251.out 2
                          have hfz44_3 := blk_frozen BK251.out 3
                          have hfz44_4 := blk_frozen BK251.out 4
                          have hfz44_5 := blk_frozen BK251.out 5
                          have hfz44_6 := blk_frozen BK251.out 6
                          have hfz44_7 := blk_frozen BK251.out 7
                          have hfz44_8 := blk_frozen BK251.out 8
                          have hfz44_9 := blk_frozen BK251.out 9
                          have hfz44_10 := blk_frozen BK251.out 10
                          have hcz45_0 : wr.cell? ⟨gb252, 0, none⟩ = some (.string a1_0) := (blk_cell BK252.out 0).trans rfl
                          have hcz45_1 : wr.cell? ⟨gb252, 1, none⟩ = some (.bool a1_1) := (blk_cell BK252.out 1).trans rfl
                          have hcz45_2 : wr.cell? ⟨gb252, 2, none⟩ = some (.bool a1_2) := (blk_cell BK252.out 2).trans rfl
                          have hcz45_3 : wr.cell? ⟨gb252, 3, none⟩ = some (.bool a1_3) := (blk_cell BK252.out 3).trans rfl
                          have hcz45_4 : wr.cell? ⟨gb252, 4, none⟩ = some (.bool a1_4) := (blk_cell BK252.out 4).trans rfl
                          have hcz45_5 : wr.cell? ⟨gb252, 5, none⟩ = some (.bool a1_5) := (blk_cell BK252.out 5).trans rfl
                          have hcz45_6 : wr.cell? ⟨gb252, 6, none⟩ = some (.bool a1_6) := (blk_cell BK252.out 6).trans rfl
                          have hcz45_7 : wr.cell? ⟨gb252, 7, none⟩ = some (.slice A1_7 l1_7.length c1_7) := (blk_cell BK252.out 7).trans rfl
                          have hcz45_8 : wr.cell? ⟨gb252, 8, none⟩ = some (.slice A1_8 l1_8.length c1_8) := (blk_cell BK252.out 8).trans rfl
                          have hcz45_9 : wr.cell? ⟨gb252, 9, none⟩ = some (.bool a1_9) := (blk_cell BK252.out 9).trans rfl
                          have hcz45_10 : wr.cell? ⟨gb252, 10, none⟩ = some (.slice A1_10 l1_10.length c1_10) := (blk_cell BK252.out 10).trans rfl
                          have hfz45_0 := blk_frozen BK252.out 0
                          have hfz45_1 := blk_frozen BK252.out 1
                          have hfz45_2 := blk_frozen BK252.out 2
                          have hfz45_3 := blk_frozen BK252.out 3
                          have hfz45_4 := blk_frozen BK252.out 4
                          have hfz45_5 := blk_frozen BK252.out 5
                          have hfz45_6 := blk_frozen BK252.out 6
                          have hfz45_7 := blk_frozen BK252.out 7
                          have hfz45_8 := blk_frozen BK252.out 8
                          have hfz45_9 := blk_frozen BK252.out 9
                          have hfz45_10 := blk_frozen BK252.out 10
                          go_wp2
                          repeat (go_quiet (fail); try go_wp2)
                          go_ret
                          exact ⟨by first | rfl | (simp [errW_none, errW_some] <;> rfl) | (simp [*, errW_none, errW_some] <;> rfl), by repeat (first | (with_reducible first | exact HB.out | apply below_alloc | apply pw_below_drewN | apply below_drew1 | refine below_set ?_ GE251.out | refine below_set ?_ GE252.out) | exact HB.out)⟩
                      · rw [if_neg c34] at H
                        have c34b0 : (a0_4 == a1_4) = false := by simpa using c34
                        (try (have c34b1 : decide (a0_4 = a1_4) = false := by simpa using c34))
                        (try (have c34b2 : (a0_4 == a1_4) = false := by simpa using c34))
                        (try (have c34b3 : ¬ (a0_4 = a1_4) := by simpa using c34))
                        clear c34
                        obtain rfl := Option.some.inj H
                        have hnb46 := NB251_252.out
                        have hnc46 := NB252_251.out
                        have hcz47_0 : wr.cell? ⟨gb251, 0, none⟩ = some (.string a0_0) := (blk_cell BK251.out 0).trans rfl
                        have hcz47_1 : wr.cell? ⟨gb251, 1, none⟩ = some (.bool a0_1) := (blk_cell BK251.out 1).trans rfl
                        have hcz47_2 : wr.cell? ⟨gb251, 2, none⟩ = some (.bool a0_2) := (blk_cell BK251.out 2).trans rfl
                        have hcz47_3 : wr.cell? ⟨gb251, 3, none⟩ = some (.bool a0_3) := (blk_cell BK251.out 3).trans rfl
                        have hcz47_4 : wr.cell? ⟨gb251, 4, none⟩ = some (.bool a0_4) := (blk_cell BK251.out 4).trans rfl
                        have hcz47_5 : wr.cell? ⟨gb251, 5, none⟩ = some (.bool a0_5) := (blk_cell BK251.out 5).trans rfl
                        have hcz47_6 : wr.cell? ⟨gb251, 6, none⟩ = some (.bool a0_6) := (blk_cell BK251.out 6).trans rfl
                        have hcz47_7 : wr.cell? ⟨gb251, 7, none⟩ = some (.slice A0_7 l0_7.length c0_7) := (blk_cell BK251.out 7).trans rfl
                        have hcz47_8 : wr.cell? ⟨gb251, 8, none⟩ = some (.slice A0_8 l0_8.length c0_8) := (blk_cell BK251.out 8).trans rfl
                        have hcz47_9 : wr.cell? ⟨gb251, 9, none⟩ = some (.bool a0_9) := (blk_cell BK251.out 9).trans rfl
                        have hcz47_10 : wr.cell? ⟨gb251, 10, none⟩ = some (.slice A0_10 l0_10.length c0_10) := (blk_cell BK251.out 10).trans rfl
                        have hfz47_0 := blk_frozen BK251.out 0
                        have hfz47_1 := blk_frozen BK251.out 1
                        have hfz47_2 := blk_frozen BK251.out 2
                        have hfz47_3 := blk_frozen BK251.out 3
                        have hfz47_4 := blk_frozen BK251.out 4
                        have hfz47_5 := blk_frozen BK251.out 5
                        have hfz47_6 := blk_frozen BK251.out 6
                        have hfz47_7 := blk_frozen BK251.out 7
                        have hfz47_8 := blk_frozen BK251.out 8
                        have hfz47_9 := blk_frozen BK251.out 9
                        have hfz47_10 := blk_frozen BK251.out 10
                        have hcz48_0 : wr.cell? ⟨gb252, 0, none⟩ = some (.string a1_0) := (blk_cell BK252.out 0).trans rfl
                        have hcz48_1 : wr.cell? ⟨gb252, 1, none⟩ = some (.bool a1_1) := (blk_cell BK252.out 1).trans rfl
                        have hcz48_2 : wr.cell? ⟨gb252, 2, none⟩ = some (.bool a1_2) := (blk_cell BK252.out 2).trans rfl
                        have hcz48_3 : wr.cell? ⟨gb252, 3, none⟩ = some (.bool a1_3) := (blk_cell BK252.out 3).trans rfl
                        have hcz48_4 : wr.cell? ⟨gb252, 4, none⟩ = some (.bool a1_4) := (blk_cell BK252.out 4).trans rfl
                        have hcz48_5 : wr.cell? ⟨gb252, 5, none⟩ = some (.bool a1_5) := (blk_cell BK252.out 5).trans rfl
                        have hcz48_6 : wr.cell? ⟨gb252, 6, none⟩ = some (.bool a1_6) := (blk_cell BK252.out 6).trans rfl
                        have hcz48_7 : wr.cell? ⟨gb252, 7, none⟩ = some (.slice A1_7 l1_7.length c1_7) := (blk_cell BK252.out 7).trans rfl
                        have hcz48_8 : wr.cell? ⟨gb252, 8, none⟩ = some (.slice A1_8 l1_8.length c1_8) := (blk_cell BK252.out 8).trans rfl
                        have hcz48_9 : wr.cell? ⟨gb252, 9, none⟩ = some (.bool a1_9) := (blk_cell BK252.out 9).trans rfl
                        have hcz48_10 : wr.cell? ⟨gb252, 10, none⟩ = some (.slice A1_10 l1_10.length c1_10) := (blk_cell BK252.out 10).trans rfl
                        have hfz48_0 := blk_frozen BK252.out 0
                        have hfz48_1 := blk_frozen BK252.out 1
                        have hfz48_2 := blk_frozen BK252.out 2
                        have hfz48_3 := blk_frozen BK252.out 3
                        have hfz48_4 := blk_frozen BK252.out 4
                        have hfz48_5 := blk_frozen BK252.out 5
                        have hfz48_6 := blk_frozen BK252.out 6
                        have hfz48_7 := blk_frozen BK252.out 7
                        have hfz48_8 := blk_frozen BK252.out 8
                        have hfz48_9 := blk_frozen BK252.out 9
                        have hfz48_10 := blk_frozen BK252.out 10
                        go_wp2
                        repeat (go_quiet (fail); try go_wp2)
                        go_ret
                        exact ⟨by first | rfl | (simp [errW_none, errW_some] <;> rfl) | (simp [*, errW_none, errW_some] <;> rfl), by repeat (first | (with_reducible first | exact HB.out | apply below_alloc | apply pw_below_drewN | apply below_drew1 | refine below_set ?_ GE251.out | refine below_set ?_ GE252.out) | exact HB.out)⟩
                    · rw [if_neg c33] at H
                      have c33b0 : (a0_3 == a1_3) = false := by simpa using c33
                      (try (have c33b1 : decide (a0_3 = a1_3) = false := by simpa using c33))
                      (try (have c33b2 : (a0_3 == a1_3) = false := by simpa using c33))
                      (try (have c33b3 : ¬ (a0_3 = a1_3) := by simpa using c33))
                      clear c33
                      obtain rfl := Option.some.inj H
                      have hnb49 := NB251_252.out
                      have hnc49 := NB252_251.out
                      have hcz50_0 : wr.cell? ⟨gb251, 0, none⟩ = some (.string a0_0) := (blk_cell BK251.out 0).trans rfl
                      have hcz50_1 : wr.cell? ⟨gb251, 1, none⟩ = some (.bool a0_1) := (blk_cell BK251.out 1).trans rfl
                      have hcz50_2 : wr.cell? ⟨gb251, 2, none⟩ = some (.bool a0_2) := (blk_cell BK251.out 2).trans rfl
                      have hcz50_3 : wr.cell? ⟨gb251, 3, none⟩ = some (.bool a0_3) := (blk_cell BK251.out 3).trans rfl
                      have hcz50_4 : wr.cell? ⟨gb251, 4, none⟩ = some (.bool a0_4) := (blk_cell BK251.out 4).trans rfl
                      have hcz50_5 : wr.cell? ⟨gb251, 5, none⟩ = some (.bool a0_5) := (blk_cell BK251.out 5).trans rfl
                      have hcz50_6 : wr.cell? ⟨gb251, 6, none⟩ = some (.bool a0_6) := (blk_cell BK251.out 6).trans rfl
                      have hcz50_7 : wr.cell? ⟨gb251, 7, none⟩ = some (.slice A0_7 l0_7.length c0_7) := (blk_cell BK251.out 7).trans rfl
                      have hcz50_8 : wr.cell? ⟨gb251, 8, none⟩ = some (.slice A0_8 l0_8.length c0_8) := (blk_cell BK251.out 8).trans rfl
                      have hcz50_9 : wr.cell? ⟨gb251, 9, none⟩ = some (.bool a0_9) := (blk_cell BK251.out 9).trans rfl
                      have hcz50_10 : wr.cell? ⟨gb251, 10, none⟩ = some (.slice A0_10 l0_10.length c0_10) := (blk_cell BK251.out 10).trans rfl
                      have hfz50_0 := blk_frozen BK251.out 0
                      have hfz50_1 := blk_frozen BK251.out 1
                      have hfz50_2 := blk_frozen BK251.out 2
                      have hfz50_3 := blk_frozen BK251.out 3
                      have hfz50_4 := blk_frozen BK251.out 4
                      have hfz50_5 := blk_frozen BK251.out 5
                      have hfz50_6 := blk_frozen BK251.out 6
                      have hfz50_7 := blk_frozen BK251.out 7
                      have hfz50_8 := blk_frozen BK251.out 8
                      have hfz50_9 := blk_frozen BK251.out 9
                      have hfz50_10 := blk_frozen BK251.out 10
                      have hcz51_0 : wr.cell? ⟨gb252, 0, none⟩ = some (.string a1_0) := (blk_cell BK252.out 0).trans rfl
                      have hcz51_1 : wr.cell? ⟨gb252, 1, none⟩ = some (.bool a1_1) := (blk_cell BK252.out 1).trans rfl
                      have hcz51_2 : wr.cell? ⟨gb252, 2, none⟩ = some (.bool a1_2) := (blk_cell BK252.out 2).trans rfl
                      have hcz51_3 : wr.cell? ⟨gb252, 3, none⟩ = some (.bool a1_3) := (blk_cell BK252.out 3).trans rfl
                      have hcz51_4 : wr.cell? ⟨gb252, 4, none⟩ = some (.bool a1_4) := (blk_cell BK252.out 4).trans rfl
                      have hcz51_5 : wr.cell? ⟨gb252, 5, none⟩ = some (.bool a1_5) := (blk_cell BK252.out 5).trans rfl
                      have hcz51_6 : wr.cell? ⟨gb252, 6, none⟩ = some (.bool a1_6) := (blk_cell BK252.out 6).trans rfl
                      have hcz51_7 : wr.cell? ⟨gb252, 7, none⟩ = some (.slice A1_7 l1_7.length c1_7) := (blk_cell BK252.out 7).trans rfl
                      have hcz51_8 : wr.cell? ⟨gb252, 8, none⟩ = some (.slice A1_8 l1_8.length c1_8) := (blk_cell BK252.out 8).trans rfl
                      have hcz51_9 : wr.cell? ⟨gb252, 9, none⟩ = some (.bool a1_9) := (blk_cell BK252.out 9).trans rfl
                      have hcz51_10 : wr.cell? ⟨gb252, 10, none⟩ = some (.slice A1_10 l1_10.length c1_10) := (blk_cell BK252.out 10).trans rfl
                      have hfz51_0 := blk_frozen BK252.out 0
                      have hfz51_1 := blk_frozen BK252.out 1
                      have hfz51_2 := blk_frozen BK252.out 2
                      have hfz51_3 := blk_frozen BK252.out 3
                      have hfz51_4 := blk_frozen BK252.out 4
                      have hfz51_5 := blk_frozen BK252.out 5
                      have hfz51_6 := blk_frozen BK252.out 6
                      have hfz51_7 := blk_frozen BK252.out 7
                      have hfz51_8 := blk_frozen BK252.out 8
                      have hfz51_9 := blk_frozen BK252.out 9
                      have hfz51_10 := blk_frozen BK252.out 10
                      go_wp2
                      repeat (go_quiet (fail); try go_wp2)
                      go_ret
                      exact ⟨by first | rfl | (simp [errW_none, errW_some] <;> rfl) | (simp [*, errW_none, errW_some] <;> rfl), by repeat (first | (with_reducible first | exact HB.out | apply below_alloc | apply pw_below_drewN | apply below_drew1 | refine below_set ?_ GE251.out | refine below_set ?_ GE252.out) | exact HB.out)⟩
                  · rw [if_neg c32] at H
                    have c32b0 : (a0_2 == a1_2) = false := by simpa using c32
                    (try (have c32b1 : decide (a0_2 = a1_2) = false := by simpa using c32))
                    (try (have c32b2 : (a0_2 == a1_2) = false := by simpa using c32))
                    (try (have c32b3 : ¬ (a0_2 = a1_2) := by simpa using c32))
                    clear c32
                    obtain rfl := Option.some.inj H
                    have hnb52 := NB251_252.out
                    have hnc52 := NB252_251.out
                    have hcz53_0 : wr.cell? ⟨gb251, 0, none⟩ = some (.string a0_0) := (blk_cell BK251.out 0).trans rfl
                    have hcz53_1 : wr.cell? ⟨gb251, 1, none⟩ = some (.bool a0_1) := (blk_cell BK251.out 1).trans rfl
                    have hcz53_2 : wr.cell? ⟨gb251, 2, none⟩ = some (.bool a0_2) := (blk_cell BK251.out 2).trans rfl
                    have hcz53_3 : wr.cell? ⟨gb251, 3, none⟩ = some (.bool a0_3) := (blk_cell BK251.out 3).trans rfl
                    have hcz53_4 : wr.cell? ⟨gb251, 4, none⟩ = some (.bool a0_4) := (blk_cell BK251.out 4).trans rfl
                    have hcz53_5 : wr.cell? ⟨gb251, 5, none⟩ = some (.bool a0_5) := (blk_cell BK251.out 5).trans rfl
                    have hcz53_6 : wr.cell? ⟨gb251, 6, none⟩ = some (.bool a0_6) := (blk_cell BK251.out 6).trans rfl
                    have hcz53_7 : wr.cell? ⟨gb251, 7, none⟩ = some (.slice A0_7 l0_7.length c0_7) := (blk_cell BK251.out 7).trans rfl
                    have hcz53_8 : wr.cell? ⟨gb251, 8, none⟩ = some (.slice A0_8 l0_8.length c0_8) := (blk_cell BK251.out 8).trans rfl
                    have hcz53_9 : wr.cell? ⟨gb251, 9, none⟩ = some (.bool a0_9) := (blk_cell BK251.out 9).trans rfl
                    have hcz53_10 : wr.cell? ⟨gb251, 10, none⟩ = some (.slice A0_10 l0_10.length c0_10) := (blk_cell BK251.out 10).trans rfl
                    have hfz53_0 := blk_frozen BK251.out 0
                    have hfz53_1 := blk_frozen BK251.out 1
                    have hfz53_2 := blk_frozen BK251.out 2
                    have hfz53_3 := blk_frozen BK251.out 3
                    have hfz53_4 := blk_frozen BK251.out 4
                    have hfz53_5 := blk_frozen BK251.out 5
                    have hfz53_6 := blk_frozen BK251.out 6
                    have hfz53_7 := blk_frozen BK251.out 7
                    have hfz53_8 := blk_frozen BK251.out 8
                    have hfz53_9 := blk_frozen BK251.out 9
                    have hfz53_10 := blk_frozen BK251.out 10
                    have hcz54_0 : wr.cell? ⟨gb252, 0, none⟩ = some (.string a1_0) := (blk_cell BK252.out 0).trans rfl
                    have hcz54_1 : wr.cell? ⟨gb252, 1, none⟩ = some (.bool a1_1) := (blk_cell BK252.out 1).trans rfl
                    have hcz54_2 : wr.cell? ⟨gb252, 2, none⟩ = some (.bool a1_2) := (blk_cell BK252.out 2).trans rfl
                    have hcz54_3 : wr.cell? ⟨gb252, 3, none⟩ = some (.bool a1_3) := (blk_cell BK252.out 3).trans rfl
                    have hcz54_4 : wr.cell? ⟨gb252, 4, none⟩ = some (.bool a1_4) := (blk_cell BK252.out 4).trans rfl
                    have hcz54_5 : wr.cell? ⟨gb252, 5, none⟩ = some (.bool a1_5) := (blk_cell BK252.out 5).trans rfl
                    have hcz54_6 : wr.cell? ⟨gb252, 6, none⟩ = some (.bool a1_6) := (blk_cell BK252.out 6).trans rfl
                    have hcz54_7 : wr.cell? ⟨gb252, 7, none⟩ = some (.slice A1_7 l1_7.length c1_7) := (blk_cell BK252.out 7).trans rfl
                    have hcz54_8 : wr.cell? ⟨gb252, 8, none⟩ = some (.slice A1_8 l1_8.length c1_8) := (blk_cell BK252.out 8).trans rfl
                    have hcz54_9 : wr.cell? ⟨gb252, 9, none⟩ = some (.bool a1_9) := (blk_cell BK252.out 9).trans rfl
                    have hcz54_10 : wr.cell? ⟨gb252, 10, none⟩ = some (.slice A1_10 l1_10.length c1_10) := (blk_cell BK252.out 10).trans rfl
                    have hfz54_0 := blk_frozen BK252.out 0
                    have hfz54_1 := blk_frozen BK252.out 1
                    have hfz54_2 := blk_frozen BK252.out 2
                    have hfz54_3 := blk_frozen BK252.out 3
                    have hfz54_4 := blk_frozen BK252.out 4
                    have hfz54_5 := blk_frozen BK252.out 5
                    have hfz54_6 := blk_frozen BK252.out 6
                    have hfz54_7 := blk_frozen BK252.out 7
                    have hfz54_8 := blk_frozen BK252.out 8
                    have hfz54_9 := blk_frozen BK252.out 9
                    have hfz54_10 := blk_frozen BK252.out 10
                    go_wp2
                    repeat (go_quiet (fail); try go_wp2)
                    go_ret
                    exact ⟨by first | rfl | (simp [errW_none, errW_some] <;> rfl) | (simp [*, errW_none, errW_some] <;> rfl), by repeat (first | (with_reducible first | exact HB.out | apply below_alloc | apply pw_below_drewN | apply below_drew1 | refine below_set ?_ GE251.out | refine below_set ?_ GE252.out) | exact HB.out)⟩
                · rw [if_neg c31] at H
                  have c31b0 : (a0_1 == a1_1) = false := by simpa using c31
                  (try (have c31b1 : decide (a0_1 = a1_1) = false := by simpa using c31))
                  (try (have c31b2 : (a0_1 == a1_1) = false := by simpa using c31))
                  (try (have c31b3 : ¬ (a0_1 = a1_1) := by simpa using c31))
                  clear c31
                  obtain rfl := Option.some.inj H
                  have hnb55 := NB251_252.out
                  have hnc55 := NB252_251.out
                  have hcz56_0 : wr.cell? ⟨gb251, 0, none⟩ = some (.string a0_0) := (blk_cell BK251.out 0).trans rfl
                  have hcz56_1 : wr.cell? ⟨gb251, 1, none⟩ = some (.bool a0_1) := (blk_cell BK251.out 1).trans rfl
                  have hcz56_2 : wr.cell? ⟨gb251, 2, none⟩ = some (.bool a0_2) := (blk_cell BK251.out 2).trans rfl
                  have hcz56_3 : wr.cell? ⟨gb251, 3, none⟩ = some (.bool a0_3) := (blk_cell BK251.out 3).trans rfl
                  have hcz56_4 : wr.cell? ⟨gb251, 4, none⟩ = some (.bool a0_4) := (blk_cell BK251.out 4).trans rfl
                  have hcz56_5 : wr.cell? ⟨gb251, 5, none⟩ = some (.bool a0_5) := (blk_cell BK251.out 5).trans rfl
                  have hcz56_6 : wr.cell? ⟨gb251, 6, none⟩ = some (.bool a0_6) := (blk_cell BK251.out 6).trans rfl
                  have hcz56_7 : wr.cell? ⟨gb251, 7, none⟩ = some (.slice A0_7 l0_7.length c0_7) := (blk_cell BK251.out 7).trans rfl
                  have hcz56_8 : wr.cell? ⟨gb251, 8, none⟩ = some (.slice A0_8 l0_8.length c0_8) := (blk_cell BK251.out 8).trans rfl
                  have hcz56_9 : wr.cell? ⟨gb251, 9, none⟩ = some (.bool a0_9) := (blk_cell BK251.out 9).trans rfl
                  have hcz56_10 : wr.cell? ⟨gb251, 10, none⟩ = some (.slice A0_10 l0_10.length c0_10) := (blk_cell BK251.out 10).trans rfl
                  have hfz56_0 := blk_frozen BK251.out 0
                  have hfz56_1 := blk_frozen BK251.out 1
                  have hfz56_2 := blk_frozen BK251.out 2
                  have hfz56_3 := blk_frozen BK251.out 3
                  have hfz56_4 := blk_frozen BK251.out 4
                  have hfz56_5 := blk_frozen BK251.out 5
                  have hfz56_6 := blk_frozen BK251.out 6
                  have hfz56_7 := blk_frozen BK251.out 7
                  have hfz56_8 := blk_frozen BK251.out 8
                  have hfz56_9 := blk_frozen BK251.out 9
                  have hfz56_10 := blk_frozen BK251.out 10
                  have hcz57_0 : wr.cell? ⟨gb252, 0, none⟩ = some (.string a1_0) := (blk_cell BK252.out 0).trans rfl
                  have hcz57_1 : wr.cell? ⟨gb252, 1, none⟩ = some (.bool a1_1) := (blk_cell BK252.out 1).trans rfl
                  have hcz57_2 : wr.cell? ⟨gb252, 2, none⟩ = some (.bool a1_2) := (blk_cell BK252.out 2).trans rfl
                  have hcz57_3 : wr.cell? ⟨gb252, 3, none⟩ = some (.bool a1_3) := (blk_cell BK252.out 3).trans rfl
                  have hcz57_4 : wr.cell? ⟨gb252, 4, none⟩ = some (.bool a1_4) := (blk_cell BK252.out 4).trans rfl
                  have hcz57_5 : wr.cell? ⟨gb252, 5, none⟩ = some (.bool a1_5) := (blk_cell BK252.out 5).trans rfl
                  have hcz57_6 : wr.cell? ⟨gb252, 6, none⟩ = some (.bool a1_6) := (blk_cell BK252.out 6).trans rfl
                  have hcz57_7 : wr.cell? ⟨gb252, 7, none⟩ = some (.slice A1_7 l1_7.length c1_7) := (blk_cell BK252.out 7).trans rfl
                  have hcz57_8 : wr.cell? ⟨gb252, 8, none⟩ = some (.slice A1_8 l1_8.length c1_8) := (blk_cell BK252.out 8).trans rfl
                  have hcz57_9 : wr.cell? ⟨gb252, 9, none⟩ = some (.bool a1_9) := (blk_cell BK252.out 9).trans rfl
                  have hcz57_10 : wr.cell? ⟨gb252, 10, none⟩ = some (.slice A1_10 l1_10.length c1_10) := (blk_cell BK252.out 10).trans rfl
                  have hfz57_0 := blk_frozen BK252.out 0
                  have hfz57_1 := blk_frozen BK252.out 1
                  have hfz57_2 := blk_frozen BK252.out 2
                  have hfz57_3 := blk_frozen BK252.out 3
                  have hfz57_4 := blk_frozen BK252.out 4
                  have hfz57_5 := blk_frozen BK252.out 5
                  have hfz57_6 := blk_frozen BK252.out 6
                  have hfz57_7 := blk_frozen BK252.out 7
                  have hfz57_8 := blk_frozen BK252.out 8
                  have hfz57_9 := blk_frozen BK252.out 9
                  have hfz57_10 := blk_frozen BK252.out 10
                  go_wp2
                  repeat (go_quiet (fail); try go_wp2)
                  go_ret
                  exact ⟨by first | rfl | (simp [errW_none, errW_some] <;> rfl) | (simp [*, errW_none, errW_some] <;> rfl), by repeat (first | (with_reducible first | exact HB.out | apply below_alloc | apply pw_below_drewN | apply below_drew1 | refine below_set ?_ GE251.out | refine below_set ?_ GE252.out) | exact HB.out)⟩
              · rw [if_neg c30] at H
                have c30b0 : (a0_0.toList == a1_0.toList) = false := beq_eq_false_iff_ne.mpr c30
                have c30b1 : (a0_0.toList != a1_0.toList) = true := bne_iff_ne.mpr c30
                obtain rfl := Option.some.inj H
                have hnb58 := NB251_252.out
                have hnc58 := NB252_251.out
                have hcz59_0 : wr.cell? ⟨gb251, 0, none⟩ = some (.string a0_0) := (blk_cell BK251.out 0).trans rfl
                have hcz59_1 : wr.cell? ⟨gb251, 1, none⟩ = some (.bool a0_1) := (blk_cell BK251.out 1).trans rfl
                have hcz59_2 : wr.cell? ⟨gb251, 2, none⟩ = some (.bool a0_2) := (blk_cell BK251.out 2).trans rfl
                have hcz59_3 : wr.cell? ⟨gb251, 3, none⟩ = some (.bool a0_3) := (blk_cell BK251.out 3).trans rfl
                have hcz59_4 : wr.cell? ⟨gb251, 4, none⟩ = some (.bool a0_4) := (blk_cell BK251.out 4).trans rfl
                have hcz59_5 : wr.cell? ⟨gb251, 5, none⟩ = some (.bool a0_5) := (blk_cell BK251.out 5).trans rfl
                have hcz59_6 : wr.cell? ⟨gb251, 6, none⟩ = some (.bool a0_6) := (blk_cell BK251.out 6).trans rfl
                have hcz59_7 : wr.cell? ⟨gb251, 7, none⟩ = some (.slice A0_7 l0_7.length c0_7) := (blk_cell BK251.out 7).trans rfl
                have hcz59_8 : wr.cell? ⟨gb251, 8, none⟩ = some (.slice A0_8 l0_8.length c0_8) := (blk_cell BK251.out 8).trans rfl
                have hcz59_9 : wr.cell? ⟨gb251, 9, none⟩ = some (.bool a0_9) := (blk_cell BK251.out 9).trans rfl
                have hcz59_10 : wr.cell? ⟨gb251, 10, none⟩ = some (.slice A0_10 l0_10.length c0_10) := (blk_cell BK251.out 10).trans rfl
                have hfz59_0 := blk_frozen BK251.out 0
                have hfz59_1 := blk_frozen BK251.out 1
                have hfz59_2 := blk_frozen BK251.out 2
                have hfz59_3 := blk_frozen BK251.out 3
                have hfz59_4 := blk_frozen BK251.out 4
                have hfz59_5 := blk_frozen BK251.out 5
                have hfz59_6 := blk_frozen BK251.out 6
                have hfz59_7 := blk_frozen BK251.out 7
                have hfz59_8 := blk_frozen BK251.out 8
                have hfz59_9 := blk_frozen BK251.out 9
                have hfz59_10 := blk_frozen BK251.out 10
                have hcz60_0 : wr.cell? ⟨gb252, 0, none⟩ = some (.string a1_0) := (blk_cell BK252.out 0).trans rfl
                have hcz60_1 : wr.cell? ⟨gb252, 1, none⟩ = some (.bool a1_1) := (blk_cell BK252.out 1).trans rfl
                have hcz60_2 : wr.cell? ⟨gb252, 2, none⟩ = some (.bool a1_2) := (blk_cell BK252.out 2).trans rfl
                have hcz60_3 : wr.cell? ⟨gb252, 3, none⟩ = some (.bool a1_3) := (blk_cell BK252.out 3).trans rfl
                have hcz60_4 : wr.cell? ⟨gb252, 4, none⟩ = some (.bool a1_4) := (blk_cell BK252.out 4).trans rfl
                have hcz60_5 : wr.cell? ⟨gb252, 5, none⟩ = some (.bool a1_5) := (blk_cell BK252.out 5).trans rfl
                have hcz60_6 : wr.cell? ⟨gb252, 6, none⟩ = some (.bool a1_6) := (blk_cell BK252.out 6).trans rfl
                have hcz60_7 : wr.cell? ⟨gb252, 7, none⟩ = some (.slice A1_7 l1_7.length c1_7) := (blk_cell BK252.out 7).trans rfl
                have hcz60_8 : wr.cell? ⟨gb252, 8, none⟩ = some (.slice A1_8 l1_8.length c1_8) := (blk_cell BK252.out 8).trans rfl
                have hcz60_9 : wr.cell? ⟨gb252, 9, none⟩ = some (.bool a1_9) := (blk_cell BK252.out 9).trans rfl
                have hcz60_10 : wr.cell? ⟨gb252, 10, none⟩ = some (.slice A1_10 l1_10.length c1_10) := (blk_cell BK252.out 10).trans rfl
                have hfz60_0 := blk_frozen BK252.out 0
                have hfz60_1 := blk_frozen BK252.out 1
                have hfz60_2 := blk_frozen BK252.out 2
                have hfz60_3 := blk_frozen BK252.out 3
                have hfz60_4 := blk_frozen BK252.out 4
                have hfz60_5 := blk_frozen BK252.out 5
                have hfz60_6 := blk_frozen BK252.out 6
                have hfz60_7 := blk_frozen BK252.out 7
                have hfz60_8 := blk_frozen BK252.out 8
                have hfz60_9 := blk_frozen BK252.out 9
                have hfz60_10 := blk_frozen BK252.out 10
                go_wp2
                repeat (go_quiet (fail); try go_wp2)
                go_ret
                exact ⟨by first | rfl | (simp [errW_none, errW_some] <;> rfl) | (simp [*, errW_none, errW_some] <;> rfl), by repeat (first | (with_reducible first | exact HB.out | apply below_alloc | apply pw_below_drewN | apply below_drew1 | refine below_set ?_ GE251.out | refine below_set ?_ GE252.out) | exact HB.out)⟩

end Go.Proofs.Ytkgbhlcbjflnlaa.P
