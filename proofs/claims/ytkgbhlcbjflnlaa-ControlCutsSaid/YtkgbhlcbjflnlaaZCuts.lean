/- Commands and settings: contracts by hand, and the laws over them. -/
import Derived.Test.YtkgbhlcbjflnlaaZOwn
import Derived.Test.YtkgbhlcbjflnlaaZCm
namespace Go.Proofs.Ytkgbhlcbjflnlaa.Fl
open Go Go.RowKit Go.Proofs.YtkgbhlcbjflnlaaW.PrintWords Go.Proofs.YtkgbhlcbjflnlaaW.PrintLast Go.Proofs.YtkgbhlcbjflnlaaW.PrintMore Go.Proofs.Ytkgbhlcbjflnlaa.Mth Go.Proofs.Ytkgbhlcbjflnlaa.P Go.Proofs.Ytkgbhlcbjflnlaa.Own Go.Proofs
set_option linter.unusedVariables false
set_option linter.unusedSimpArgs false
/-- What a command's bytes must be, so that no part of them is a command. -/
def CutP (C : Cfg) (s : ByteArray) : Prop := 0 < s.size ∧ s.size ≤ 4 ∧ (∀ k, k < s.size → appS C (s.extract 0 k) = (C, 1)) ∧ appS C (s ++ ⟨#[0]⟩) = (C, 1)
theorem cutp_rx (C : Cfg) (n : Nat) (on : Bool) : CutP C (rxB n on) := by
  obtain ⟨h, h1, h2⟩ := cuts_rx C n on
  exact ⟨by omega, by omega, fun k hk => h1 k (by omega), h2⟩
theorem cutp_vl (C : Cfg) (n : Nat) (on : Bool) : CutP C (vlanB n on) := by
  obtain ⟨h, h1, h2⟩ := cuts_vl C n on
  exact ⟨by omega, by omega, fun k hk => h1 k (by omega), h2⟩
theorem cutp_pr (C : Cfg) (n : Nat) : CutP C (pairsB n) := by
  obtain ⟨h, h1, h2⟩ := cuts_pr C n
  exact ⟨by omega, by omega, fun k hk => h1 k (by omega), h2⟩
set_option maxHeartbeats 16000000 in
set_option maxRecDepth 100000 in
theorem cuts_c (C0 : Cfg) (S : SlC) (O : Cm) (T : SlM) (cut : Int) (w : World) (h : CV w C0 S) : Calls Try.prog 5 #[.agg (cellsC C0 S), .agg (cellsM O T), .int .i64 cut] w fun e w' => e = .returned (.bool true) ∧ Below w.heap.size w w' := by
  obtain ⟨C, hC⟩ : ∃ x, boundC C0 = x := ⟨_, rfl⟩
  have NB : ∀ w, CV w C0 S → Calls Try.prog 9 #[.agg (cellsC C0 S)] w fun e w' => e = .returned (.agg (cellsC C S)) ∧ Below w.heap.size w w' := fun w h => by
    rw [← hC]
    exact bound_c C0 S w h
  have HV0 := Aside0.mk h
  have HV : Aside0 (CV w C S) := ⟨by rw [← hC]; exact h.bound⟩
  have HS : Aside0 (SmallC C) := ⟨by rw [← hC]; exact boundC_small C0⟩
  obtain ⟨n7, hn, ln⟩ := and_nat O.n 3 (by decide)
  obtain ⟨v7, hv, lv⟩ := and_nat O.v 12 (by decide)
  obtain ⟨p7, hp, lp⟩ := and_nat O.p 4 (by decide)
  obtain ⟨cu, hcu, lcu⟩ := and_nat cut 16 (by decide)
  have ln : n7 < 8 := ln
  have lv : v7 < 4096 := lv
  have lp : p7 < 16 := lp
  have lcu : cu < 65536 := lcu
  have NRX : ∀ w, Calls Try.prog 14 #[.int .i64 (n7 : Int), .bool O.on] w fun e w' => e = .returned (.string (rxB n7 O.on)) ∧ Below w.heap.size w w' := fun w => rx_cmd n7 O.on w (by omega)
  have NVL : ∀ w, Calls Try.prog 15 #[.int .i64 (v7 : Int), .bool O.on] w fun e w' => e = .returned (.string (vlanB v7 O.on)) ∧ Below w.heap.size w w' := fun w => vlan_cmd v7 O.on w (by omega)
  have NPR : ∀ w, Calls Try.prog 17 #[.int .i64 (p7 : Int)] w fun e w' => e = .returned (.string (pairsB p7)) ∧ Below w.heap.size w w' := fun w => pairs_cmd p7 w (by omega)
  obtain ⟨s0, e0⟩ : ∃ x, rxB n7 O.on = x := ⟨_, rfl⟩
  obtain ⟨s1, e1⟩ : ∃ x, vlanB v7 O.on = x := ⟨_, rfl⟩
  obtain ⟨s2, e2⟩ : ∃ x, pairsB p7 = x := ⟨_, rfl⟩
  have Q0 : Aside0 (CutP C s0) := ⟨by rw [← e0]; exact cutp_rx C n7 O.on⟩
  have Q1 : Aside0 (CutP C s1) := ⟨by rw [← e1]; exact cutp_vl C v7 O.on⟩
  have Q2 : Aside0 (CutP C s2) := ⟨by rw [← e2]; exact cutp_pr C p7⟩
  rw [e0] at NRX
  rw [e1] at NVL
  rw [e2] at NPR
  have LCU := Aside0.mk lcu
  have hn' : Go.bits .and .i64 O.n 7 = (n7 : Int) := hn
  have hv' : Go.bits .and .i64 O.v 4095 = (v7 : Int) := hv
  have hp' : Go.bits .and .i64 O.p 15 = (p7 : Int) := hp
  have hcu' : Go.bits .and .i64 cut 65535 = (cu : Int) := hcu
  have HCU := Aside0.mk hcu'
  clear h hC hn hv hp hcu ln lv lp lcu e0 e1 e2 hcu'
  have hu25 := Try.underlying25
  have hu27 := Try.underlying27
  have hu29 := Try.underlying29
  go_enter Try.func5, Try.ntmps5
  have hu37 := Try.underlying37
  have hu22 := Try.underlying22
  go_upto_region 1 with (fail)
  obtain ⟨w_1, hw_gc⟩ : ∃ w_, w.alloc (.cells #[.string C0.F.m, .bool C0.F.b1, .bool C0.F.b2, .bool C0.F.b3, .bool C0.F.b4, .bool C0.F.b5, .bool C0.F.b6, .slice S.S.A7 C0.F.us.length S.S.c7, .slice S.S.A8 C0.F.ms.length S.S.c8, .bool C0.F.b9, .slice S.S.A10 C0.F.vs.length S.S.c10, .int .i64 C0.p, .int .i64 C0.mx, .bool C0.on, .int .i64 C0.kn, .slice S.A C0.tab.length S.c, .string C0.key, .int .i64 C0.df] 29) = w_ := ⟨_, rfl⟩
  rw [hw_gc]
  obtain ⟨w_2, hw_go⟩ : ∃ w_, w_1.alloc (.cells #[.int .i64 O.n, .int .i64 O.v, .int .i64 O.p, .bool O.on, .slice T.A4 O.us.length T.c4, .slice T.A5 O.ms.length T.c5, .string O.m, .int .i64 O.kn, .slice T.A8 O.tab.length T.c8, .string O.key, .int .i64 O.df] 37) = w_ := ⟨_, rfl⟩
  rw [hw_go]
  have z_gc : w_1.heap.size = w.heap.size + 1 := by rw [← hw_gc]; simp
  have ha_ : Below w.heap.size w w_1 := by rw [← hw_gc]; exact below_alloc (Below.refl _ _) _
  have BX1 : Aside0 (w_1.heap[w.heap.size]? = some (.cells #[.string C0.F.m, .bool C0.F.b1, .bool C0.F.b2, .bool C0.F.b3, .bool C0.F.b4, .bool C0.F.b5, .bool C0.F.b6, .slice S.S.A7 C0.F.us.length S.S.c7, .slice S.S.A8 C0.F.ms.length S.S.c8, .bool C0.F.b9, .slice S.S.A10 C0.F.vs.length S.S.c10, .int .i64 C0.p, .int .i64 C0.mx, .bool C0.on, .int .i64 C0.kn, .slice S.A C0.tab.length S.c, .string C0.key, .int .i64 C0.df] 29 (0, 0))) := ⟨by rw [← hw_gc]; exact blk_new w _⟩
  have hgB : w.heap.size ≤ w.heap.size := ((Below.refl w.heap.size w)).size
  clear hw_gc
  obtain ⟨gc, hg_⟩ : ∃ g_, w.heap.size = g_ := ⟨_, rfl⟩
  have G_gc : Aside0 (w.heap.size ≤ gc) := ⟨Nat.le_trans hgB (Nat.le_of_eq hg_)⟩
  rw [hg_] at BX1 z_gc
  (try rw [hg_])
  clear hgB
  clear hg_
  have B3 := Aside0.mk (below_step (Below.refl w.heap.size w) ha_)
  clear ha_ 
  have z_go : w_2.heap.size = w_1.heap.size + 1 := by rw [← hw_go]; simp
  have ha_ : Below w_1.heap.size w_1 w_2 := by rw [← hw_go]; exact below_alloc (Below.refl _ _) _
  have BX2 : Aside0 (w_2.heap[w_1.heap.size]? = some (.cells #[.int .i64 O.n, .int .i64 O.v, .int .i64 O.p, .bool O.on, .slice T.A4 O.us.length T.c4, .slice T.A5 O.ms.length T.c5, .string O.m, .int .i64 O.kn, .slice T.A8 O.tab.length T.c8, .string O.key, .int .i64 O.df] 37 (0, 0))) := ⟨by rw [← hw_go]; exact blk_new w_1 _⟩
  have hgB : w.heap.size ≤ w_1.heap.size := (B3.out).size
  have hl_gc : gc < w_1.heap.size := blk_lt BX1.out
  clear hw_go
  obtain ⟨go, hg_⟩ : ∃ g_, w_1.heap.size = g_ := ⟨_, rfl⟩
  have G_go : Aside0 (w.heap.size ≤ go) := ⟨Nat.le_trans hgB (Nat.le_of_eq hg_)⟩
  rw [hg_] at BX2 z_go hl_gc
  have E_gc_go := Aside0.mk hl_gc
  clear hl_gc
  (try rw [hg_])
  clear hgB
  have zz_ : gc + 1 = go := by omega
  (try rw [zz_])
  clear zz_
  clear hg_
  have B4 := Aside0.mk (below_step B3.out ha_)
  have K4_gc := Aside0.mk (blk_below BX1.out ha_)
  clear ha_ B3 BX1
  clear z_gc z_go
  go_wp2_with (refine wpList_load_row rfl 29 (.tmp 3) rfl gc rfl 29 #[.string C0.F.m, .bool C0.F.b1, .bool C0.F.b2, .bool C0.F.b3, .bool C0.F.b4, .bool C0.F.b5, .bool C0.F.b6, .slice S.S.A7 C0.F.us.length S.S.c7, .slice S.S.A8 C0.F.ms.length S.S.c8, .bool C0.F.b9, .slice S.S.A10 C0.F.vs.length S.S.c10, .int .i64 C0.p, .int .i64 C0.mx, .bool C0.on, .int .i64 C0.kn, .slice S.A C0.tab.length S.c, .string C0.key, .int .i64 C0.df] (0, 0) _ K4_gc.out Try.underlying29 rfl (by kernel_rfl) ?_)
  refine (NB _ (HV0.out.below B4.out)).mono ?_
  rintro e wb ⟨rfl, hb_⟩
  have B5 := Aside0.mk (below_step B4.out hb_)
  have K5_gc := Aside0.mk (blk_below K4_gc.out hb_)
  have K5_go := Aside0.mk (blk_below BX2.out hb_)
  clear hb_ B4 K4_gc BX2
  go_upto_region 2 with (refine wpList_store_row rfl 29 (.tmp 3) (.tmp 14) rfl gc #[.string C.F.m, .bool C.F.b1, .bool C.F.b2, .bool C.F.b3, .bool C.F.b4, .bool C.F.b5, .bool C.F.b6, .slice S.S.A7 C.F.us.length S.S.c7, .slice S.S.A8 C.F.ms.length S.S.c8, .bool C.F.b9, .slice S.S.A10 C.F.vs.length S.S.c10, .int .i64 C.p, .int .i64 C.mx, .bool C.on, .int .i64 C.kn, .slice S.A C.tab.length S.c, .string C.key, .int .i64 C.df] rfl rfl 29 #[.string C0.F.m, .bool C0.F.b1, .bool C0.F.b2, .bool C0.F.b3, .bool C0.F.b4, .bool C0.F.b5, .bool C0.F.b6, .slice S.S.A7 C0.F.us.length S.S.c7, .slice S.S.A8 C0.F.ms.length S.S.c8, .bool C0.F.b9, .slice S.S.A10 C0.F.vs.length S.S.c10, .int .i64 C0.p, .int .i64 C0.mx, .bool C0.on, .int .i64 C0.kn, .slice S.A C0.tab.length S.c, .string C0.key, .int .i64 C0.df] K5_gc.out (by kernel_rfl) rfl (by kernel_rfl) ?_)
  obtain ⟨w_6, hw_⟩ : ∃ w_, wb.setRow gc #[.string C.F.m, .bool C.F.b1, .bool C.F.b2, .bool C.F.b3, .bool C.F.b4, .bool C.F.b5, .bool C.F.b6, .slice S.S.A7 C.F.us.length S.S.c7, .slice S.S.A8 C.F.ms.length S.S.c8, .bool C.F.b9, .slice S.S.A10 C.F.vs.length S.S.c10, .int .i64 C.p, .int .i64 C.mx, .bool C.on, .int .i64 C.kn, .slice S.A C.tab.length S.c, .string C.key, .int .i64 C.df] = w_ := ⟨_, rfl⟩
  have hu_ : Upd wb w_6 (fun k => k = gc) := by rw [← hw_]; exact Upd.setRow (Upd.refl wb (fun k => k = gc)) (.inl rfl) _
  have kf_ : w_6.heap[gc]? = some (.cells #[.string C.F.m, .bool C.F.b1, .bool C.F.b2, .bool C.F.b3, .bool C.F.b4, .bool C.F.b5, .bool C.F.b6, .slice S.S.A7 C.F.us.length S.S.c7, .slice S.S.A8 C.F.ms.length S.S.c8, .bool C.F.b9, .slice S.S.A10 C.F.vs.length S.S.c10, .int .i64 C.p, .int .i64 C.mx, .bool C.on, .int .i64 C.kn, .slice S.A C.tab.length S.c, .string C.key, .int .i64 C.df] 29 (0, 0)) := by rw [← hw_]; exact setRow_heap wb gc _ #[.string C.F.m, .bool C.F.b1, .bool C.F.b2, .bool C.F.b3, .bool C.F.b4, .bool C.F.b5, .bool C.F.b6, .slice S.S.A7 C.F.us.length S.S.c7, .slice S.S.A8 C.F.ms.length S.S.c8, .bool C.F.b9, .slice S.S.A10 C.F.vs.length S.S.c10, .int .i64 C.p, .int .i64 C.mx, .bool C.on, .int .i64 C.kn, .slice S.A C.tab.length S.c, .string C.key, .int .i64 C.df] 29 (0, 0) K5_gc.out
  rw [hw_]
  clear hw_
  have K7_gc := Aside0.mk (kf_)
  have B7 := Aside0.mk (B5.out.trans (hu_.toBelow (B := w.heap.size) (fun k hk => by rw [hk]; exact G_gc.out) (B5.out).size))
  have K7_go := Aside0.mk (hu_.blk K5_go.out (by have := E_gc_go.out; omega))
  clear hu_ B5 K5_go K5_gc
  clear kf_
  refine start_ (n := 18) (S := fun w' => w'.cell? ⟨go, 0, none⟩ = some (.int .i64 O.n) ∧ w'.cell? ⟨go, 1, none⟩ = some (.int .i64 O.v) ∧ w'.cell? ⟨go, 2, none⟩ = some (.int .i64 O.p) ∧ w'.cell? ⟨go, 3, none⟩ = some (.bool O.on) ∧ Below w_6.heap.size w_6 w') (ds := []) #[false, false, false, false, false, false, false, false, false, false, false, false, false, false, false, false, false, false] (by kernel_rfl) rfl rfl ⟨(blk_cell K7_go.out 0).trans rfl, (blk_cell K7_go.out 1).trans rfl, (blk_cell K7_go.out 2).trans rfl, (blk_cell K7_go.out 3).trans rfl, below_drew1 (Below.refl _ _)⟩ (fun hHeld => ?_)
  refine pure_ (i := 0) (N := some 15) (v := ?_) (a' := ?_) #[true, false, false, false, false, false, false, false, false, false, false, false, false, false, false, false, false, false] rfl rfl (by kernel_rfl) (fun _ _ _ h => h) (Or.inl ⟨by rfl, ?_⟩) ?_ ?_
  rotate_left
  · intro w'
    go_simp
    with_reducible rfl
  rotate_left
  · simp only [Act.put, List.setIfInBounds_toArray, List.set_cons_zero, List.set_cons_succ, i64_w, i32_w]
    rfl
  refine pure_ (i := 3) (N := some 18) (v := ?_) (a' := ?_) #[true, false, false, true, false, false, false, false, false, false, false, false, false, false, false, false, false, false] rfl rfl (by kernel_rfl) (fun _ _ _ h => h) (Or.inl ⟨by rfl, ?_⟩) ?_ ?_
  rotate_left
  · intro w'
    go_simp
    with_reducible rfl
  rotate_left
  · simp only [Act.put, List.setIfInBounds_toArray, List.set_cons_zero, List.set_cons_succ, i64_w, i32_w]
    rfl
  refine pure_ (i := 6) (N := some 21) (v := ?_) (a' := ?_) #[true, false, false, true, false, false, true, false, false, false, false, false, false, false, false, false, false, false] rfl rfl (by kernel_rfl) (fun _ _ _ h => h) (Or.inl ⟨by rfl, ?_⟩) ?_ ?_
  rotate_left
  · intro w'
    go_simp
    with_reducible rfl
  rotate_left
  · simp only [Act.put, List.setIfInBounds_toArray, List.set_cons_zero, List.set_cons_succ, i64_w, i32_w]
    rfl
  refine pure_ (i := 9) (N := some 24) (v := ?_) (a' := ?_) #[true, false, false, true, false, false, true, false, false, true, false, false, false, false, false, false, false, false] rfl rfl (by kernel_rfl) (fun _ _ _ h => h) (Or.inl ⟨by rfl, ?_⟩) ?_ ?_
  rotate_left
  · intro w'
    go_simp
    with_reducible rfl
  rotate_left
  · simp only [Act.put, List.setIfInBounds_toArray, List.set_cons_zero, List.set_cons_succ, i64_w, i32_w]
    rfl
  refine pure_ (i := 12) (N := some 27) (v := ?_) (a' := ?_) #[true, false, false, true, false, false, true, false, false, true, false, false, true, false, false, false, false, false] rfl rfl (by kernel_rfl) (fun _ _ _ h => h) (Or.inl ⟨by rfl, ?_⟩) ?_ ?_
  rotate_left
  · intro w'
    go_simp
    with_reducible rfl
  rotate_left
  · simp only [Act.put, List.setIfInBounds_toArray, List.set_cons_zero, List.set_cons_succ, i64_w, i32_w]
    rfl
  refine take_ (i := 1) (N := some 16) (v := ?_) (a' := ?_) #[true, true, false, true, false, false, true, false, false, true, false, false, true, false, false, false, false, false] rfl rfl (by kernel_rfl) (fun _ _ _ h => h) (Or.inl ⟨by rfl, ?_⟩) hHeld ?_ ?_
  rotate_left
  · rintro w' ⟨s0, s1, s2, s3, s4⟩
    go_simp
    with_reducible rfl
  rotate_left
  · simp only [Act.put, List.setIfInBounds_toArray, List.set_cons_zero, List.set_cons_succ, i64_w, i32_w]
    rfl
  refine pure_ (i := 2) (N := some 17) (v := ?_) (a' := ?_) #[true, true, true, true, false, false, true, false, false, true, false, false, true, false, false, false, false, false] rfl rfl (by kernel_rfl) (fun _ _ _ h => h) (Or.inl ⟨by rfl, ?_⟩) ?_ ?_
  rotate_left
  · intro w'
    go_simp
    with_reducible rfl
  rotate_left
  · simp only [Act.put, List.setIfInBounds_toArray, List.set_cons_zero, List.set_cons_succ, i64_w, i32_w]
    rfl
  refine take_ (i := 4) (N := some 19) (v := ?_) (a' := ?_) #[true, true, true, true, true, false, true, false, false, true, false, false, true, false, false, false, false, false] rfl rfl (by kernel_rfl) (fun _ _ _ h => h) (Or.inl ⟨by rfl, ?_⟩) hHeld ?_ ?_
  rotate_left
  · rintro w' ⟨s0, s1, s2, s3, s4⟩
    go_simp
    with_reducible rfl
  rotate_left
  · simp only [Act.put, List.setIfInBounds_toArray, List.set_cons_zero, List.set_cons_succ, i64_w, i32_w]
    rfl
  refine take_ (i := 7) (N := some 22) (v := ?_) (a' := ?_) #[true, true, true, true, true, false, true, true, false, true, false, false, true, false, false, false, false, false] rfl rfl (by kernel_rfl) (fun _ _ _ h => h) (Or.inl ⟨by rfl, ?_⟩) hHeld ?_ ?_
  rotate_left
  · rintro w' ⟨s0, s1, s2, s3, s4⟩
    go_simp
    with_reducible rfl
  rotate_left
  · simp only [Act.put, List.setIfInBounds_toArray, List.set_cons_zero, List.set_cons_succ, i64_w, i32_w]
    rfl
  refine pure_ (i := 8) (N := some 23) (v := ?_) (a' := ?_) #[true, true, true, true, true, false, true, true, true, true, false, false, true, false, false, false, false, false] rfl rfl (by kernel_rfl) (fun _ _ _ h => h) (Or.inl ⟨by rfl, ?_⟩) ?_ ?_
  rotate_left
  · intro w'
    go_simp
    with_reducible rfl
  rotate_left
  · simp only [Act.put, List.setIfInBounds_toArray, List.set_cons_zero, List.set_cons_succ, i64_w, i32_w]
    rfl
  refine take_ (i := 10) (N := some 25) (v := ?_) (a' := ?_) #[true, true, true, true, true, false, true, true, true, true, true, false, true, false, false, false, false, false] rfl rfl (by kernel_rfl) (fun _ _ _ h => h) (Or.inl ⟨by rfl, ?_⟩) hHeld ?_ ?_
  rotate_left
  · rintro w' ⟨s0, s1, s2, s3, s4⟩
    go_simp
    with_reducible rfl
  rotate_left
  · simp only [Act.put, List.setIfInBounds_toArray, List.set_cons_zero, List.set_cons_succ, i64_w, i32_w]
    rfl
  refine take_ (i := 13) (N := some 28) (v := ?_) (a' := ?_) #[true, true, true, true, true, false, true, true, true, true, true, false, true, true, false, false, false, false] rfl rfl (by kernel_rfl) (fun _ _ _ h => h) (Or.inl ⟨by rfl, ?_⟩) hHeld ?_ ?_
  rotate_left
  · rintro w' ⟨s0, s1, s2, s3, s4⟩
    go_simp
    with_reducible rfl
  rotate_left
  · simp only [Act.put, List.setIfInBounds_toArray, List.set_cons_zero, List.set_cons_succ, i64_w, i32_w]
    rfl
  refine pure_ (i := 14) (N := some 29) (v := ?_) (a' := ?_) #[true, true, true, true, true, false, true, true, true, true, true, false, true, true, true, false, false, false] rfl rfl (by kernel_rfl) (fun _ _ _ h => h) (Or.inl ⟨by rfl, ?_⟩) ?_ ?_
  rotate_left
  · intro w'
    go_simp
    with_reducible rfl
  rotate_left
  · simp only [Act.put, List.setIfInBounds_toArray, List.set_cons_zero, List.set_cons_succ, i64_w, i32_w]
    rfl
  refine one_ (i := 5) (N := some 20) #[true, true, true, true, true, true, true, true, true, true, true, false, true, true, true, false, false, false] rfl rfl (by kernel_rfl) (by decide) (fun K hK => ?_)
  refine goes_ Try.func14 (by kernel_rfl) rfl #[.int .i64 (n7 : Int), .bool O.on] (by rfl) rfl rfl (by simp only [List.map_toArray, List.map_cons, List.map_nil]; rfl) ?_
  with_reducible refine (NRX _).mono ?_
  rintro e wr ⟨rfl, hc⟩
  refine ⟨_, rfl, ?_⟩
  have Hwr := Aside0.mk hc
  clear hc
  refine hK.out _ _ ⟨pw_cell_below Hwr.out hHeld.1, pw_cell_below Hwr.out hHeld.2.1, pw_cell_below Hwr.out hHeld.2.2.1, pw_cell_below Hwr.out hHeld.2.2.2.1, below_step hHeld.2.2.2.2 Hwr.out⟩ (fun hHeld => ?_)
  clear hK K
  refine norm_ (a' := ?_) ?_ ?_
  rotate_left
  · show Act.put _ (some 20) _ = _
    simp only [Act.put, List.setIfInBounds_toArray, List.set_cons_zero, List.set_cons_succ, i64_w, i32_w]
    rfl
  refine one_ (i := 11) (N := some 26) #[true, true, true, true, true, true, true, true, true, true, true, true, true, true, true, false, false, false] rfl rfl (by kernel_rfl) (by decide) (fun K hK => ?_)
  refine goes_ Try.func15 (by kernel_rfl) rfl #[.int .i64 (v7 : Int), .bool O.on] (by rfl) rfl rfl (by simp only [List.map_toArray, List.map_cons, List.map_nil]; rfl) ?_
  with_reducible refine (NVL _).mono ?_
  rintro e wv ⟨rfl, hc⟩
  refine ⟨_, rfl, ?_⟩
  have Hwv := Aside0.mk hc
  clear hc
  refine hK.out _ _ ⟨pw_cell_below Hwv.out hHeld.1, pw_cell_below Hwv.out hHeld.2.1, pw_cell_below Hwv.out hHeld.2.2.1, pw_cell_below Hwv.out hHeld.2.2.2.1, below_step hHeld.2.2.2.2 Hwv.out⟩ (fun hHeld => ?_)
  clear hK K
  refine norm_ (a' := ?_) ?_ ?_
  rotate_left
  · show Act.put _ (some 26) _ = _
    simp only [Act.put, List.setIfInBounds_toArray, List.set_cons_zero, List.set_cons_succ, i64_w, i32_w]
    rfl
  refine one_ (i := 15) (N := some 30) #[true, true, true, true, true, true, true, true, true, true, true, true, true, true, true, true, false, false] rfl rfl (by kernel_rfl) (by decide) (fun K hK => ?_)
  refine goes_ Try.func17 (by kernel_rfl) rfl #[.int .i64 (p7 : Int)] (by rfl) rfl rfl (by simp only [List.map_toArray, List.map_cons, List.map_nil]; rfl) ?_
  with_reducible refine (NPR _).mono ?_
  rintro e wp ⟨rfl, hc⟩
  refine ⟨_, rfl, ?_⟩
  have Hwp := Aside0.mk hc
  clear hc
  refine hK.out _ _ ⟨pw_cell_below Hwp.out hHeld.1, pw_cell_below Hwp.out hHeld.2.1, pw_cell_below Hwp.out hHeld.2.2.1, pw_cell_below Hwp.out hHeld.2.2.2.1, below_step hHeld.2.2.2.2 Hwp.out⟩ (fun hHeld => ?_)
  clear hK K
  refine norm_ (a' := ?_) ?_ ?_
  rotate_left
  · show Act.put _ (some 30) _ = _
    simp only [Act.put, List.setIfInBounds_toArray, List.set_cons_zero, List.set_cons_succ, i64_w, i32_w]
    rfl
  refine one_ (i := 16) (N := some 31) #[true, true, true, true, true, true, true, true, true, true, true, true, true, true, true, true, true, false] rfl rfl (by kernel_rfl) (by decide) (fun K hK => ?_)
  refine value_ (w1 := ?_) (v := ?_) (by rfl) rfl ?_ ?_
  rotate_left 2
  · go_simp
    constructor
    · rfl
    · rfl
  have HBP := Aside0.mk (hHeld.2.2.2.2)
  refine hK.out _ _ ⟨pw_cell_below (below_alloc (Below.refl _ _) (.cells #[.string s0, .string s1, .string s2] 9)) hHeld.1, pw_cell_below (below_alloc (Below.refl _ _) (.cells #[.string s0, .string s1, .string s2] 9)) hHeld.2.1, pw_cell_below (below_alloc (Below.refl _ _) (.cells #[.string s0, .string s1, .string s2] 9)) hHeld.2.2.1, pw_cell_below (below_alloc (Below.refl _ _) (.cells #[.string s0, .string s1, .string s2] 9)) hHeld.2.2.2.1, below_step hHeld.2.2.2.2 (below_alloc (Below.refl _ _) (.cells #[.string s0, .string s1, .string s2] 9))⟩ (fun hHeld => ?_)
  clear hK K
  refine norm_ (a' := ?_) ?_ ?_
  rotate_left
  · show Act.put _ (some 31) _ = _
    simp only [Act.put, List.setIfInBounds_toArray, List.set_cons_zero, List.set_cons_succ, i64_w, i32_w]
    rfl
  refine pure_ (i := 17) (N := some 7) (v := ?_) (a' := ?_) #[true, true, true, true, true, true, true, true, true, true, true, true, true, true, true, true, true, true] rfl rfl (by kernel_rfl) (fun _ _ _ h => h) (Or.inl ⟨by rfl, ?_⟩) ?_ ?_
  rotate_left
  · intro w'
    go_simp
    with_reducible rfl
  rotate_left
  · simp only [Act.put, List.setIfInBounds_toArray, List.set_cons_zero, List.set_cons_succ, i64_w, i32_w]
    rfl
  refine done_ (by kernel_rfl) ?_
  clear Hwr Hwv Hwp
  have hb_ := below_step HBP.out (below_alloc (Below.refl _ _) (.cells #[.string s0, .string s1, .string s2] 9))
  have hge_ := HBP.out.size
  have hblk_ := blk_new wp (.cells #[.string s0, .string s1, .string s2] 9)
  obtain ⟨wl, hw_⟩ : ∃ x, wp.alloc (.cells #[.string s0, .string s1, .string s2] 9) = x := ⟨_, rfl⟩
  rw [hw_] at hb_ hblk_ ⊢
  clear hw_
  obtain ⟨gl, hg_⟩ : ∃ x, wp.heap.size = x := ⟨_, rfl⟩
  rw [hg_] at hge_ hblk_ ⊢
  clear hg_ HBP hn' hv' hp'
  clear NRX NVL NPR
  have E_gc_gl := Aside0.mk (Nat.lt_of_lt_of_le (blk_lt K7_gc.out) hge_)
  have E_go_gl := Aside0.mk (Nat.lt_of_lt_of_le (blk_lt K7_go.out) hge_)
  have G_gl := Aside0.mk (Nat.le_trans (B7.out).size hge_)
  have BX_gl := Aside0.mk hblk_
  have B8 := Aside0.mk (below_step B7.out hb_)
  have K8_gc := Aside0.mk (blk_below K7_gc.out hb_)
  have K8_go := Aside0.mk (blk_below K7_go.out hb_)
  clear hb_ B7 K7_gc K7_go
  clear hblk_ hge_
  obtain ⟨ad, had⟩ : ∃ x, x = (⟨gl, 0, none⟩ : Addr) := ⟨_, rfl⟩
  rw [← had]
  have NEX : ∀ i : Nat, i < 3 → ∃ s, CutP C s ∧ ∀ w', Below wl.heap.size wl w' → w'.cell? (ad.add i) = some (.string s) := by
    intro i hi
    have hc : ∀ w', Below wl.heap.size wl w' → ∀ j, w'.cell? ⟨gl, j, none⟩ = #[(.string s0 : Value), .string s1, .string s2][j]? := fun w' hb j => blk_cell (blk_below BX_gl.out hb) j
    have e : ∀ i, ad.add i = ⟨gl, i, none⟩ := fun i => by rw [had, addr_add, Nat.zero_add]
    match i, hi with
    | 0, _ => exact ⟨s0, Q0.out, fun w' hb => by rw [e]; exact (hc w' hb 0).trans rfl⟩
    | 1, _ => exact ⟨s1, Q1.out, fun w' hb => by rw [e]; exact (hc w' hb 1).trans rfl⟩
    | 2, _ => exact ⟨s2, Q2.out, fun w' hb => by rw [e]; exact (hc w' hb 2).trans rfl⟩
  clear had Q0 Q1 Q2
  go_wp2_with fail

  have HVL := Aside0.mk (HV.out.below B8.out)
  go_loopg [8] 3 (fun gk v8 w' => ∃ i : Nat, v8 = .int .i64 (i : Int) ∧ Aside0 (i + gk = 3) ∧ Aside0 (Below wl.heap.size wl w'))
  case atStart => exact ⟨0, rfl, ⟨rfl⟩, ⟨Below.refl _ _⟩⟩
  case round =>
    obtain ⟨i, rfl, hk, hL⟩ := hrel
    have hkk := hk.out
    have BW := Aside0.mk (below_step B8.out hL.out)
    have KC := Aside0.mk (blk_below K8_gc.out hL.out)
    have wi : IntKind.i64.wrap ((i : Int) + 1) = ((i + 1 : Nat) : Int) := by rw [IntKind.wrap_i64]; omega
    by_cases hc : i < 3
    · have c1 : decide ((i : Int) < 3) = true := decide_eq_true (by omega)
      have c2 : decide (0 ≤ (i : Int)) = true := decide_eq_true (by omega)
      have c3 : (0 ≤ (i : Int)) = True := eq_true (by omega)
      have c4 : ((i : Int) < 3) = True := eq_true (by omega)
      have c5 : (i < 3) = True := eq_true hc
      obtain ⟨ki, rfl⟩ : ∃ m, gk = m + 1 := ⟨gk - 1, by omega⟩
      obtain ⟨s, hs, hcl⟩ := NEX i hc
      have HS4 := Aside0.mk hs
      obtain ⟨hz, h4, hcut, hmore⟩ := hs
      have hcl0 := hcl wr hL.out
      have he : s.toList.isEmpty = false := by
        cases q : s.toList.isEmpty
        · rfl
        · have := rest_nil q; omega
      have HCL := Aside0.mk hcl
      have hkc := hk.out
      clear hcl
      obtain ⟨k, hkd⟩ : ∃ k, cu % s.size = k := ⟨_, rfl⟩
      have hks : k < s.size := by rw [← hkd]; exact Nat.mod_lt _ hz
      have PC := Aside0.mk (hcut k hks)
      have PM := Aside0.mk hmore
      have ht : Int.tmod (cu : Int) (s.size : Int) = (k : Int) := by rw [Int.tmod_eq_emod_of_nonneg (by omega), ← hkd]; exact (Int.natCast_emod _ _).symm
      have HT := Aside0.mk ht
      have z1 : ((s.size : Int) == 0) = false := beq_eq_false_iff_ne.2 (by omega)
      have z2 : ((s.size : Int) = 0) = False := eq_false (by omega)
      have z3 : (s.size = 0) = False := eq_false (by omega)
      have z4 : decide ((k : Int) ≤ (s.size : Int)) = true := decide_eq_true (by omega)
      have z5 : ((k : Int) ≤ (s.size : Int)) = True := eq_true (by omega)
      have z6 : (k ≤ s.size) = True := eq_true (by omega)
      have z7 : (9223372036854775807 < s.size + 1) = False := eq_false (by omega)
      have HZ := Aside0.mk (And.intro z1 (And.intro z2 (And.intro z3 (And.intro z4 (And.intro z5 (And.intro z6 z7))))))
      clear hcut hmore hz h4 hkd hks z1 z2 z3 z4 z5 z6 z7 ht hc hkk hkc
      go_upto_region 8 with fail
      have hcu' := HCU.out
      have ht := HT.out
      obtain ⟨z1, z2, z3, z4, z5, z6, z7⟩ := HZ.out
      refine start_ (n := 21) (S := fun w' => w'.heap[gc]? = some (.cells #[.string C.F.m, .bool C.F.b1, .bool C.F.b2, .bool C.F.b3, .bool C.F.b4, .bool C.F.b5, .bool C.F.b6, .slice S.S.A7 C.F.us.length S.S.c7, .slice S.S.A8 C.F.ms.length S.S.c8, .bool C.F.b9, .slice S.S.A10 C.F.vs.length S.S.c10, .int .i64 C.p, .int .i64 C.mx, .bool C.on, .int .i64 C.kn, .slice S.A C.tab.length S.c, .string C.key, .int .i64 C.df] 29 (0, 0)) ∧ w'.cell? (ad.add i) = some (.string s) ∧ Below wr.heap.size wr w') (ds := [19]) #[false, false, false, false, false, false, false, false, false, false, false, false, false, false, false, false, false, false, false, false, false] (by kernel_rfl) rfl rfl ⟨(blk_below KC.out (below_drew1 (Below.refl _ _))), hcl0, below_drew1 (Below.refl _ _)⟩ (fun hHeld => ?_)
      refine pure_ (i := 1) (N := some 45) (v := ?_) (a' := ?_) #[false, true, false, false, false, false, false, false, false, false, false, false, false, false, false, false, false, false, false, false, false] rfl rfl (by kernel_rfl) (fun _ _ _ h => h) (Or.inl ⟨by rfl, ?_⟩) ?_ ?_
      rotate_left
      · intro w'
        go_simp
        with_reducible rfl
      rotate_left
      · simp only [Act.put, List.setIfInBounds_toArray, List.set_cons_zero, List.set_cons_succ, i64_w, i32_w]
        rfl
      refine pure_ (i := 2) (N := some 46) (v := ?_) (a' := ?_) #[false, true, true, false, false, false, false, false, false, false, false, false, false, false, false, false, false, false, false, false, false] rfl rfl (by kernel_rfl) (fun _ _ _ h => h) (Or.inl ⟨by rfl, ?_⟩) ?_ ?_
      rotate_left
      · intro w'
        go_simp
        with_reducible rfl
      rotate_left
      · simp only [Act.put, List.setIfInBounds_toArray, List.set_cons_zero, List.set_cons_succ, i64_w, i32_w]
        rfl
      refine pure_ (i := 3) (N := some 47) (v := ?_) (a' := ?_) #[false, true, true, true, false, false, false, false, false, false, false, false, false, false, false, false, false, false, false, false, false] rfl rfl (by kernel_rfl) (fun _ _ _ h => h) (Or.inl ⟨by rfl, ?_⟩) ?_ ?_
      rotate_left
      · intro w'
        go_simp
        with_reducible rfl
      rotate_left
      · simp only [Act.put, List.setIfInBounds_toArray, List.set_cons_zero, List.set_cons_succ, i64_w, i32_w]
        rfl
      refine pure_ (i := 5) (N := some 49) (v := ?_) (a' := ?_) #[false, true, true, true, false, true, false, false, false, false, false, false, false, false, false, false, false, false, false, false, false] rfl rfl (by kernel_rfl) (fun _ _ _ h => h) (Or.inl ⟨by rfl, ?_⟩) ?_ ?_
      rotate_left
      · intro w'
        go_simp
        with_reducible rfl
      rotate_left
      · simp only [Act.put, List.setIfInBounds_toArray, List.set_cons_zero, List.set_cons_succ, i64_w, i32_w]
        rfl
      refine pure_ (i := 6) (N := some 50) (v := ?_) (a' := ?_) #[false, true, true, true, false, true, true, false, false, false, false, false, false, false, false, false, false, false, false, false, false] rfl rfl (by kernel_rfl) (fun _ _ _ h => h) (Or.inl ⟨by rfl, ?_⟩) ?_ ?_
      rotate_left
      · intro w'
        go_simp
        with_reducible rfl
      rotate_left
      · simp only [Act.put, List.setIfInBounds_toArray, List.set_cons_zero, List.set_cons_succ, i64_w, i32_w]
        rfl
      refine pure_ (i := 7) (N := some 51) (v := ?_) (a' := ?_) #[false, true, true, true, false, true, true, true, false, false, false, false, false, false, false, false, false, false, false, false, false] rfl rfl (by kernel_rfl) (fun _ _ _ h => h) (Or.inl ⟨by rfl, ?_⟩) ?_ ?_
      rotate_left
      · intro w'
        go_simp
        with_reducible rfl
      rotate_left
      · simp only [Act.put, List.setIfInBounds_toArray, List.set_cons_zero, List.set_cons_succ, i64_w, i32_w]
        rfl
      refine pure_ (i := 8) (N := some 52) (v := ?_) (a' := ?_) #[false, true, true, true, false, true, true, true, true, false, false, false, false, false, false, false, false, false, false, false, false] rfl rfl (by kernel_rfl) (fun _ _ _ h => h) (Or.inl ⟨by rfl, ?_⟩) ?_ ?_
      rotate_left
      · intro w'
        go_simp
        with_reducible rfl
      rotate_left
      · simp only [Act.put, List.setIfInBounds_toArray, List.set_cons_zero, List.set_cons_succ, i64_w, i32_w]
        rfl
      refine pure_ (i := 9) (N := some 53) (v := ?_) (a' := ?_) #[false, true, true, true, false, true, true, true, true, true, false, false, false, false, false, false, false, false, false, false, false] rfl rfl (by kernel_rfl) (fun _ _ _ h => h) (Or.inl ⟨by rfl, ?_⟩) ?_ ?_
      rotate_left
      · intro w'
        go_simp
        with_reducible rfl
      rotate_left
      · simp only [Act.put, List.setIfInBounds_toArray, List.set_cons_zero, List.set_cons_succ, i64_w, i32_w]
        rfl
      refine take_ (i := 0) (N := some 44) (v := ?_) (a' := ?_) #[true, true, true, true, false, true, true, true, true, true, false, false, false, false, false, false, false, false, false, false, false] rfl rfl (by kernel_rfl) (fun _ _ _ h => h) (Or.inl ⟨by rfl, ?_⟩) hHeld ?_ ?_
      rotate_left
      · rintro w' ⟨s0, s1, s2⟩
        refine exec_load_part 29 (.tmp 3) ?_ gc 0 ?_ 29 #[.string C.F.m, .bool C.F.b1, .bool C.F.b2, .bool C.F.b3, .bool C.F.b4, .bool C.F.b5, .bool C.F.b6, .slice S.S.A7 C.F.us.length S.S.c7, .slice S.S.A8 C.F.ms.length S.S.c8, .bool C.F.b9, .slice S.S.A10 C.F.vs.length S.S.c10, .int .i64 C.p, .int .i64 C.mx, .bool C.on, .int .i64 C.kn, .slice S.A C.tab.length S.c, .string C.key, .int .i64 C.df] (cellsC C S) (0, 0) _ s0 Try.underlying29 rfl (by kernel_rfl) rfl
        · rfl
        · rfl
      rotate_left
      · simp only [Act.put, List.setIfInBounds_toArray, List.set_cons_zero, List.set_cons_succ, i64_w, i32_w]
        rfl
      refine take_ (i := 4) (N := some 48) (v := ?_) (a' := ?_) #[true, true, true, true, true, true, true, true, true, true, false, false, false, false, false, false, false, false, false, false, false] rfl rfl (by kernel_rfl) (fun _ _ _ h => h) (Or.inl ⟨by rfl, ?_⟩) hHeld ?_ ?_
      rotate_left
      · rintro w' ⟨s0, s1, s2⟩
        go_simp
        with_reducible rfl
      rotate_left
      · simp only [Act.put, List.setIfInBounds_toArray, List.set_cons_zero, List.set_cons_succ, i64_w, i32_w]
        rfl
      refine take_ (i := 10) (N := some 54) (v := ?_) (a' := ?_) #[true, true, true, true, true, true, true, true, true, true, true, false, false, false, false, false, false, false, false, false, false] rfl rfl (by kernel_rfl) (fun _ _ _ h => h) (Or.inl ⟨by rfl, ?_⟩) hHeld ?_ ?_
      rotate_left
      · rintro w' ⟨s0, s1, s2⟩
        go_simp
        with_reducible rfl
      rotate_left
      · simp only [Act.put, List.setIfInBounds_toArray, List.set_cons_zero, List.set_cons_succ, i64_w, i32_w]
        rfl
      refine pure_ (i := 11) (N := some 55) (v := ?_) (a' := ?_) #[true, true, true, true, true, true, true, true, true, true, true, true, false, false, false, false, false, false, false, false, false] rfl rfl (by kernel_rfl) (fun _ _ _ h => h) (Or.inl ⟨by rfl, ?_⟩) ?_ ?_
      rotate_left
      · intro w'
        go_simp
        with_reducible rfl
      rotate_left
      · simp only [Act.put, List.setIfInBounds_toArray, List.set_cons_zero, List.set_cons_succ, i64_w, i32_w]
        rfl
      refine pure_ (i := 12) (N := some 56) (v := ?_) (a' := ?_) #[true, true, true, true, true, true, true, true, true, true, true, true, true, false, false, false, false, false, false, false, false] rfl rfl (by kernel_rfl) (fun _ _ _ h => h) (Or.inl ⟨by rfl, ?_⟩) ?_ ?_
      rotate_left
      · intro w'
        go_simp
        with_reducible rfl
      rotate_left
      · simp only [Act.put, List.setIfInBounds_toArray, List.set_cons_zero, List.set_cons_succ, i64_w, i32_w]
        rfl
      refine pure_ (i := 13) (N := some 57) (v := ?_) (a' := ?_) #[true, true, true, true, true, true, true, true, true, true, true, true, true, true, false, false, false, false, false, false, false] rfl rfl (by kernel_rfl) (fun _ _ _ h => h) (Or.inl ⟨by rfl, ?_⟩) ?_ ?_
      rotate_left
      · intro w'
        go_simp
        with_reducible rfl
      rotate_left
      · simp only [Act.put, List.setIfInBounds_toArray, List.set_cons_zero, List.set_cons_succ, i64_w, i32_w]
        rfl
      refine join_ (σ := SlC × Nat) 2 #[true, true, true, true, true, true, true, true, true, true, true, true, true, true, true, true, true, true, true, false, false] (fun sg => [(58, .tuple #[.agg (cellsC C sg.1), .int .i64 1]), (43, .tuple #[.agg (cellsC C sg.1), .int .i64 1]), (59, .agg (cellsC C sg.1)), (60, .int .i64 1), (9, .pointer (some ⟨sg.2, 0, none⟩))]) (fun sg w' => w'.heap[gc]? = some (.cells #[.string C.F.m, .bool C.F.b1, .bool C.F.b2, .bool C.F.b3, .bool C.F.b4, .bool C.F.b5, .bool C.F.b6, .slice S.S.A7 C.F.us.length S.S.c7, .slice S.S.A8 C.F.ms.length S.S.c8, .bool C.F.b9, .slice S.S.A10 C.F.vs.length S.S.c10, .int .i64 C.p, .int .i64 C.mx, .bool C.on, .int .i64 C.kn, .slice S.A C.tab.length S.c, .string C.key, .int .i64 C.df] 29 (0, 0)) ∧ w'.cell? (ad.add i) = some (.string s) ∧ Below wr.heap.size wr w' ∧ OC wr.heap.size w' C sg.1 ∧ w'.heap[sg.2]? = some (.cells #[.string ⟨#[]⟩, .bool false, .bool false, .bool false, .bool false, .bool false, .bool false, .slice none 0 0, .slice none 0 0, .bool false, .slice none 0 0, .int .i64 0, .int .i64 0, .bool false, .int .i64 0, .slice none 0 0, .string ⟨#[]⟩, .int .i64 0] 29 (0, 0)) ∧ wr.heap.size ≤ sg.2 ∧ True) ?_ ?_
      rotate_left
      · intro hCont
        refine two_ (i := 14) (j := 18) (Ni := some 58) (Nj := some 9) #[true, true, true, true, true, true, true, true, true, true, true, true, true, true, true, false, false, false, false, false, false] #[true, true, true, true, true, true, true, true, true, true, true, true, true, true, false, false, false, false, true, false, false] rfl rfl rfl rfl (by kernel_rfl) (by decide) (by decide) (fun K hK => ?_) (fun K hK => ?_)
        · skip
          refine goes_ Try.func11 (by kernel_rfl) rfl #[.agg (cellsC C S), .string (s.extract 0 k)] (by rfl) rfl rfl (by simp only [List.map_toArray, List.map_cons, List.map_nil]; rfl) ?_
          with_reducible refine (apply2_c C C S (s.extract 0 k) 1 PC.out _ (HVL.out.below (below_step hL.out (hHeld.2.2))) HS.out).mono ?_
          rintro e wrr ⟨S1, rfl, ho, hr⟩
          refine ⟨_, rfl, ?_⟩
          have HR := Aside0.mk hr
          have HO := Aside0.mk (ho.weaken (hHeld.2.2).size)
          clear hr ho
          refine hK.out _ _ ⟨(blk_below hHeld.1 HR.out), pw_cell_below HR.out hHeld.2.1, below_step hHeld.2.2 HR.out⟩ (fun hHeld => ?_)
          clear hK K
          refine norm_ (a' := ?_) ?_ ?_
          rotate_left
          · show Act.put _ (some 58) _ = _
            simp only [Act.put, List.setIfInBounds_toArray, List.set_cons_zero, List.set_cons_succ, i64_w, i32_w]
            rfl
          refine pure_ (i := 15) (N := some 43) (v := ?_) (a' := ?_) #[true, true, true, true, true, true, true, true, true, true, true, true, true, true, true, true, false, false, false, false, false] rfl rfl (by kernel_rfl) (fun _ _ _ h => h) (Or.inl ⟨by rfl, ?_⟩) ?_ ?_
          rotate_left
          · intro w'
            go_simp
            with_reducible rfl
          rotate_left
          · simp only [Act.put, List.setIfInBounds_toArray, List.set_cons_zero, List.set_cons_succ, i64_w, i32_w]
            rfl
          refine pure_ (i := 16) (N := some 59) (v := ?_) (a' := ?_) #[true, true, true, true, true, true, true, true, true, true, true, true, true, true, true, true, true, false, false, false, false] rfl rfl (by kernel_rfl) (fun _ _ _ h => h) (Or.inl ⟨by rfl, ?_⟩) ?_ ?_
          rotate_left
          · intro w'
            go_simp
            with_reducible rfl
          rotate_left
          · simp only [Act.put, List.setIfInBounds_toArray, List.set_cons_zero, List.set_cons_succ, i64_w, i32_w]
            rfl
          refine pure_ (i := 17) (N := some 60) (v := ?_) (a' := ?_) #[true, true, true, true, true, true, true, true, true, true, true, true, true, true, true, true, true, true, false, false, false] rfl rfl (by kernel_rfl) (fun _ _ _ h => h) (Or.inl ⟨by rfl, ?_⟩) ?_ ?_
          rotate_left
          · intro w'
            go_simp
            with_reducible rfl
          rotate_left
          · simp only [Act.put, List.setIfInBounds_toArray, List.set_cons_zero, List.set_cons_succ, i64_w, i32_w]
            rfl
          refine one_ (i := 18) (N := some 9) #[true, true, true, true, true, true, true, true, true, true, true, true, true, true, true, true, true, true, true, false, false] rfl rfl (by kernel_rfl) (by decide) (fun K hK => ?_)
          refine value_ (w1 := ?_) (v := ?_) (by rfl) rfl ?_ ?_
          rotate_left 2
          · go_simp
            constructor
            · rfl
            · rfl
          have KA := Aside0.mk (blk_new (wrr) (.cells #[.string ⟨#[]⟩, .bool false, .bool false, .bool false, .bool false, .bool false, .bool false, .slice none 0 0, .slice none 0 0, .bool false, .slice none 0 0, .int .i64 0, .int .i64 0, .bool false, .int .i64 0, .slice none 0 0, .string ⟨#[]⟩, .int .i64 0] 29))
          have hga : wr.heap.size ≤ (wrr).heap.size := (hHeld.2.2).size
          have GA := Aside0.mk hga
          clear hga
          refine hK.out _ _ ⟨(blk_below hHeld.1 (below_alloc (Below.refl _ _) (.cells #[.string ⟨#[]⟩, .bool false, .bool false, .bool false, .bool false, .bool false, .bool false, .slice none 0 0, .slice none 0 0, .bool false, .slice none 0 0, .int .i64 0, .int .i64 0, .bool false, .int .i64 0, .slice none 0 0, .string ⟨#[]⟩, .int .i64 0] 29))), pw_cell_below (below_alloc (Below.refl _ _) (.cells #[.string ⟨#[]⟩, .bool false, .bool false, .bool false, .bool false, .bool false, .bool false, .slice none 0 0, .slice none 0 0, .bool false, .slice none 0 0, .int .i64 0, .int .i64 0, .bool false, .int .i64 0, .slice none 0 0, .string ⟨#[]⟩, .int .i64 0] 29)) hHeld.2.1, below_step hHeld.2.2 (below_alloc (Below.refl _ _) (.cells #[.string ⟨#[]⟩, .bool false, .bool false, .bool false, .bool false, .bool false, .bool false, .slice none 0 0, .slice none 0 0, .bool false, .slice none 0 0, .int .i64 0, .int .i64 0, .bool false, .int .i64 0, .slice none 0 0, .string ⟨#[]⟩, .int .i64 0] 29))⟩ (fun hHeld => ?_)
          clear hK K
          refine norm_ (a' := ?_) ?_ ?_
          rotate_left
          · show Act.put _ (some 9) _ = _
            simp only [Act.put, List.setIfInBounds_toArray, List.set_cons_zero, List.set_cons_succ, i64_w, i32_w]
            rfl
          exact norm_ (by simp only [putAll, Act.put, List.setIfInBounds_toArray, List.set_cons_zero, List.set_cons_succ]) (hCont (S1, (wrr).heap.size) _ ⟨hHeld.1, hHeld.2.1, hHeld.2.2, (HO.out.below (below_alloc (Below.refl _ _) (.cells #[.string ⟨#[]⟩, .bool false, .bool false, .bool false, .bool false, .bool false, .bool false, .slice none 0 0, .slice none 0 0, .bool false, .slice none 0 0, .int .i64 0, .int .i64 0, .bool false, .int .i64 0, .slice none 0 0, .string ⟨#[]⟩, .int .i64 0] 29))), KA.out, GA.out, trivial⟩)
        · skip
          refine value_ (w1 := ?_) (v := ?_) (by rfl) rfl ?_ ?_
          rotate_left 2
          · go_simp
            constructor
            · rfl
            · rfl
          have KA := Aside0.mk (blk_new (wr.drew) (.cells #[.string ⟨#[]⟩, .bool false, .bool false, .bool false, .bool false, .bool false, .bool false, .slice none 0 0, .slice none 0 0, .bool false, .slice none 0 0, .int .i64 0, .int .i64 0, .bool false, .int .i64 0, .slice none 0 0, .string ⟨#[]⟩, .int .i64 0] 29))
          have hga : wr.heap.size ≤ (wr.drew).heap.size := (hHeld.2.2).size
          have GA := Aside0.mk hga
          clear hga
          refine hK.out _ _ ⟨(blk_below hHeld.1 (below_alloc (Below.refl _ _) (.cells #[.string ⟨#[]⟩, .bool false, .bool false, .bool false, .bool false, .bool false, .bool false, .slice none 0 0, .slice none 0 0, .bool false, .slice none 0 0, .int .i64 0, .int .i64 0, .bool false, .int .i64 0, .slice none 0 0, .string ⟨#[]⟩, .int .i64 0] 29))), pw_cell_below (below_alloc (Below.refl _ _) (.cells #[.string ⟨#[]⟩, .bool false, .bool false, .bool false, .bool false, .bool false, .bool false, .slice none 0 0, .slice none 0 0, .bool false, .slice none 0 0, .int .i64 0, .int .i64 0, .bool false, .int .i64 0, .slice none 0 0, .string ⟨#[]⟩, .int .i64 0] 29)) hHeld.2.1, below_step hHeld.2.2 (below_alloc (Below.refl _ _) (.cells #[.string ⟨#[]⟩, .bool false, .bool false, .bool false, .bool false, .bool false, .bool false, .slice none 0 0, .slice none 0 0, .bool false, .slice none 0 0, .int .i64 0, .int .i64 0, .bool false, .int .i64 0, .slice none 0 0, .string ⟨#[]⟩, .int .i64 0] 29))⟩ (fun hHeld => ?_)
          clear hK K
          refine norm_ (a' := ?_) ?_ ?_
          rotate_left
          · show Act.put _ (some 9) _ = _
            simp only [Act.put, List.setIfInBounds_toArray, List.set_cons_zero, List.set_cons_succ, i64_w, i32_w]
            rfl
          refine one_ (i := 14) (N := some 58) #[true, true, true, true, true, true, true, true, true, true, true, true, true, true, true, false, false, false, true, false, false] rfl rfl (by kernel_rfl) (by decide) (fun K hK => ?_)
          refine goes_ Try.func11 (by kernel_rfl) rfl #[.agg (cellsC C S), .string (s.extract 0 k)] (by rfl) rfl rfl (by simp only [List.map_toArray, List.map_cons, List.map_nil]; rfl) ?_
          with_reducible refine (apply2_c C C S (s.extract 0 k) 1 PC.out _ (HVL.out.below (below_step hL.out (hHeld.2.2))) HS.out).mono ?_
          rintro e wrr ⟨S1, rfl, ho, hr⟩
          refine ⟨_, rfl, ?_⟩
          have HR := Aside0.mk hr
          have HO := Aside0.mk (ho.weaken (hHeld.2.2).size)
          clear hr ho
          have KB := Aside0.mk (blk_below KA.out HR.out)
          clear KA
          have KA := KB
          clear KB
          refine hK.out _ _ ⟨(blk_below hHeld.1 HR.out), pw_cell_below HR.out hHeld.2.1, below_step hHeld.2.2 HR.out⟩ (fun hHeld => ?_)
          clear hK K
          refine norm_ (a' := ?_) ?_ ?_
          rotate_left
          · show Act.put _ (some 58) _ = _
            simp only [Act.put, List.setIfInBounds_toArray, List.set_cons_zero, List.set_cons_succ, i64_w, i32_w]
            rfl
          refine pure_ (i := 15) (N := some 43) (v := ?_) (a' := ?_) #[true, true, true, true, true, true, true, true, true, true, true, true, true, true, true, true, false, false, true, false, false] rfl rfl (by kernel_rfl) (fun _ _ _ h => h) (Or.inl ⟨by rfl, ?_⟩) ?_ ?_
          rotate_left
          · intro w'
            go_simp
            with_reducible rfl
          rotate_left
          · simp only [Act.put, List.setIfInBounds_toArray, List.set_cons_zero, List.set_cons_succ, i64_w, i32_w]
            rfl
          refine pure_ (i := 16) (N := some 59) (v := ?_) (a' := ?_) #[true, true, true, true, true, true, true, true, true, true, true, true, true, true, true, true, true, false, true, false, false] rfl rfl (by kernel_rfl) (fun _ _ _ h => h) (Or.inl ⟨by rfl, ?_⟩) ?_ ?_
          rotate_left
          · intro w'
            go_simp
            with_reducible rfl
          rotate_left
          · simp only [Act.put, List.setIfInBounds_toArray, List.set_cons_zero, List.set_cons_succ, i64_w, i32_w]
            rfl
          refine pure_ (i := 17) (N := some 60) (v := ?_) (a' := ?_) #[true, true, true, true, true, true, true, true, true, true, true, true, true, true, true, true, true, true, true, false, false] rfl rfl (by kernel_rfl) (fun _ _ _ h => h) (Or.inl ⟨by rfl, ?_⟩) ?_ ?_
          rotate_left
          · intro w'
            go_simp
            with_reducible rfl
          rotate_left
          · simp only [Act.put, List.setIfInBounds_toArray, List.set_cons_zero, List.set_cons_succ, i64_w, i32_w]
            rfl
          exact norm_ (by simp only [putAll, Act.put, List.setIfInBounds_toArray, List.set_cons_zero, List.set_cons_succ]) (hCont (S1, (wr).heap.size) _ ⟨hHeld.1, hHeld.2.1, hHeld.2.2, HO.out, KA.out, GA.out, trivial⟩)
      rintro ⟨S9, g9⟩ wj ⟨h0, h1, h2, hOC, hBlk, hGe, _⟩
      have hHeld : wj.heap[gc]? = some (.cells #[.string C.F.m, .bool C.F.b1, .bool C.F.b2, .bool C.F.b3, .bool C.F.b4, .bool C.F.b5, .bool C.F.b6, .slice S.S.A7 C.F.us.length S.S.c7, .slice S.S.A8 C.F.ms.length S.S.c8, .bool C.F.b9, .slice S.S.A10 C.F.vs.length S.S.c10, .int .i64 C.p, .int .i64 C.mx, .bool C.on, .int .i64 C.kn, .slice S.A C.tab.length S.c, .string C.key, .int .i64 C.df] 29 (0, 0)) ∧ wj.cell? (ad.add i) = some (.string s) ∧ Below wr.heap.size wr wj := ⟨h0, h1, h2⟩
      have HBL := Aside0.mk h2
      have HOC := Aside0.mk hOC
      have HBK := Aside0.mk hBlk
      have HGE := Aside0.mk hGe
      clear hOC hBlk hGe h0 h1 h2
      refine norm_ (a' := ?_) ?_ ?_
      rotate_left
      · simp only [putAll, Act.put, List.setIfInBounds_toArray, List.set_cons_zero, List.set_cons_succ]
        rfl
      refine last_ (i := 19) (N := none) #[true, true, true, true, true, true, true, true, true, true, true, true, true, true, true, true, true, true, true, true, false] rfl rfl (by kernel_rfl) (by decide) (fun K hK => ?_)
      refine skip_ (w1 := ?_) (by rfl) rfl ?_ ?_
      rotate_left
      · refine exec_store_part 29 (.tmp 9) (.tmp 59) ?_ g9 0 (cellsC C S9) ?_ ?_ 29 _ (cellsC C S9) HBK.out (by kernel_rfl) (Nat.le_of_ble_eq_true rfl) (by kernel_rfl) rfl
        · rfl
        · rfl
        · rfl
      refine hK.out _ _ ?_
      clear hK K
      refine pure_ (i := 20) (N := some 10) (v := ?_) (a' := ?_) #[true, true, true, true, true, true, true, true, true, true, true, true, true, true, true, true, true, true, true, true, true] rfl rfl (by kernel_rfl) (fun _ _ _ h => h) (Or.inl ⟨by rfl, ?_⟩) ?_ ?_
      rotate_left
      · intro w'
        go_simp
        with_reducible rfl
      rotate_left
      · simp only [Act.put, List.setIfInBounds_toArray, List.set_cons_zero, List.set_cons_succ, i64_w, i32_w]
        rfl
      refine done_ (by kernel_rfl) ?_
      have hb_ := HBL.out
      have hblk_ := HBK.out
      have hge_ := HGE.out
      have OV_S9 : Aside0 (OC wl.heap.size wj C S9) := ⟨HOC.out.weaken (hL.out).size⟩
      clear HBL HBK HGE HOC
      have E_gc_g9 := Aside0.mk (Nat.lt_of_lt_of_le (blk_lt KC.out) hge_)
      have G_g9 := Aside0.mk (Nat.le_trans (hL.out).size hge_)
      have BX_g9 := Aside0.mk hblk_
      have B2 := Aside0.mk (below_step hL.out hb_)
      have K2_gc := Aside0.mk (blk_below KC.out hb_)
      clear hb_ hL KC
      clear hblk_ hge_
      obtain ⟨w_3, hw_⟩ : ∃ w_, wj.setRow g9 #[.string C.F.m, .bool C.F.b1, .bool C.F.b2, .bool C.F.b3, .bool C.F.b4, .bool C.F.b5, .bool C.F.b6, .slice S9.S.A7 C.F.us.length S9.S.c7, .slice S9.S.A8 C.F.ms.length S9.S.c8, .bool C.F.b9, .slice S9.S.A10 C.F.vs.length S9.S.c10, .int .i64 C.p, .int .i64 C.mx, .bool C.on, .int .i64 C.kn, .slice S9.A C.tab.length S9.c, .string C.key, .int .i64 C.df] = w_ := ⟨_, rfl⟩
      have hu_ : Upd wj w_3 (fun k => k = g9) := by rw [← hw_]; exact Upd.setRow (Upd.refl wj (fun k => k = g9)) (.inl rfl) _
      have kf_ : w_3.heap[g9]? = some (.cells #[.string C.F.m, .bool C.F.b1, .bool C.F.b2, .bool C.F.b3, .bool C.F.b4, .bool C.F.b5, .bool C.F.b6, .slice S9.S.A7 C.F.us.length S9.S.c7, .slice S9.S.A8 C.F.ms.length S9.S.c8, .bool C.F.b9, .slice S9.S.A10 C.F.vs.length S9.S.c10, .int .i64 C.p, .int .i64 C.mx, .bool C.on, .int .i64 C.kn, .slice S9.A C.tab.length S9.c, .string C.key, .int .i64 C.df] 29 (0, 0)) := by rw [← hw_]; exact setRow_heap wj g9 _ #[.string C.F.m, .bool C.F.b1, .bool C.F.b2, .bool C.F.b3, .bool C.F.b4, .bool C.F.b5, .bool C.F.b6, .slice S9.S.A7 C.F.us.length S9.S.c7, .slice S9.S.A8 C.F.ms.length S9.S.c8, .bool C.F.b9, .slice S9.S.A10 C.F.vs.length S9.S.c10, .int .i64 C.p, .int .i64 C.mx, .bool C.on, .int .i64 C.kn, .slice S9.A C.tab.length S9.c, .string C.key, .int .i64 C.df] 29 (0, 0) BX_g9.out
      rw [hw_]
      clear hw_
      have K4_g9 := Aside0.mk (kf_)
      have B4 := Aside0.mk (B2.out.trans (hu_.toBelow (B := wl.heap.size) (fun k hk => by rw [hk]; exact G_g9.out) (B2.out).size))
      have K4_gc := Aside0.mk (hu_.blk K2_gc.out (by have := E_gc_g9.out; omega))
      have O4_S9 := Aside0.mk (OV_S9.out.boxT BX_g9.out (by decide) (by decide) hu_)
      clear hu_ B2 K2_gc OV_S9 BX_g9
      clear kf_
      clear hcu' ht z1 z2 z3 z4 z5 z6 z7
      clear hcl0
      go_upto_region 9 with fail
      have hcu' := HCU.out
      have ht := HT.out
      obtain ⟨z1, z2, z3, z4, z5, z6, z7⟩ := HZ.out
      have hcl0 := HCL.out _ B4.out
      refine start_ (n := 13) (S := fun w' => w'.heap[gc]? = some (.cells #[.string C.F.m, .bool C.F.b1, .bool C.F.b2, .bool C.F.b3, .bool C.F.b4, .bool C.F.b5, .bool C.F.b6, .slice S.S.A7 C.F.us.length S.S.c7, .slice S.S.A8 C.F.ms.length S.S.c8, .bool C.F.b9, .slice S.S.A10 C.F.vs.length S.S.c10, .int .i64 C.p, .int .i64 C.mx, .bool C.on, .int .i64 C.kn, .slice S.A C.tab.length S.c, .string C.key, .int .i64 C.df] 29 (0, 0)) ∧ w'.cell? (ad.add i) = some (.string s) ∧ Below w_3.heap.size w_3 w') (ds := [11]) #[false, false, false, false, false, false, false, false, false, false, false, false, false] (by kernel_rfl) rfl rfl ⟨(blk_below K4_gc.out (below_drew1 (Below.refl _ _))), hcl0, below_drew1 (Below.refl _ _)⟩ (fun hHeld => ?_)
      refine pure_ (i := 1) (N := some 63) (v := ?_) (a' := ?_) #[false, true, false, false, false, false, false, false, false, false, false, false, false] rfl rfl (by kernel_rfl) (fun _ _ _ h => h) (Or.inl ⟨by rfl, ?_⟩) ?_ ?_
      rotate_left
      · intro w'
        go_simp
        with_reducible rfl
      rotate_left
      · simp only [Act.put, List.setIfInBounds_toArray, List.set_cons_zero, List.set_cons_succ, i64_w, i32_w]
        rfl
      refine pure_ (i := 2) (N := some 64) (v := ?_) (a' := ?_) #[false, true, true, false, false, false, false, false, false, false, false, false, false] rfl rfl (by kernel_rfl) (fun _ _ _ h => h) (Or.inl ⟨by rfl, ?_⟩) ?_ ?_
      rotate_left
      · intro w'
        go_simp
        with_reducible rfl
      rotate_left
      · simp only [Act.put, List.setIfInBounds_toArray, List.set_cons_zero, List.set_cons_succ, i64_w, i32_w]
        rfl
      refine pure_ (i := 3) (N := some 65) (v := ?_) (a' := ?_) #[false, true, true, true, false, false, false, false, false, false, false, false, false] rfl rfl (by kernel_rfl) (fun _ _ _ h => h) (Or.inl ⟨by rfl, ?_⟩) ?_ ?_
      rotate_left
      · intro w'
        go_simp
        with_reducible rfl
      rotate_left
      · simp only [Act.put, List.setIfInBounds_toArray, List.set_cons_zero, List.set_cons_succ, i64_w, i32_w]
        rfl
      refine take_ (i := 0) (N := some 62) (v := ?_) (a' := ?_) #[true, true, true, true, false, false, false, false, false, false, false, false, false] rfl rfl (by kernel_rfl) (fun _ _ _ h => h) (Or.inl ⟨by rfl, ?_⟩) hHeld ?_ ?_
      rotate_left
      · rintro w' ⟨s0, s1, s2⟩
        refine exec_load_part 29 (.tmp 3) ?_ gc 0 ?_ 29 #[.string C.F.m, .bool C.F.b1, .bool C.F.b2, .bool C.F.b3, .bool C.F.b4, .bool C.F.b5, .bool C.F.b6, .slice S.S.A7 C.F.us.length S.S.c7, .slice S.S.A8 C.F.ms.length S.S.c8, .bool C.F.b9, .slice S.S.A10 C.F.vs.length S.S.c10, .int .i64 C.p, .int .i64 C.mx, .bool C.on, .int .i64 C.kn, .slice S.A C.tab.length S.c, .string C.key, .int .i64 C.df] (cellsC C S) (0, 0) _ s0 Try.underlying29 rfl (by kernel_rfl) rfl
        · rfl
        · rfl
      rotate_left
      · simp only [Act.put, List.setIfInBounds_toArray, List.set_cons_zero, List.set_cons_succ, i64_w, i32_w]
        rfl
      refine take_ (i := 4) (N := some 66) (v := ?_) (a' := ?_) #[true, true, true, true, true, false, false, false, false, false, false, false, false] rfl rfl (by kernel_rfl) (fun _ _ _ h => h) (Or.inl ⟨by rfl, ?_⟩) hHeld ?_ ?_
      rotate_left
      · rintro w' ⟨s0, s1, s2⟩
        go_simp
        with_reducible rfl
      rotate_left
      · simp only [Act.put, List.setIfInBounds_toArray, List.set_cons_zero, List.set_cons_succ, i64_w, i32_w]
        rfl
      refine pure_ (i := 5) (N := some 67) (v := ?_) (a' := ?_) #[true, true, true, true, true, true, false, false, false, false, false, false, false] rfl rfl (by kernel_rfl) (fun _ _ _ h => h) (Or.inl ⟨by rfl, ?_⟩) ?_ ?_
      rotate_left
      · intro w'
        go_simp
        with_reducible rfl
      rotate_left
      · simp only [Act.put, List.setIfInBounds_toArray, List.set_cons_zero, List.set_cons_succ, i64_w, i32_w]
        rfl
      refine join_ (σ := SlC × Nat) 2 #[true, true, true, true, true, true, true, true, true, true, true, false, false] (fun sg => [(68, .tuple #[.agg (cellsC C sg.1), .int .i64 1]), (61, .tuple #[.agg (cellsC C sg.1), .int .i64 1]), (69, .agg (cellsC C sg.1)), (70, .int .i64 1), (11, .pointer (some ⟨sg.2, 0, none⟩))]) (fun sg w' => w'.heap[gc]? = some (.cells #[.string C.F.m, .bool C.F.b1, .bool C.F.b2, .bool C.F.b3, .bool C.F.b4, .bool C.F.b5, .bool C.F.b6, .slice S.S.A7 C.F.us.length S.S.c7, .slice S.S.A8 C.F.ms.length S.S.c8, .bool C.F.b9, .slice S.S.A10 C.F.vs.length S.S.c10, .int .i64 C.p, .int .i64 C.mx, .bool C.on, .int .i64 C.kn, .slice S.A C.tab.length S.c, .string C.key, .int .i64 C.df] 29 (0, 0)) ∧ w'.cell? (ad.add i) = some (.string s) ∧ Below w_3.heap.size w_3 w' ∧ OC w_3.heap.size w' C sg.1 ∧ w'.heap[sg.2]? = some (.cells #[.string ⟨#[]⟩, .bool false, .bool false, .bool false, .bool false, .bool false, .bool false, .slice none 0 0, .slice none 0 0, .bool false, .slice none 0 0, .int .i64 0, .int .i64 0, .bool false, .int .i64 0, .slice none 0 0, .string ⟨#[]⟩, .int .i64 0] 29 (0, 0)) ∧ w_3.heap.size ≤ sg.2 ∧ True) ?_ ?_
      rotate_left
      · intro hCont
        refine two_ (i := 6) (j := 10) (Ni := some 68) (Nj := some 11) #[true, true, true, true, true, true, true, false, false, false, false, false, false] #[true, true, true, true, true, true, false, false, false, false, true, false, false] rfl rfl rfl rfl (by kernel_rfl) (by decide) (by decide) (fun K hK => ?_) (fun K hK => ?_)
        · skip
          refine goes_ Try.func11 (by kernel_rfl) rfl #[.agg (cellsC C S), .string (s ++ ⟨#[0]⟩)] (by rfl) rfl rfl (by simp only [List.map_toArray, List.map_cons, List.map_nil]; rfl) ?_
          with_reducible refine (apply2_c C C S (s ++ ⟨#[0]⟩) 1 PM.out _ (HVL.out.below (below_step B4.out (hHeld.2.2))) HS.out).mono ?_
          rintro e wrr ⟨S1, rfl, ho, hr⟩
          refine ⟨_, rfl, ?_⟩
          have HR := Aside0.mk hr
          have HO := Aside0.mk (ho.weaken (hHeld.2.2).size)
          clear hr ho
          refine hK.out _ _ ⟨(blk_below hHeld.1 HR.out), pw_cell_below HR.out hHeld.2.1, below_step hHeld.2.2 HR.out⟩ (fun hHeld => ?_)
          clear hK K
          refine norm_ (a' := ?_) ?_ ?_
          rotate_left
          · show Act.put _ (some 68) _ = _
            simp only [Act.put, List.setIfInBounds_toArray, List.set_cons_zero, List.set_cons_succ, i64_w, i32_w]
            rfl
          refine pure_ (i := 7) (N := some 61) (v := ?_) (a' := ?_) #[true, true, true, true, true, true, true, true, false, false, false, false, false] rfl rfl (by kernel_rfl) (fun _ _ _ h => h) (Or.inl ⟨by rfl, ?_⟩) ?_ ?_
          rotate_left
          · intro w'
            go_simp
            with_reducible rfl
          rotate_left
          · simp only [Act.put, List.setIfInBounds_toArray, List.set_cons_zero, List.set_cons_succ, i64_w, i32_w]
            rfl
          refine pure_ (i := 8) (N := some 69) (v := ?_) (a' := ?_) #[true, true, true, true, true, true, true, true, true, false, false, false, false] rfl rfl (by kernel_rfl) (fun _ _ _ h => h) (Or.inl ⟨by rfl, ?_⟩) ?_ ?_
          rotate_left
          · intro w'
            go_simp
            with_reducible rfl
          rotate_left
          · simp only [Act.put, List.setIfInBounds_toArray, List.set_cons_zero, List.set_cons_succ, i64_w, i32_w]
            rfl
          refine pure_ (i := 9) (N := some 70) (v := ?_) (a' := ?_) #[true, true, true, true, true, true, true, true, true, true, false, false, false] rfl rfl (by kernel_rfl) (fun _ _ _ h => h) (Or.inl ⟨by rfl, ?_⟩) ?_ ?_
          rotate_left
          · intro w'
            go_simp
            with_reducible rfl
          rotate_left
          · simp only [Act.put, List.setIfInBounds_toArray, List.set_cons_zero, List.set_cons_succ, i64_w, i32_w]
            rfl
          refine one_ (i := 10) (N := some 11) #[true, true, true, true, true, true, true, true, true, true, true, false, false] rfl rfl (by kernel_rfl) (by decide) (fun K hK => ?_)
          refine value_ (w1 := ?_) (v := ?_) (by rfl) rfl ?_ ?_
          rotate_left 2
          · go_simp
            constructor
            · rfl
            · rfl
          have KA := Aside0.mk (blk_new (wrr) (.cells #[.string ⟨#[]⟩, .bool false, .bool false, .bool false, .bool false, .bool false, .bool false, .slice none 0 0, .slice none 0 0, .bool false, .slice none 0 0, .int .i64 0, .int .i64 0, .bool false, .int .i64 0, .slice none 0 0, .string ⟨#[]⟩, .int .i64 0] 29))
          have hga : w_3.heap.size ≤ (wrr).heap.size := (hHeld.2.2).size
          have GA := Aside0.mk hga
          clear hga
          refine hK.out _ _ ⟨(blk_below hHeld.1 (below_alloc (Below.refl _ _) (.cells #[.string ⟨#[]⟩, .bool false, .bool false, .bool false, .bool false, .bool false, .bool false, .slice none 0 0, .slice none 0 0, .bool false, .slice none 0 0, .int .i64 0, .int .i64 0, .bool false, .int .i64 0, .slice none 0 0, .string ⟨#[]⟩, .int .i64 0] 29))), pw_cell_below (below_alloc (Below.refl _ _) (.cells #[.string ⟨#[]⟩, .bool false, .bool false, .bool false, .bool false, .bool false, .bool false, .slice none 0 0, .slice none 0 0, .bool false, .slice none 0 0, .int .i64 0, .int .i64 0, .bool false, .int .i64 0, .slice none 0 0, .string ⟨#[]⟩, .int .i64 0] 29)) hHeld.2.1, below_step hHeld.2.2 (below_alloc (Below.refl _ _) (.cells #[.string ⟨#[]⟩, .bool false, .bool false, .bool false, .bool false, .bool false, .bool false, .slice none 0 0, .slice none 0 0, .bool false, .slice none 0 0, .int .i64 0, .int .i64 0, .bool false, .int .i64 0, .slice none 0 0, .string ⟨#[]⟩, .int .i64 0] 29))⟩ (fun hHeld => ?_)
          clear hK K
          refine norm_ (a' := ?_) ?_ ?_
          rotate_left
          · show Act.put _ (some 11) _ = _
            simp only [Act.put, List.setIfInBounds_toArray, List.set_cons_zero, List.set_cons_succ, i64_w, i32_w]
            rfl
          exact norm_ (by simp only [putAll, Act.put, List.setIfInBounds_toArray, List.set_cons_zero, List.set_cons_succ]) (hCont (S1, (wrr).heap.size) _ ⟨hHeld.1, hHeld.2.1, hHeld.2.2, (HO.out.below (below_alloc (Below.refl _ _) (.cells #[.string ⟨#[]⟩, .bool false, .bool false, .bool false, .bool false, .bool false, .bool false, .slice none 0 0, .slice none 0 0, .bool false, .slice none 0 0, .int .i64 0, .int .i64 0, .bool false, .int .i64 0, .slice none 0 0, .string ⟨#[]⟩, .int .i64 0] 29))), KA.out, GA.out, trivial⟩)
        · skip
          refine value_ (w1 := ?_) (v := ?_) (by rfl) rfl ?_ ?_
          rotate_left 2
          · go_simp
            constructor
            · rfl
            · rfl
          have KA := Aside0.mk (blk_new (w_3.drew) (.cells #[.string ⟨#[]⟩, .bool false, .bool false, .bool false, .bool false, .bool false, .bool false, .slice none 0 0, .slice none 0 0, .bool false, .slice none 0 0, .int .i64 0, .int .i64 0, .bool false, .int .i64 0, .slice none 0 0, .string ⟨#[]⟩, .int .i64 0] 29))
          have hga : w_3.heap.size ≤ (w_3.drew).heap.size := (hHeld.2.2).size
          have GA := Aside0.mk hga
          clear hga
          refine hK.out _ _ ⟨(blk_below hHeld.1 (below_alloc (Below.refl _ _) (.cells #[.string ⟨#[]⟩, .bool false, .bool false, .bool false, .bool false, .bool false, .bool false, .slice none 0 0, .slice none 0 0, .bool false, .slice none 0 0, .int .i64 0, .int .i64 0, .bool false, .int .i64 0, .slice none 0 0, .string ⟨#[]⟩, .int .i64 0] 29))), pw_cell_below (below_alloc (Below.refl _ _) (.cells #[.string ⟨#[]⟩, .bool false, .bool false, .bool false, .bool false, .bool false, .bool false, .slice none 0 0, .slice none 0 0, .bool false, .slice none 0 0, .int .i64 0, .int .i64 0, .bool false, .int .i64 0, .slice none 0 0, .string ⟨#[]⟩, .int .i64 0] 29)) hHeld.2.1, below_step hHeld.2.2 (below_alloc (Below.refl _ _) (.cells #[.string ⟨#[]⟩, .bool false, .bool false, .bool false, .bool false, .bool false, .bool false, .slice none 0 0, .slice none 0 0, .bool false, .slice none 0 0, .int .i64 0, .int .i64 0, .bool false, .int .i64 0, .slice none 0 0, .string ⟨#[]⟩, .int .i64 0] 29))⟩ (fun hHeld => ?_)
          clear hK K
          refine norm_ (a' := ?_) ?_ ?_
          rotate_left
          · show Act.put _ (some 11) _ = _
            simp only [Act.put, List.setIfInBounds_toArray, List.set_cons_zero, List.set_cons_succ, i64_w, i32_w]
            rfl
          refine one_ (i := 6) (N := some 68) #[true, true, true, true, true, true, true, false, false, false, true, false, false] rfl rfl (by kernel_rfl) (by decide) (fun K hK => ?_)
          refine goes_ Try.func11 (by kernel_rfl) rfl #[.agg (cellsC C S), .string (s ++ ⟨#[0]⟩)] (by rfl) rfl rfl (by simp only [List.map_toArray, List.map_cons, List.map_nil]; rfl) ?_
          with_reducible refine (apply2_c C C S (s ++ ⟨#[0]⟩) 1 PM.out _ (HVL.out.below (below_step B4.out (hHeld.2.2))) HS.out).mono ?_
          rintro e wrr ⟨S1, rfl, ho, hr⟩
          refine ⟨_, rfl, ?_⟩
          have HR := Aside0.mk hr
          have HO := Aside0.mk (ho.weaken (hHeld.2.2).size)
          clear hr ho
          have KB := Aside0.mk (blk_below KA.out HR.out)
          clear KA
          have KA := KB
          clear KB
          refine hK.out _ _ ⟨(blk_below hHeld.1 HR.out), pw_cell_below HR.out hHeld.2.1, below_step hHeld.2.2 HR.out⟩ (fun hHeld => ?_)
          clear hK K
          refine norm_ (a' := ?_) ?_ ?_
          rotate_left
          · show Act.put _ (some 68) _ = _
            simp only [Act.put, List.setIfInBounds_toArray, List.set_cons_zero, List.set_cons_succ, i64_w, i32_w]
            rfl
          refine pure_ (i := 7) (N := some 61) (v := ?_) (a' := ?_) #[true, true, true, true, true, true, true, true, false, false, true, false, false] rfl rfl (by kernel_rfl) (fun _ _ _ h => h) (Or.inl ⟨by rfl, ?_⟩) ?_ ?_
          rotate_left
          · intro w'
            go_simp
            with_reducible rfl
          rotate_left
          · simp only [Act.put, List.setIfInBounds_toArray, List.set_cons_zero, List.set_cons_succ, i64_w, i32_w]
            rfl
          refine pure_ (i := 8) (N := some 69) (v := ?_) (a' := ?_) #[true, true, true, true, true, true, true, true, true, false, true, false, false] rfl rfl (by kernel_rfl) (fun _ _ _ h => h) (Or.inl ⟨by rfl, ?_⟩) ?_ ?_
          rotate_left
          · intro w'
            go_simp
            with_reducible rfl
          rotate_left
          · simp only [Act.put, List.setIfInBounds_toArray, List.set_cons_zero, List.set_cons_succ, i64_w, i32_w]
            rfl
          refine pure_ (i := 9) (N := some 70) (v := ?_) (a' := ?_) #[true, true, true, true, true, true, true, true, true, true, true, false, false] rfl rfl (by kernel_rfl) (fun _ _ _ h => h) (Or.inl ⟨by rfl, ?_⟩) ?_ ?_
          rotate_left
          · intro w'
            go_simp
            with_reducible rfl
          rotate_left
          · simp only [Act.put, List.setIfInBounds_toArray, List.set_cons_zero, List.set_cons_succ, i64_w, i32_w]
            rfl
          exact norm_ (by simp only [putAll, Act.put, List.setIfInBounds_toArray, List.set_cons_zero, List.set_cons_succ]) (hCont (S1, (w_3).heap.size) _ ⟨hHeld.1, hHeld.2.1, hHeld.2.2, HO.out, KA.out, GA.out, trivial⟩)
      rintro ⟨S11, g11⟩ wj ⟨h0, h1, h2, hOC, hBlk, hGe, _⟩
      have hHeld : wj.heap[gc]? = some (.cells #[.string C.F.m, .bool C.F.b1, .bool C.F.b2, .bool C.F.b3, .bool C.F.b4, .bool C.F.b5, .bool C.F.b6, .slice S.S.A7 C.F.us.length S.S.c7, .slice S.S.A8 C.F.ms.length S.S.c8, .bool C.F.b9, .slice S.S.A10 C.F.vs.length S.S.c10, .int .i64 C.p, .int .i64 C.mx, .bool C.on, .int .i64 C.kn, .slice S.A C.tab.length S.c, .string C.key, .int .i64 C.df] 29 (0, 0)) ∧ wj.cell? (ad.add i) = some (.string s) ∧ Below w_3.heap.size w_3 wj := ⟨h0, h1, h2⟩
      have HBL := Aside0.mk h2
      have HOC := Aside0.mk hOC
      have HBK := Aside0.mk hBlk
      have HGE := Aside0.mk hGe
      clear hOC hBlk hGe h0 h1 h2
      refine norm_ (a' := ?_) ?_ ?_
      rotate_left
      · simp only [putAll, Act.put, List.setIfInBounds_toArray, List.set_cons_zero, List.set_cons_succ]
        rfl
      refine last_ (i := 11) (N := none) #[true, true, true, true, true, true, true, true, true, true, true, true, false] rfl rfl (by kernel_rfl) (by decide) (fun K hK => ?_)
      refine skip_ (w1 := ?_) (by rfl) rfl ?_ ?_
      rotate_left
      · refine exec_store_part 29 (.tmp 11) (.tmp 69) ?_ g11 0 (cellsC C S11) ?_ ?_ 29 _ (cellsC C S11) HBK.out (by kernel_rfl) (Nat.le_of_ble_eq_true rfl) (by kernel_rfl) rfl
        · rfl
        · rfl
        · rfl
      refine hK.out _ _ ?_
      clear hK K
      refine pure_ (i := 12) (N := some 12) (v := ?_) (a' := ?_) #[true, true, true, true, true, true, true, true, true, true, true, true, true] rfl rfl (by kernel_rfl) (fun _ _ _ h => h) (Or.inl ⟨by rfl, ?_⟩) ?_ ?_
      rotate_left
      · intro w'
        go_simp
        with_reducible rfl
      rotate_left
      · simp only [Act.put, List.setIfInBounds_toArray, List.set_cons_zero, List.set_cons_succ, i64_w, i32_w]
        rfl
      refine done_ (by kernel_rfl) ?_
      have hb_ := HBL.out
      have hblk_ := HBK.out
      have hge_ := HGE.out
      have OV_S11 : Aside0 (OC wl.heap.size wj C S11) := ⟨HOC.out.weaken (B4.out).size⟩
      clear HBL HBK HGE HOC
      have E_gc_g11 := Aside0.mk (Nat.lt_of_lt_of_le (blk_lt K4_gc.out) hge_)
      have E_g9_g11 := Aside0.mk (Nat.lt_of_lt_of_le (blk_lt K4_g9.out) hge_)
      have G_g11 := Aside0.mk (Nat.le_trans (B4.out).size hge_)
      have BX_g11 := Aside0.mk hblk_
      have B6 := Aside0.mk (below_step B4.out hb_)
      have K6_gc := Aside0.mk (blk_below K4_gc.out hb_)
      have K6_g9 := Aside0.mk (blk_below K4_g9.out hb_)
      have O6_S9 := Aside0.mk (O4_S9.out.below hb_)
      clear hb_ B4 K4_gc K4_g9 O4_S9
      clear hblk_ hge_
      obtain ⟨w_7, hw_⟩ : ∃ w_, wj.setRow g11 #[.string C.F.m, .bool C.F.b1, .bool C.F.b2, .bool C.F.b3, .bool C.F.b4, .bool C.F.b5, .bool C.F.b6, .slice S11.S.A7 C.F.us.length S11.S.c7, .slice S11.S.A8 C.F.ms.length S11.S.c8, .bool C.F.b9, .slice S11.S.A10 C.F.vs.length S11.S.c10, .int .i64 C.p, .int .i64 C.mx, .bool C.on, .int .i64 C.kn, .slice S11.A C.tab.length S11.c, .string C.key, .int .i64 C.df] = w_ := ⟨_, rfl⟩
      have hu_ : Upd wj w_7 (fun k => k = g11) := by rw [← hw_]; exact Upd.setRow (Upd.refl wj (fun k => k = g11)) (.inl rfl) _
      have kf_ : w_7.heap[g11]? = some (.cells #[.string C.F.m, .bool C.F.b1, .bool C.F.b2, .bool C.F.b3, .bool C.F.b4, .bool C.F.b5, .bool C.F.b6, .slice S11.S.A7 C.F.us.length S11.S.c7, .slice S11.S.A8 C.F.ms.length S11.S.c8, .bool C.F.b9, .slice S11.S.A10 C.F.vs.length S11.S.c10, .int .i64 C.p, .int .i64 C.mx, .bool C.on, .int .i64 C.kn, .slice S11.A C.tab.length S11.c, .string C.key, .int .i64 C.df] 29 (0, 0)) := by rw [← hw_]; exact setRow_heap wj g11 _ #[.string C.F.m, .bool C.F.b1, .bool C.F.b2, .bool C.F.b3, .bool C.F.b4, .bool C.F.b5, .bool C.F.b6, .slice S11.S.A7 C.F.us.length S11.S.c7, .slice S11.S.A8 C.F.ms.length S11.S.c8, .bool C.F.b9, .slice S11.S.A10 C.F.vs.length S11.S.c10, .int .i64 C.p, .int .i64 C.mx, .bool C.on, .int .i64 C.kn, .slice S11.A C.tab.length S11.c, .string C.key, .int .i64 C.df] 29 (0, 0) BX_g11.out
      rw [hw_]
      clear hw_
      have K8_g11 := Aside0.mk (kf_)
      have B8 := Aside0.mk (B6.out.trans (hu_.toBelow (B := wl.heap.size) (fun k hk => by rw [hk]; exact G_g11.out) (B6.out).size))
      have K8_gc := Aside0.mk (hu_.blk K6_gc.out (by have := E_gc_g11.out; omega))
      have K8_g9 := Aside0.mk (hu_.blk K6_g9.out (by have := E_g9_g11.out; omega))
      have O8_S9 := Aside0.mk (O6_S9.out.boxT BX_g11.out (by decide) (by decide) hu_)
      have O8_S11 := Aside0.mk (OV_S11.out.boxT BX_g11.out (by decide) (by decide) hu_)
      clear hu_ B6 K6_gc K6_g9 O6_S9 OV_S11 BX_g11
      clear kf_
      clear hcu' ht z1 z2 z3 z4 z5 z6 z7
      clear hcl0
      go_wp2_with fail
      try rw [wi]
      go_roundg ki
      case measure => omega
      case rel => exact ⟨i + 1, rfl, ⟨by have := hk.out; omega⟩, B8⟩
    · have c1 : decide ((i : Int) < 3) = false := decide_eq_false (by omega)
      go_wp2_with fail
      refine (fixed_c _).mono ?_
      rintro e wf ⟨rfl, hb_⟩
      go_wp2_with fail
      go_ret
      exact ⟨rfl, below_step BW.out hb_⟩
end Go.Proofs.Ytkgbhlcbjflnlaa.Fl
