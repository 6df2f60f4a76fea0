/- Commands and settings: contracts by hand, and the laws over them. -/
import Derived.Test.YtkgbhlcbjflnlaaZOwn
import Derived.Test.YtkgbhlcbjflnlaaZCm
import Derived.Test.YtkgbhlcbjflnlaaZBs
namespace Go.Proofs.Ytkgbhlcbjflnlaa.Fl
open Go Go.RowKit Go.Proofs.YtkgbhlcbjflnlaaW.PrintWords Go.Proofs.YtkgbhlcbjflnlaaW.PrintLast Go.Proofs.YtkgbhlcbjflnlaaW.PrintMore Go.Proofs.Ytkgbhlcbjflnlaa.Mth Go.Proofs.Ytkgbhlcbjflnlaa.P Go.Proofs.Ytkgbhlcbjflnlaa.Own Go.Proofs
set_option linter.unusedVariables false
set_option linter.unusedSimpArgs false
set_option maxHeartbeats 16000000 in
set_option maxRecDepth 100000 in
theorem apart_c (C0 : Cfg) (S : SlC) (O : Cm) (T : SlM) (w : World) (h : CV w C0 S) : Calls Try.prog 4 #[.agg (cellsC C0 S), .agg (cellsM O T)] w fun e w' => e = .returned (.bool true) ∧ Below w.heap.size w w' := by
  obtain ⟨C, hC⟩ : ∃ x, boundC C0 = x := ⟨_, rfl⟩
  have NB : ∀ w, CV w C0 S → Calls Try.prog 9 #[.agg (cellsC C0 S)] w fun e w' => e = .returned (.agg (cellsC C S)) ∧ Below w.heap.size w w' := fun w h => by
    rw [← hC]
    exact bound_c C0 S w h
  have HV0 := Aside0.mk h
  have HV : Aside0 (CV w C S) := ⟨by rw [← hC]; exact h.bound⟩
  have HS : Aside0 (SmallC C) := ⟨by rw [← hC]; exact boundC_small C0⟩
  obtain ⟨n7, hn, ln⟩ := and_nat O.n 3 (by decide)
  obtain ⟨v7, hv, lv⟩ := and_nat O.v 16 (by decide)
  have ln : n7 < 8 := ln
  have lv : v7 < 65536 := lv
  obtain ⟨⟨DA, na⟩, hA⟩ : ∃ x, appS C (rxB n7 O.on) = x := ⟨_, rfl⟩
  have qA := apart_rx C n7 O.on
  rw [hA] at qA
  obtain ⟨⟨DB, nb⟩, hB⟩ : ∃ x, appS C (vlanB v7 O.on) = x := ⟨_, rfl⟩
  have qB := apart_vl C v7 O.on
  rw [hB] at qB
  have PA := Aside0.mk hA
  have PB := Aside0.mk hB
  have QA := Aside0.mk qA
  have QB := Aside0.mk qB
  have NRX : ∀ w, Calls Try.prog 14 #[.int .i64 (n7 : Int), .bool O.on] w fun e w' => e = .returned (.string (rxB n7 O.on)) ∧ Below w.heap.size w w' := fun w => rx_cmd n7 O.on w (by omega)
  have NVL : ∀ w, Calls Try.prog 15 #[.int .i64 (v7 : Int), .bool O.on] w fun e w' => e = .returned (.string (vlanB v7 O.on)) ∧ Below w.heap.size w w' := fun w => vlan_cmd v7 O.on w (by omega)
  have hn' : Go.bits .and .i64 O.n 7 = (n7 : Int) := hn
  have hv' : Go.bits .and .i64 O.v 65535 = (v7 : Int) := hv
  clear h hC hn hv ln lv hA hB qA qB
  have hu25 := Try.underlying25
  have hu27 := Try.underlying27
  have hu29 := Try.underlying29
  go_enter Try.func4, Try.ntmps4
  have hu37 := Try.underlying37
  go_upto_region 1 with (fail)
  obtain ⟨w_1, hw_gc⟩ : ∃ w_, w.alloc (.cells #[.string C0.F.m, .bool C0.F.b1, .bool C0.F.b2, .bool C0.F.b3, .bool C0.F.b4, .bool C0.F.b5, .bool C0.F.b6, .slice S.S.A7 C0.F.us.length S.S.c7, .slice S.S.A8 C0.F.ms.length S.S.c8, .bool C0.F.b9, .slice S.S.A10 C0.F.vs.length S.S.c10, .int .i64 C0.p, .int .i64 C0.mx, .bool C0.on, .int .i64 C0.kn, .slice S.A C0.tab.length S.c, .string C0.key, .int .i64 C0.df] 29) = w_ := ⟨_, rfl⟩
  rw [hw_gc]
  obtain ⟨w_2, hw_go⟩ : ∃ w_, w_1.alloc (.cells #[.int .i64 O.n, .int .i64 O.v, .int .i64 O.p, .bool O.on, .slice T.A4 O.us.length T.c4, .slice T.A5 O.ms.length T.c5, .string O.m, .int .i64 O.kn, .slice T.A8 O.tab.length T.c8, .string O.key, .int .i64 O.df] 37) = w_ := ⟨_, rfl⟩
  rw [hw_go]
  have z_gc : w_1.heap.size = w.heap.size + 1 := by rw [← hw_gc]; simp
  have ha_ : Below w.heap.size w w_1 := by rw [← hw_gc]; exact below_alloc (Below.refl _ _) _
  have BX1 : Aside0 (w_1.heap[w.heap.size]? = some (.cells #[.string C0.F.m, .bool C0.F.b1, .bool C0.F.b2, .bool C0.F.b3, .bool C0.F.b4, .bool C0.F.b5, .bool C0.F.b6, .slice S.S.A7 C0.F.us.length S.S.c7, .slice S.S.A8 C0.F.ms.length S.S.c8, .bool C0.F.b9, .slice S.S.A10 C0.F.vs.length S.S.c10, .int .i64 C0.p, .int .i64 C0.mx, .bool C0.on, .int .i64 C0.kn, .slice S.A C0.tab.length S.c, .string C0.key, .int .i64 C0.df] 29 (0, 0))) := ⟨by rw [← hw_gc]; exact blk_new w _⟩
  have hgB : w.heap.size ≤ w.heap.size := ((Below.refl w.heap.size w)).size
  clear hw_gc
  obtain ⟨gc, hg_⟩ : ∃ g_, w.heap.size = g_ := ⟨_, rfl⟩
  have G_gc : Aside0 (w.heap.size ≤ gc) := ⟨Nat.le_trans hgB (Nat.le_of_eq hg_)⟩
  rw [hg_] at BX1 z_gc
  (try rw [hg_])
  clear hgB
  clear hg_
  have B3 := Aside0.mk (below_step (Below.refl w.heap.size w) ha_)
  clear ha_ 
  have z_go : w_2.heap.size = w_1.heap.size + 1 := by rw [← hw_go]; simp
  have ha_ : Below w_1.heap.size w_1 w_2 := by rw [← hw_go]; exact below_alloc (Below.refl _ _) _
  have BX2 : Aside0 (w_2.heap[w_1.heap.size]? = some (.cells #[.int .i64 O.n, .int .i64 O.v, .int .i64 O.p, .bool O.on, .slice T.A4 O.us.length T.c4, .slice T.A5 O.ms.length T.c5, .string O.m, .int .i64 O.kn, .slice T.A8 O.tab.length T.c8, .string O.key, .int .i64 O.df] 37 (0, 0))) := ⟨by rw [← hw_go]; exact blk_new w_1 _⟩
  have hgB : w.heap.size ≤ w_1.heap.size := (B3.out).size
  have hl_gc : gc < w_1.heap.size := blk_lt BX1.out
  clear hw_go
  obtain ⟨go, hg_⟩ : ∃ g_, w_1.heap.size = g_ := ⟨_, rfl⟩
  have G_go : Aside0 (w.heap.size ≤ go) := ⟨Nat.le_trans hgB (Nat.le_of_eq hg_)⟩
  rw [hg_] at BX2 z_go hl_gc
  have E_gc_go := Aside0.mk hl_gc
  clear hl_gc
  (try rw [hg_])
  clear hgB
  have zz_ : gc + 1 = go := by omega
  (try rw [zz_])
  clear zz_
  clear hg_
  have B4 := Aside0.mk (below_step B3.out ha_)
  have K4_gc := Aside0.mk (blk_below BX1.out ha_)
  clear ha_ B3 BX1
  clear z_gc z_go
  go_wp2_with (refine wpList_load_row rfl 29 (.tmp 2) rfl gc rfl 29 #[.string C0.F.m, .bool C0.F.b1, .bool C0.F.b2, .bool C0.F.b3, .bool C0.F.b4, .bool C0.F.b5, .bool C0.F.b6, .slice S.S.A7 C0.F.us.length S.S.c7, .slice S.S.A8 C0.F.ms.length S.S.c8, .bool C0.F.b9, .slice S.S.A10 C0.F.vs.length S.S.c10, .int .i64 C0.p, .int .i64 C0.mx, .bool C0.on, .int .i64 C0.kn, .slice S.A C0.tab.length S.c, .string C0.key, .int .i64 C0.df] (0, 0) _ K4_gc.out Try.underlying29 rfl (by kernel_rfl) ?_)
  refine (NB _ (HV0.out.below B4.out)).mono ?_
  rintro e wb ⟨rfl, hb_⟩
  have B5 := Aside0.mk (below_step B4.out hb_)
  have K5_gc := Aside0.mk (blk_below K4_gc.out hb_)
  have K5_go := Aside0.mk (blk_below BX2.out hb_)
  clear hb_ B4 K4_gc BX2
  go_upto_region 2 with (refine wpList_store_row rfl 29 (.tmp 2) (.tmp 12) rfl gc #[.string C.F.m, .bool C.F.b1, .bool C.F.b2, .bool C.F.b3, .bool C.F.b4, .bool C.F.b5, .bool C.F.b6, .slice S.S.A7 C.F.us.length S.S.c7, .slice S.S.A8 C.F.ms.length S.S.c8, .bool C.F.b9, .slice S.S.A10 C.F.vs.length S.S.c10, .int .i64 C.p, .int .i64 C.mx, .bool C.on, .int .i64 C.kn, .slice S.A C.tab.length S.c, .string C.key, .int .i64 C.df] rfl rfl 29 #[.string C0.F.m, .bool C0.F.b1, .bool C0.F.b2, .bool C0.F.b3, .bool C0.F.b4, .bool C0.F.b5, .bool C0.F.b6, .slice S.S.A7 C0.F.us.length S.S.c7, .slice S.S.A8 C0.F.ms.length S.S.c8, .bool C0.F.b9, .slice S.S.A10 C0.F.vs.length S.S.c10, .int .i64 C0.p, .int .i64 C0.mx, .bool C0.on, .int .i64 C0.kn, .slice S.A C0.tab.length S.c, .string C0.key, .int .i64 C0.df] K5_gc.out (by kernel_rfl) rfl (by kernel_rfl) ?_)
  obtain ⟨w_6, hw_⟩ : ∃ w_, wb.setRow gc #[.string C.F.m, .bool C.F.b1, .bool C.F.b2, .bool C.F.b3, .bool C.F.b4, .bool C.F.b5, .bool C.F.b6, .slice S.S.A7 C.F.us.length S.S.c7, .slice S.S.A8 C.F.ms.length S.S.c8, .bool C.F.b9, .slice S.S.A10 C.F.vs.length S.S.c10, .int .i64 C.p, .int .i64 C.mx, .bool C.on, .int .i64 C.kn, .slice S.A C.tab.length S.c, .string C.key, .int .i64 C.df] = w_ := ⟨_, rfl⟩
  have hu_ : Upd wb w_6 (fun k => k = gc) := by rw [← hw_]; exact Upd.setRow (Upd.refl wb (fun k => k = gc)) (.inl rfl) _
  have kf_ : w_6.heap[gc]? = some (.cells #[.string C.F.m, .bool C.F.b1, .bool C.F.b2, .bool C.F.b3, .bool C.F.b4, .bool C.F.b5, .bool C.F.b6, .slice S.S.A7 C.F.us.length S.S.c7, .slice S.S.A8 C.F.ms.length S.S.c8, .bool C.F.b9, .slice S.S.A10 C.F.vs.length S.S.c10, .int .i64 C.p, .int .i64 C.mx, .bool C.on, .int .i64 C.kn, .slice S.A C.tab.length S.c, .string C.key, .int .i64 C.df] 29 (0, 0)) := by rw [← hw_]; exact setRow_heap wb gc _ #[.string C.F.m, .bool C.F.b1, .bool C.F.b2, .bool C.F.b3, .bool C.F.b4, .bool C.F.b5, .bool C.F.b6, .slice S.S.A7 C.F.us.length S.S.c7, .slice S.S.A8 C.F.ms.length S.S.c8, .bool C.F.b9, .slice S.S.A10 C.F.vs.length S.S.c10, .int .i64 C.p, .int .i64 C.mx, .bool C.on, .int .i64 C.kn, .slice S.A C.tab.length S.c, .string C.key, .int .i64 C.df] 29 (0, 0) K5_gc.out
  rw [hw_]
  clear hw_
  have K7_gc := Aside0.mk (kf_)
  have B7 := Aside0.mk (B5.out.trans (hu_.toBelow (B := w.heap.size) (fun k hk => by rw [hk]; exact G_gc.out) (B5.out).size))
  have K7_go := Aside0.mk (hu_.blk K5_go.out (by have := E_gc_go.out; omega))
  clear hu_ B5 K5_go K5_gc
  clear kf_
  refine start_ (n := 14) (S := fun w' => w'.heap[gc]? = some (.cells #[.string C.F.m, .bool C.F.b1, .bool C.F.b2, .bool C.F.b3, .bool C.F.b4, .bool C.F.b5, .bool C.F.b6, .slice S.S.A7 C.F.us.length S.S.c7, .slice S.S.A8 C.F.ms.length S.S.c8, .bool C.F.b9, .slice S.S.A10 C.F.vs.length S.S.c10, .int .i64 C.p, .int .i64 C.mx, .bool C.on, .int .i64 C.kn, .slice S.A C.tab.length S.c, .string C.key, .int .i64 C.df] 29 (0, 0)) ∧ w'.cell? ⟨go, 0, none⟩ = some (.int .i64 O.n) ∧ w'.cell? ⟨go, 3, none⟩ = some (.bool O.on) ∧ Below w_6.heap.size w_6 w') (ds := [12]) (bsq 14 0) (by kernel_rfl) rfl rfl ⟨(blk_below K7_gc.out (below_drew1 (Below.refl _ _))), (blk_cell K7_go.out 0).trans rfl, (blk_cell K7_go.out 3).trans rfl, below_drew1 (Below.refl _ _)⟩ (fun hHeld => ?_)
  refine pure_ (i := 1) (N := some 15) (v := ?_) (a' := ?_) (bsq 14 2) rfl rfl (by kernel_rfl) (fun _ _ _ h => h) (Or.inl ⟨by rfl, ?_⟩) ?_ ?_
  rotate_left
  · intro w'
    go_simp
    with_reducible rfl
  rotate_left
  · simp only [Act.put, List.setIfInBounds_toArray, List.set_cons_zero, List.set_cons_succ, i64_w, i32_w]
    rfl
  refine pure_ (i := 4) (N := some 18) (v := ?_) (a' := ?_) (bsq 14 18) rfl rfl (by kernel_rfl) (fun _ _ _ h => h) (Or.inl ⟨by rfl, ?_⟩) ?_ ?_
  rotate_left
  · intro w'
    go_simp
    with_reducible rfl
  rotate_left
  · simp only [Act.put, List.setIfInBounds_toArray, List.set_cons_zero, List.set_cons_succ, i64_w, i32_w]
    rfl
  refine take_ (i := 0) (N := some 14) (v := ?_) (a' := ?_) (bsq 14 19) rfl rfl (by kernel_rfl) (fun _ _ _ h => h) (Or.inl ⟨by rfl, ?_⟩) hHeld ?_ ?_
  rotate_left
  · rintro w' ⟨s0, s1, s2, s3⟩
    refine exec_load_part 29 (.tmp 2) ?_ gc 0 ?_ 29 #[.string C.F.m, .bool C.F.b1, .bool C.F.b2, .bool C.F.b3, .bool C.F.b4, .bool C.F.b5, .bool C.F.b6, .slice S.S.A7 C.F.us.length S.S.c7, .slice S.S.A8 C.F.ms.length S.S.c8, .bool C.F.b9, .slice S.S.A10 C.F.vs.length S.S.c10, .int .i64 C.p, .int .i64 C.mx, .bool C.on, .int .i64 C.kn, .slice S.A C.tab.length S.c, .string C.key, .int .i64 C.df] (cellsC C S) (0, 0) _ s0 Try.underlying29 rfl (by kernel_rfl) rfl
    · rfl
    · rfl
  rotate_left
  · simp only [Act.put, List.setIfInBounds_toArray, List.set_cons_zero, List.set_cons_succ, i64_w, i32_w]
    rfl
  refine take_ (i := 2) (N := some 16) (v := ?_) (a' := ?_) (bsq 14 23) rfl rfl (by kernel_rfl) (fun _ _ _ h => h) (Or.inl ⟨by rfl, ?_⟩) hHeld ?_ ?_
  rotate_left
  · rintro w' ⟨s0, s1, s2, s3⟩
    go_simp
    with_reducible rfl
  rotate_left
  · simp only [Act.put, List.setIfInBounds_toArray, List.set_cons_zero, List.set_cons_succ, i64_w, i32_w]
    rfl
  refine pure_ (i := 3) (N := some 17) (v := ?_) (a' := ?_) (bsq 14 31) rfl rfl (by kernel_rfl) (fun _ _ _ h => h) (Or.inl ⟨by rfl, ?_⟩) ?_ ?_
  rotate_left
  · intro w'
    go_simp
    with_reducible rfl
  rotate_left
  · simp only [Act.put, List.setIfInBounds_toArray, List.set_cons_zero, List.set_cons_succ, i64_w, i32_w]
    rfl
  refine take_ (i := 5) (N := some 19) (v := ?_) (a' := ?_) (bsq 14 63) rfl rfl (by kernel_rfl) (fun _ _ _ h => h) (Or.inl ⟨by rfl, ?_⟩) hHeld ?_ ?_
  rotate_left
  · rintro w' ⟨s0, s1, s2, s3⟩
    go_simp
    with_reducible rfl
  rotate_left
  · simp only [Act.put, List.setIfInBounds_toArray, List.set_cons_zero, List.set_cons_succ, i64_w, i32_w]
    rfl
  refine join_ (σ := SlC × Nat) 2 (bsq 14 4095) (fun s => [(20, .string (rxB n7 O.on)), (21, .tuple #[.agg (cellsC DA s.1), .int .i64 na]), (13, .tuple #[.agg (cellsC DA s.1), .int .i64 na]), (22, .agg (cellsC DA s.1)), (23, .int .i64 na), (5, .pointer (some ⟨s.2, 0, none⟩))]) (fun s w' => w'.heap[gc]? = some (.cells #[.string C.F.m, .bool C.F.b1, .bool C.F.b2, .bool C.F.b3, .bool C.F.b4, .bool C.F.b5, .bool C.F.b6, .slice S.S.A7 C.F.us.length S.S.c7, .slice S.S.A8 C.F.ms.length S.S.c8, .bool C.F.b9, .slice S.S.A10 C.F.vs.length S.S.c10, .int .i64 C.p, .int .i64 C.mx, .bool C.on, .int .i64 C.kn, .slice S.A C.tab.length S.c, .string C.key, .int .i64 C.df] 29 (0, 0)) ∧ w'.cell? ⟨go, 0, none⟩ = some (.int .i64 O.n) ∧ w'.cell? ⟨go, 3, none⟩ = some (.bool O.on) ∧ Below w_6.heap.size w_6 w' ∧ OC w_6.heap.size w' DA s.1 ∧ w'.heap[s.2]? = some (.cells #[.string ⟨#[]⟩, .bool false, .bool false, .bool false, .bool false, .bool false, .bool false, .slice none 0 0, .slice none 0 0, .bool false, .slice none 0 0, .int .i64 0, .int .i64 0, .bool false, .int .i64 0, .slice none 0 0, .string ⟨#[]⟩, .int .i64 0] 29 (0, 0)) ∧ w_6.heap.size ≤ s.2 ∧ True) ?_ ?_
  rotate_left
  · intro hCont
    refine two_ (i := 6) (j := 11) (Ni := some 20) (Nj := some 5) (bsq 14 127) (bsq 14 2111) rfl rfl rfl rfl (by kernel_rfl) (by decide) (by decide) (fun K hK => ?_) (fun K hK => ?_)
    · skip
      refine goes_ Try.func14 (by kernel_rfl) rfl #[.int .i64 (n7 : Int), .bool O.on] (by rfl) rfl rfl (by simp only [List.map_toArray, List.map_cons, List.map_nil]; rfl) ?_
      with_reducible refine (NRX _).mono ?_
      rintro e wc ⟨rfl, hc⟩
      refine ⟨_, rfl, ?_⟩
      have HC := Aside0.mk hc
      clear hc
      refine hK.out _ _ ⟨(blk_below hHeld.1 HC.out), pw_cell_below HC.out hHeld.2.1, pw_cell_below HC.out hHeld.2.2.1, below_step hHeld.2.2.2 HC.out⟩ (fun hHeld => ?_)
      clear hK K
      refine norm_ (a' := ?_) ?_ ?_
      rotate_left
      · show Act.put _ (some 20) _ = _
        simp only [Act.put, List.setIfInBounds_toArray, List.set_cons_zero, List.set_cons_succ, i64_w, i32_w]
        rfl
      refine two_ (i := 7) (j := 11) (Ni := some 21) (Nj := some 5) (bsq 14 255) (bsq 14 2175) rfl rfl rfl rfl (by kernel_rfl) (by decide) (by decide) (fun K hK => ?_) (fun K hK => ?_)
      · skip
        refine goes_ Try.func11 (by kernel_rfl) rfl #[.agg (cellsC C S), .string (rxB n7 O.on)] (by rfl) rfl rfl (by simp only [List.map_toArray, List.map_cons, List.map_nil]; rfl) ?_
        with_reducible refine (apply2_c C DA S (rxB n7 O.on) na PA.out _ (HV.out.below (below_step B7.out (hHeld.2.2.2))) HS.out).mono ?_
        rintro e wr ⟨S1, rfl, ho, hr⟩
        refine ⟨_, rfl, ?_⟩
        have HR := Aside0.mk hr
        have HO := Aside0.mk (ho.weaken (hHeld.2.2.2).size)
        clear hr ho
        refine hK.out _ _ ⟨(blk_below hHeld.1 HR.out), pw_cell_below HR.out hHeld.2.1, pw_cell_below HR.out hHeld.2.2.1, below_step hHeld.2.2.2 HR.out⟩ (fun hHeld => ?_)
        clear hK K
        refine norm_ (a' := ?_) ?_ ?_
        rotate_left
        · show Act.put _ (some 21) _ = _
          simp only [Act.put, List.setIfInBounds_toArray, List.set_cons_zero, List.set_cons_succ, i64_w, i32_w]
          rfl
        refine pure_ (i := 8) (N := some 13) (v := ?_) (a' := ?_) (bsq 14 511) rfl rfl (by kernel_rfl) (fun _ _ _ h => h) (Or.inl ⟨by rfl, ?_⟩) ?_ ?_
        rotate_left
        · intro w'
          go_simp
          with_reducible rfl
        rotate_left
        · simp only [Act.put, List.setIfInBounds_toArray, List.set_cons_zero, List.set_cons_succ, i64_w, i32_w]
          rfl
        refine pure_ (i := 9) (N := some 22) (v := ?_) (a' := ?_) (bsq 14 1023) rfl rfl (by kernel_rfl) (fun _ _ _ h => h) (Or.inl ⟨by rfl, ?_⟩) ?_ ?_
        rotate_left
        · intro w'
          go_simp
          with_reducible rfl
        rotate_left
        · simp only [Act.put, List.setIfInBounds_toArray, List.set_cons_zero, List.set_cons_succ, i64_w, i32_w]
          rfl
        refine pure_ (i := 10) (N := some 23) (v := ?_) (a' := ?_) (bsq 14 2047) rfl rfl (by kernel_rfl) (fun _ _ _ h => h) (Or.inl ⟨by rfl, ?_⟩) ?_ ?_
        rotate_left
        · intro w'
          go_simp
          with_reducible rfl
        rotate_left
        · simp only [Act.put, List.setIfInBounds_toArray, List.set_cons_zero, List.set_cons_succ, i64_w, i32_w]
          rfl
        refine one_ (i := 11) (N := some 5) (bsq 14 4095) rfl rfl (by kernel_rfl) (by decide) (fun K hK => ?_)
        refine value_ (w1 := ?_) (v := ?_) (by rfl) rfl ?_ ?_
        rotate_left 2
        · go_simp
          constructor
          · rfl
          · rfl
        have KA := Aside0.mk (blk_new (wr) (.cells #[.string ⟨#[]⟩, .bool false, .bool false, .bool false, .bool false, .bool false, .bool false, .slice none 0 0, .slice none 0 0, .bool false, .slice none 0 0, .int .i64 0, .int .i64 0, .bool false, .int .i64 0, .slice none 0 0, .string ⟨#[]⟩, .int .i64 0] 29))
        have hga : w_6.heap.size ≤ (wr).heap.size := (hHeld.2.2.2).size
        have GA := Aside0.mk hga
        clear hga
        refine hK.out _ _ ⟨(blk_below hHeld.1 (below_alloc (Below.refl _ _) (.cells #[.string ⟨#[]⟩, .bool false, .bool false, .bool false, .bool false, .bool false, .bool false, .slice none 0 0, .slice none 0 0, .bool false, .slice none 0 0, .int .i64 0, .int .i64 0, .bool false, .int .i64 0, .slice none 0 0, .string ⟨#[]⟩, .int .i64 0] 29))), pw_cell_below (below_alloc (Below.refl _ _) (.cells #[.string ⟨#[]⟩, .bool false, .bool false, .bool false, .bool false, .bool false, .bool false, .slice none 0 0, .slice none 0 0, .bool false, .slice none 0 0, .int .i64 0, .int .i64 0, .bool false, .int .i64 0, .slice none 0 0, .string ⟨#[]⟩, .int .i64 0] 29)) hHeld.2.1, pw_cell_below (below_alloc (Below.refl _ _) (.cells #[.string ⟨#[]⟩, .bool false, .bool false, .bool false, .bool false, .bool false, .bool false, .slice none 0 0, .slice none 0 0, .bool false, .slice none 0 0, .int .i64 0, .int .i64 0, .bool false, .int .i64 0, .slice none 0 0, .string ⟨#[]⟩, .int .i64 0] 29)) hHeld.2.2.1, below_step hHeld.2.2.2 (below_alloc (Below.refl _ _) (.cells #[.string ⟨#[]⟩, .bool false, .bool false, .bool false, .bool false, .bool false, .bool false, .slice none 0 0, .slice none 0 0, .bool false, .slice none 0 0, .int .i64 0, .int .i64 0, .bool false, .int .i64 0, .slice none 0 0, .string ⟨#[]⟩, .int .i64 0] 29))⟩ (fun hHeld => ?_)
        clear hK K
        refine norm_ (a' := ?_) ?_ ?_
        rotate_left
        · show Act.put _ (some 5) _ = _
          simp only [Act.put, List.setIfInBounds_toArray, List.set_cons_zero, List.set_cons_succ, i64_w, i32_w]
          rfl
        exact norm_ (by simp only [putAll, Act.put, List.setIfInBounds_toArray, List.set_cons_zero, List.set_cons_succ]) (hCont (S1, (wr).heap.size) _ ⟨hHeld.1, hHeld.2.1, hHeld.2.2.1, hHeld.2.2.2, (HO.out.below (below_alloc (Below.refl _ _) (.cells #[.string ⟨#[]⟩, .bool false, .bool false, .bool false, .bool false, .bool false, .bool false, .slice none 0 0, .slice none 0 0, .bool false, .slice none 0 0, .int .i64 0, .int .i64 0, .bool false, .int .i64 0, .slice none 0 0, .string ⟨#[]⟩, .int .i64 0] 29))), KA.out, GA.out, trivial⟩)
      · skip
        refine value_ (w1 := ?_) (v := ?_) (by rfl) rfl ?_ ?_
        rotate_left 2
        · go_simp
          constructor
          · rfl
          · rfl
        have KA := Aside0.mk (blk_new (wc) (.cells #[.string ⟨#[]⟩, .bool false, .bool false, .bool false, .bool false, .bool false, .bool false, .slice none 0 0, .slice none 0 0, .bool false, .slice none 0 0, .int .i64 0, .int .i64 0, .bool false, .int .i64 0, .slice none 0 0, .string ⟨#[]⟩, .int .i64 0] 29))
        have hga : w_6.heap.size ≤ (wc).heap.size := (hHeld.2.2.2).size
        have GA := Aside0.mk hga
        clear hga
        refine hK.out _ _ ⟨(blk_below hHeld.1 (below_alloc (Below.refl _ _) (.cells #[.string ⟨#[]⟩, .bool false, .bool false, .bool false, .bool false, .bool false, .bool false, .slice none 0 0, .slice none 0 0, .bool false, .slice none 0 0, .int .i64 0, .int .i64 0, .bool false, .int .i64 0, .slice none 0 0, .string ⟨#[]⟩, .int .i64 0] 29))), pw_cell_below (below_alloc (Below.refl _ _) (.cells #[.string ⟨#[]⟩, .bool false, .bool false, .bool false, .bool false, .bool false, .bool false, .slice none 0 0, .slice none 0 0, .bool false, .slice none 0 0, .int .i64 0, .int .i64 0, .bool false, .int .i64 0, .slice none 0 0, .string ⟨#[]⟩, .int .i64 0] 29)) hHeld.2.1, pw_cell_below (below_alloc (Below.refl _ _) (.cells #[.string ⟨#[]⟩, .bool false, .bool false, .bool false, .bool false, .bool false, .bool false, .slice none 0 0, .slice none 0 0, .bool false, .slice none 0 0, .int .i64 0, .int .i64 0, .bool false, .int .i64 0, .slice none 0 0, .string ⟨#[]⟩, .int .i64 0] 29)) hHeld.2.2.1, below_step hHeld.2.2.2 (below_alloc (Below.refl _ _) (.cells #[.string ⟨#[]⟩, .bool false, .bool false, .bool false, .bool false, .bool false, .bool false, .slice none 0 0, .slice none 0 0, .bool false, .slice none 0 0, .int .i64 0, .int .i64 0, .bool false, .int .i64 0, .slice none 0 0, .string ⟨#[]⟩, .int .i64 0] 29))⟩ (fun hHeld => ?_)
        clear hK K
        refine norm_ (a' := ?_) ?_ ?_
        rotate_left
        · show Act.put _ (some 5) _ = _
          simp only [Act.put, List.setIfInBounds_toArray, List.set_cons_zero, List.set_cons_succ, i64_w, i32_w]
          rfl
        refine one_ (i := 7) (N := some 21) (bsq 14 2303) rfl rfl (by kernel_rfl) (by decide) (fun K hK => ?_)
        refine goes_ Try.func11 (by kernel_rfl) rfl #[.agg (cellsC C S), .string (rxB n7 O.on)] (by rfl) rfl rfl (by simp only [List.map_toArray, List.map_cons, List.map_nil]; rfl) ?_
        with_reducible refine (apply2_c C DA S (rxB n7 O.on) na PA.out _ (HV.out.below (below_step B7.out (hHeld.2.2.2))) HS.out).mono ?_
        rintro e wr ⟨S1, rfl, ho, hr⟩
        refine ⟨_, rfl, ?_⟩
        have HR := Aside0.mk hr
        have HO := Aside0.mk (ho.weaken (hHeld.2.2.2).size)
        clear hr ho
        have KB := Aside0.mk (blk_below KA.out HR.out)
        clear KA
        have KA := KB
        clear KB
        refine hK.out _ _ ⟨(blk_below hHeld.1 HR.out), pw_cell_below HR.out hHeld.2.1, pw_cell_below HR.out hHeld.2.2.1, below_step hHeld.2.2.2 HR.out⟩ (fun hHeld => ?_)
        clear hK K
        refine norm_ (a' := ?_) ?_ ?_
        rotate_left
        · show Act.put _ (some 21) _ = _
          simp only [Act.put, List.setIfInBounds_toArray, List.set_cons_zero, List.set_cons_succ, i64_w, i32_w]
          rfl
        refine pure_ (i := 8) (N := some 13) (v := ?_) (a' := ?_) (bsq 14 2559) rfl rfl (by kernel_rfl) (fun _ _ _ h => h) (Or.inl ⟨by rfl, ?_⟩) ?_ ?_
        rotate_left
        · intro w'
          go_simp
          with_reducible rfl
        rotate_left
        · simp only [Act.put, List.setIfInBounds_toArray, List.set_cons_zero, List.set_cons_succ, i64_w, i32_w]
          rfl
        refine pure_ (i := 9) (N := some 22) (v := ?_) (a' := ?_) (bsq 14 3071) rfl rfl (by kernel_rfl) (fun _ _ _ h => h) (Or.inl ⟨by rfl, ?_⟩) ?_ ?_
        rotate_left
        · intro w'
          go_simp
          with_reducible rfl
        rotate_left
        · simp only [Act.put, List.setIfInBounds_toArray, List.set_cons_zero, List.set_cons_succ, i64_w, i32_w]
          rfl
        refine pure_ (i := 10) (N := some 23) (v := ?_) (a' := ?_) (bsq 14 4095) rfl rfl (by kernel_rfl) (fun _ _ _ h => h) (Or.inl ⟨by rfl, ?_⟩) ?_ ?_
        rotate_left
        · intro w'
          go_simp
          with_reducible rfl
        rotate_left
        · simp only [Act.put, List.setIfInBounds_toArray, List.set_cons_zero, List.set_cons_succ, i64_w, i32_w]
          rfl
        exact norm_ (by simp only [putAll, Act.put, List.setIfInBounds_toArray, List.set_cons_zero, List.set_cons_succ]) (hCont (S1, (wc).heap.size) _ ⟨hHeld.1, hHeld.2.1, hHeld.2.2.1, hHeld.2.2.2, HO.out, KA.out, GA.out, trivial⟩)
    · skip
      refine value_ (w1 := ?_) (v := ?_) (by rfl) rfl ?_ ?_
      rotate_left 2
      · go_simp
        constructor
        · rfl
        · rfl
      have KA := Aside0.mk (blk_new (w_6.drew) (.cells #[.string ⟨#[]⟩, .bool false, .bool false, .bool false, .bool false, .bool false, .bool false, .slice none 0 0, .slice none 0 0, .bool false, .slice none 0 0, .int .i64 0, .int .i64 0, .bool false, .int .i64 0, .slice none 0 0, .string ⟨#[]⟩, .int .i64 0] 29))
      have hga : w_6.heap.size ≤ (w_6.drew).heap.size := (hHeld.2.2.2).size
      have GA := Aside0.mk hga
      clear hga
      refine hK.out _ _ ⟨(blk_below hHeld.1 (below_alloc (Below.refl _ _) (.cells #[.string ⟨#[]⟩, .bool false, .bool false, .bool false, .bool false, .bool false, .bool false, .slice none 0 0, .slice none 0 0, .bool false, .slice none 0 0, .int .i64 0, .int .i64 0, .bool false, .int .i64 0, .slice none 0 0, .string ⟨#[]⟩, .int .i64 0] 29))), pw_cell_below (below_alloc (Below.refl _ _) (.cells #[.string ⟨#[]⟩, .bool false, .bool false, .bool false, .bool false, .bool false, .bool false, .slice none 0 0, .slice none 0 0, .bool false, .slice none 0 0, .int .i64 0, .int .i64 0, .bool false, .int .i64 0, .slice none 0 0, .string ⟨#[]⟩, .int .i64 0] 29)) hHeld.2.1, pw_cell_below (below_alloc (Below.refl _ _) (.cells #[.string ⟨#[]⟩, .bool false, .bool false, .bool false, .bool false, .bool false, .bool false, .slice none 0 0, .slice none 0 0, .bool false, .slice none 0 0, .int .i64 0, .int .i64 0, .bool false, .int .i64 0, .slice none 0 0, .string ⟨#[]⟩, .int .i64 0] 29)) hHeld.2.2.1, below_step hHeld.2.2.2 (below_alloc (Below.refl _ _) (.cells #[.string ⟨#[]⟩, .bool false, .bool false, .bool false, .bool false, .bool false, .bool false, .slice none 0 0, .slice none 0 0, .bool false, .slice none 0 0, .int .i64 0, .int .i64 0, .bool false, .int .i64 0, .slice none 0 0, .string ⟨#[]⟩, .int .i64 0] 29))⟩ (fun hHeld => ?_)
      clear hK K
      refine norm_ (a' := ?_) ?_ ?_
      rotate_left
      · show Act.put _ (some 5) _ = _
        simp only [Act.put, List.setIfInBounds_toArray, List.set_cons_zero, List.set_cons_succ, i64_w, i32_w]
        rfl
      refine one_ (i := 6) (N := some 20) (bsq 14 2175) rfl rfl (by kernel_rfl) (by decide) (fun K hK => ?_)
      refine goes_ Try.func14 (by kernel_rfl) rfl #[.int .i64 (n7 : Int), .bool O.on] (by rfl) rfl rfl (by simp only [List.map_toArray, List.map_cons, List.map_nil]; rfl) ?_
      with_reducible refine (NRX _).mono ?_
      rintro e wc ⟨rfl, hc⟩
      refine ⟨_, rfl, ?_⟩
      have HC := Aside0.mk hc
      clear hc
      have KB := Aside0.mk (blk_below KA.out HC.out)
      clear KA
      have KA := KB
      clear KB
      refine hK.out _ _ ⟨(blk_below hHeld.1 HC.out), pw_cell_below HC.out hHeld.2.1, pw_cell_below HC.out hHeld.2.2.1, below_step hHeld.2.2.2 HC.out⟩ (fun hHeld => ?_)
      clear hK K
      refine norm_ (a' := ?_) ?_ ?_
      rotate_left
      · show Act.put _ (some 20) _ = _
        simp only [Act.put, List.setIfInBounds_toArray, List.set_cons_zero, List.set_cons_succ, i64_w, i32_w]
        rfl
      refine one_ (i := 7) (N := some 21) (bsq 14 2303) rfl rfl (by kernel_rfl) (by decide) (fun K hK => ?_)
      refine goes_ Try.func11 (by kernel_rfl) rfl #[.agg (cellsC C S), .string (rxB n7 O.on)] (by rfl) rfl rfl (by simp only [List.map_toArray, List.map_cons, List.map_nil]; rfl) ?_
      with_reducible refine (apply2_c C DA S (rxB n7 O.on) na PA.out _ (HV.out.below (below_step B7.out (hHeld.2.2.2))) HS.out).mono ?_
      rintro e wr ⟨S1, rfl, ho, hr⟩
      refine ⟨_, rfl, ?_⟩
      have HR := Aside0.mk hr
      have HO := Aside0.mk (ho.weaken (hHeld.2.2.2).size)
      clear hr ho
      have KB := Aside0.mk (blk_below KA.out HR.out)
      clear KA
      have KA := KB
      clear KB
      refine hK.out _ _ ⟨(blk_below hHeld.1 HR.out), pw_cell_below HR.out hHeld.2.1, pw_cell_below HR.out hHeld.2.2.1, below_step hHeld.2.2.2 HR.out⟩ (fun hHeld => ?_)
      clear hK K
      refine norm_ (a' := ?_) ?_ ?_
      rotate_left
      · show Act.put _ (some 21) _ = _
        simp only [Act.put, List.setIfInBounds_toArray, List.set_cons_zero, List.set_cons_succ, i64_w, i32_w]
        rfl
      refine pure_ (i := 8) (N := some 13) (v := ?_) (a' := ?_) (bsq 14 2559) rfl rfl (by kernel_rfl) (fun _ _ _ h => h) (Or.inl ⟨by rfl, ?_⟩) ?_ ?_
      rotate_left
      · intro w'
        go_simp
        with_reducible rfl
      rotate_left
      · simp only [Act.put, List.setIfInBounds_toArray, List.set_cons_zero, List.set_cons_succ, i64_w, i32_w]
        rfl
      refine pure_ (i := 9) (N := some 22) (v := ?_) (a' := ?_) (bsq 14 3071) rfl rfl (by kernel_rfl) (fun _ _ _ h => h) (Or.inl ⟨by rfl, ?_⟩) ?_ ?_
      rotate_left
      · intro w'
        go_simp
        with_reducible rfl
      rotate_left
      · simp only [Act.put, List.setIfInBounds_toArray, List.set_cons_zero, List.set_cons_succ, i64_w, i32_w]
        rfl
      refine pure_ (i := 10) (N := some 23) (v := ?_) (a' := ?_) (bsq 14 4095) rfl rfl (by kernel_rfl) (fun _ _ _ h => h) (Or.inl ⟨by rfl, ?_⟩) ?_ ?_
      rotate_left
      · intro w'
        go_simp
        with_reducible rfl
      rotate_left
      · simp only [Act.put, List.setIfInBounds_toArray, List.set_cons_zero, List.set_cons_succ, i64_w, i32_w]
        rfl
      exact norm_ (by simp only [putAll, Act.put, List.setIfInBounds_toArray, List.set_cons_zero, List.set_cons_succ]) (hCont (S1, (w_6).heap.size) _ ⟨hHeld.1, hHeld.2.1, hHeld.2.2.1, hHeld.2.2.2, HO.out, KA.out, GA.out, trivial⟩)
  rintro ⟨SA, ga⟩ wj ⟨h0, h1, h2, h3, hOC, hBlk, hGe, _⟩
  have hHeld : wj.heap[gc]? = some (.cells #[.string C.F.m, .bool C.F.b1, .bool C.F.b2, .bool C.F.b3, .bool C.F.b4, .bool C.F.b5, .bool C.F.b6, .slice S.S.A7 C.F.us.length S.S.c7, .slice S.S.A8 C.F.ms.length S.S.c8, .bool C.F.b9, .slice S.S.A10 C.F.vs.length S.S.c10, .int .i64 C.p, .int .i64 C.mx, .bool C.on, .int .i64 C.kn, .slice S.A C.tab.length S.c, .string C.key, .int .i64 C.df] 29 (0, 0)) ∧ wj.cell? ⟨go, 0, none⟩ = some (.int .i64 O.n) ∧ wj.cell? ⟨go, 3, none⟩ = some (.bool O.on) ∧ Below w_6.heap.size w_6 wj := ⟨h0, h1, h2, h3⟩
  have HBL := Aside0.mk h3
  have HOC := Aside0.mk hOC
  have HBK := Aside0.mk hBlk
  have HGE := Aside0.mk hGe
  clear hOC hBlk hGe h0 h1 h2 h3
  refine norm_ (a' := ?_) ?_ ?_
  rotate_left
  · simp only [putAll, Act.put, List.setIfInBounds_toArray, List.set_cons_zero, List.set_cons_succ]
    rfl
  refine last_ (i := 12) (N := none) (bsq 14 8191) rfl rfl (by kernel_rfl) (by decide) (fun K hK => ?_)
  refine skip_ (w1 := ?_) (by rfl) rfl ?_ ?_
  rotate_left
  · refine exec_store_part 29 (.tmp 5) (.tmp 22) ?_ ga 0 (cellsC DA SA) ?_ ?_ 29 _ (cellsC DA SA) HBK.out (by kernel_rfl) (Nat.le_of_ble_eq_true rfl) (by kernel_rfl) rfl
    · rfl
    · rfl
    · rfl
  refine hK.out _ _ ?_
  clear hK K
  refine pure_ (i := 13) (N := some 6) (v := ?_) (a' := ?_) (bsq 14 16383) rfl rfl (by kernel_rfl) (fun _ _ _ h => h) (Or.inl ⟨by rfl, ?_⟩) ?_ ?_
  rotate_left
  · intro w'
    go_simp
    with_reducible rfl
  rotate_left
  · simp only [Act.put, List.setIfInBounds_toArray, List.set_cons_zero, List.set_cons_succ, i64_w, i32_w]
    rfl
  refine done_ (by kernel_rfl) ?_
  have hb_ := HBL.out
  have hblk_ := HBK.out
  have hge_ := HGE.out
  have OV_SA : Aside0 (OC w.heap.size wj DA SA) := ⟨HOC.out.weaken (B7.out).size⟩
  clear HBL HBK HGE HOC
  have E_gc_ga := Aside0.mk (Nat.lt_of_lt_of_le (blk_lt K7_gc.out) hge_)
  have E_go_ga := Aside0.mk (Nat.lt_of_lt_of_le (blk_lt K7_go.out) hge_)
  have G_ga := Aside0.mk (Nat.le_trans (B7.out).size hge_)
  have BX_ga := Aside0.mk hblk_
  have B9 := Aside0.mk (below_step B7.out hb_)
  have K9_gc := Aside0.mk (blk_below K7_gc.out hb_)
  have K9_go := Aside0.mk (blk_below K7_go.out hb_)
  clear hb_ B7 K7_gc K7_go
  clear hblk_ hge_
  obtain ⟨w_10, hw_⟩ : ∃ w_, wj.setRow ga #[.string DA.F.m, .bool DA.F.b1, .bool DA.F.b2, .bool DA.F.b3, .bool DA.F.b4, .bool DA.F.b5, .bool DA.F.b6, .slice SA.S.A7 DA.F.us.length SA.S.c7, .slice SA.S.A8 DA.F.ms.length SA.S.c8, .bool DA.F.b9, .slice SA.S.A10 DA.F.vs.length SA.S.c10, .int .i64 DA.p, .int .i64 DA.mx, .bool DA.on, .int .i64 DA.kn, .slice SA.A DA.tab.length SA.c, .string DA.key, .int .i64 DA.df] = w_ := ⟨_, rfl⟩
  have hu_ : Upd wj w_10 (fun k => k = ga) := by rw [← hw_]; exact Upd.setRow (Upd.refl wj (fun k => k = ga)) (.inl rfl) _
  have kf_ : w_10.heap[ga]? = some (.cells #[.string DA.F.m, .bool DA.F.b1, .bool DA.F.b2, .bool DA.F.b3, .bool DA.F.b4, .bool DA.F.b5, .bool DA.F.b6, .slice SA.S.A7 DA.F.us.length SA.S.c7, .slice SA.S.A8 DA.F.ms.length SA.S.c8, .bool DA.F.b9, .slice SA.S.A10 DA.F.vs.length SA.S.c10, .int .i64 DA.p, .int .i64 DA.mx, .bool DA.on, .int .i64 DA.kn, .slice SA.A DA.tab.length SA.c, .string DA.key, .int .i64 DA.df] 29 (0, 0)) := by rw [← hw_]; exact setRow_heap wj ga _ #[.string DA.F.m, .bool DA.F.b1, .bool DA.F.b2, .bool DA.F.b3, .bool DA.F.b4, .bool DA.F.b5, .bool DA.F.b6, .slice SA.S.A7 DA.F.us.length SA.S.c7, .slice SA.S.A8 DA.F.ms.length SA.S.c8, .bool DA.F.b9, .slice SA.S.A10 DA.F.vs.length SA.S.c10, .int .i64 DA.p, .int .i64 DA.mx, .bool DA.on, .int .i64 DA.kn, .slice SA.A DA.tab.length SA.c, .string DA.key, .int .i64 DA.df] 29 (0, 0) BX_ga.out
  rw [hw_]
  clear hw_
  have K11_ga := Aside0.mk (kf_)
  have B11 := Aside0.mk (B9.out.trans (hu_.toBelow (B := w.heap.size) (fun k hk => by rw [hk]; exact G_ga.out) (B9.out).size))
  have K11_gc := Aside0.mk (hu_.blk K9_gc.out (by have := E_gc_ga.out; omega))
  have K11_go := Aside0.mk (hu_.blk K9_go.out (by have := E_go_ga.out; omega))
  have O11_SA := Aside0.mk (OV_SA.out.boxT BX_ga.out (by decide) (by decide) hu_)
  clear hu_ B9 K9_gc K9_go OV_SA BX_ga
  clear kf_
  go_upto_region 3 with fail
  refine start_ (n := 14) (S := fun w' => w'.heap[gc]? = some (.cells #[.string C.F.m, .bool C.F.b1, .bool C.F.b2, .bool C.F.b3, .bool C.F.b4, .bool C.F.b5, .bool C.F.b6, .slice S.S.A7 C.F.us.length S.S.c7, .slice S.S.A8 C.F.ms.length S.S.c8, .bool C.F.b9, .slice S.S.A10 C.F.vs.length S.S.c10, .int .i64 C.p, .int .i64 C.mx, .bool C.on, .int .i64 C.kn, .slice S.A C.tab.length S.c, .string C.key, .int .i64 C.df] 29 (0, 0)) ∧ w'.cell? ⟨go, 1, none⟩ = some (.int .i64 O.v) ∧ w'.cell? ⟨go, 3, none⟩ = some (.bool O.on) ∧ Below w_10.heap.size w_10 w') (ds := [12]) (bsq 14 0) (by kernel_rfl) rfl rfl ⟨(blk_below K11_gc.out (below_drew1 (Below.refl _ _))), (blk_cell K11_go.out 1).trans rfl, (blk_cell K11_go.out 3).trans rfl, below_drew1 (Below.refl _ _)⟩ (fun hHeld => ?_)
  refine pure_ (i := 1) (N := some 26) (v := ?_) (a' := ?_) (bsq 14 2) rfl rfl (by kernel_rfl) (fun _ _ _ h => h) (Or.inl ⟨by rfl, ?_⟩) ?_ ?_
  rotate_left
  · intro w'
    go_simp
    with_reducible rfl
  rotate_left
  · simp only [Act.put, List.setIfInBounds_toArray, List.set_cons_zero, List.set_cons_succ, i64_w, i32_w]
    rfl
  refine pure_ (i := 4) (N := some 29) (v := ?_) (a' := ?_) (bsq 14 18) rfl rfl (by kernel_rfl) (fun _ _ _ h => h) (Or.inl ⟨by rfl, ?_⟩) ?_ ?_
  rotate_left
  · intro w'
    go_simp
    with_reducible rfl
  rotate_left
  · simp only [Act.put, List.setIfInBounds_toArray, List.set_cons_zero, List.set_cons_succ, i64_w, i32_w]
    rfl
  refine take_ (i := 0) (N := some 25) (v := ?_) (a' := ?_) (bsq 14 19) rfl rfl (by kernel_rfl) (fun _ _ _ h => h) (Or.inl ⟨by rfl, ?_⟩) hHeld ?_ ?_
  rotate_left
  · rintro w' ⟨s0, s1, s2, s3⟩
    refine exec_load_part 29 (.tmp 2) ?_ gc 0 ?_ 29 #[.string C.F.m, .bool C.F.b1, .bool C.F.b2, .bool C.F.b3, .bool C.F.b4, .bool C.F.b5, .bool C.F.b6, .slice S.S.A7 C.F.us.length S.S.c7, .slice S.S.A8 C.F.ms.length S.S.c8, .bool C.F.b9, .slice S.S.A10 C.F.vs.length S.S.c10, .int .i64 C.p, .int .i64 C.mx, .bool C.on, .int .i64 C.kn, .slice S.A C.tab.length S.c, .string C.key, .int .i64 C.df] (cellsC C S) (0, 0) _ s0 Try.underlying29 rfl (by kernel_rfl) rfl
    · rfl
    · rfl
  rotate_left
  · simp only [Act.put, List.setIfInBounds_toArray, List.set_cons_zero, List.set_cons_succ, i64_w, i32_w]
    rfl
  refine take_ (i := 2) (N := some 27) (v := ?_) (a' := ?_) (bsq 14 23) rfl rfl (by kernel_rfl) (fun _ _ _ h => h) (Or.inl ⟨by rfl, ?_⟩) hHeld ?_ ?_
  rotate_left
  · rintro w' ⟨s0, s1, s2, s3⟩
    go_simp
    with_reducible rfl
  rotate_left
  · simp only [Act.put, List.setIfInBounds_toArray, List.set_cons_zero, List.set_cons_succ, i64_w, i32_w]
    rfl
  refine pure_ (i := 3) (N := some 28) (v := ?_) (a' := ?_) (bsq 14 31) rfl rfl (by kernel_rfl) (fun _ _ _ h => h) (Or.inl ⟨by rfl, ?_⟩) ?_ ?_
  rotate_left
  · intro w'
    go_simp
    with_reducible rfl
  rotate_left
  · simp only [Act.put, List.setIfInBounds_toArray, List.set_cons_zero, List.set_cons_succ, i64_w, i32_w]
    rfl
  refine take_ (i := 5) (N := some 30) (v := ?_) (a' := ?_) (bsq 14 63) rfl rfl (by kernel_rfl) (fun _ _ _ h => h) (Or.inl ⟨by rfl, ?_⟩) hHeld ?_ ?_
  rotate_left
  · rintro w' ⟨s0, s1, s2, s3⟩
    go_simp
    with_reducible rfl
  rotate_left
  · simp only [Act.put, List.setIfInBounds_toArray, List.set_cons_zero, List.set_cons_succ, i64_w, i32_w]
    rfl
  refine join_ (σ := SlC × Nat) 2 (bsq 14 4095) (fun s => [(31, .string (vlanB v7 O.on)), (32, .tuple #[.agg (cellsC DB s.1), .int .i64 nb]), (24, .tuple #[.agg (cellsC DB s.1), .int .i64 nb]), (33, .agg (cellsC DB s.1)), (34, .int .i64 nb), (7, .pointer (some ⟨s.2, 0, none⟩))]) (fun s w' => w'.heap[gc]? = some (.cells #[.string C.F.m, .bool C.F.b1, .bool C.F.b2, .bool C.F.b3, .bool C.F.b4, .bool C.F.b5, .bool C.F.b6, .slice S.S.A7 C.F.us.length S.S.c7, .slice S.S.A8 C.F.ms.length S.S.c8, .bool C.F.b9, .slice S.S.A10 C.F.vs.length S.S.c10, .int .i64 C.p, .int .i64 C.mx, .bool C.on, .int .i64 C.kn, .slice S.A C.tab.length S.c, .string C.key, .int .i64 C.df] 29 (0, 0)) ∧ w'.cell? ⟨go, 1, none⟩ = some (.int .i64 O.v) ∧ w'.cell? ⟨go, 3, none⟩ = some (.bool O.on) ∧ Below w_10.heap.size w_10 w' ∧ OC w_10.heap.size w' DB s.1 ∧ w'.heap[s.2]? = some (.cells #[.string ⟨#[]⟩, .bool false, .bool false, .bool false, .bool false, .bool false, .bool false, .slice none 0 0, .slice none 0 0, .bool false, .slice none 0 0, .int .i64 0, .int .i64 0, .bool false, .int .i64 0, .slice none 0 0, .string ⟨#[]⟩, .int .i64 0] 29 (0, 0)) ∧ w_10.heap.size ≤ s.2 ∧ True) ?_ ?_
  rotate_left
  · intro hCont
    refine two_ (i := 6) (j := 11) (Ni := some 31) (Nj := some 7) (bsq 14 127) (bsq 14 2111) rfl rfl rfl rfl (by kernel_rfl) (by decide) (by decide) (fun K hK => ?_) (fun K hK => ?_)
    · skip
      refine goes_ Try.func15 (by kernel_rfl) rfl #[.int .i64 (v7 : Int), .bool O.on] (by rfl) rfl rfl (by simp only [List.map_toArray, List.map_cons, List.map_nil]; rfl) ?_
      with_reducible refine (NVL _).mono ?_
      rintro e wc ⟨rfl, hc⟩
      refine ⟨_, rfl, ?_⟩
      have HC := Aside0.mk hc
      clear hc
      refine hK.out _ _ ⟨(blk_below hHeld.1 HC.out), pw_cell_below HC.out hHeld.2.1, pw_cell_below HC.out hHeld.2.2.1, below_step hHeld.2.2.2 HC.out⟩ (fun hHeld => ?_)
      clear hK K
      refine norm_ (a' := ?_) ?_ ?_
      rotate_left
      · show Act.put _ (some 31) _ = _
        simp only [Act.put, List.setIfInBounds_toArray, List.set_cons_zero, List.set_cons_succ, i64_w, i32_w]
        rfl
      refine two_ (i := 7) (j := 11) (Ni := some 32) (Nj := some 7) (bsq 14 255) (bsq 14 2175) rfl rfl rfl rfl (by kernel_rfl) (by decide) (by decide) (fun K hK => ?_) (fun K hK => ?_)
      · skip
        refine goes_ Try.func11 (by kernel_rfl) rfl #[.agg (cellsC C S), .string (vlanB v7 O.on)] (by rfl) rfl rfl (by simp only [List.map_toArray, List.map_cons, List.map_nil]; rfl) ?_
        with_reducible refine (apply2_c C DB S (vlanB v7 O.on) nb PB.out _ (HV.out.below (below_step B11.out (hHeld.2.2.2))) HS.out).mono ?_
        rintro e wr ⟨S1, rfl, ho, hr⟩
        refine ⟨_, rfl, ?_⟩
        have HR := Aside0.mk hr
        have HO := Aside0.mk (ho.weaken (hHeld.2.2.2).size)
        clear hr ho
        refine hK.out _ _ ⟨(blk_below hHeld.1 HR.out), pw_cell_below HR.out hHeld.2.1, pw_cell_below HR.out hHeld.2.2.1, below_step hHeld.2.2.2 HR.out⟩ (fun hHeld => ?_)
        clear hK K
        refine norm_ (a' := ?_) ?_ ?_
        rotate_left
        · show Act.put _ (some 32) _ = _
          simp only [Act.put, List.setIfInBounds_toArray, List.set_cons_zero, List.set_cons_succ, i64_w, i32_w]
          rfl
        refine pure_ (i := 8) (N := some 24) (v := ?_) (a' := ?_) (bsq 14 511) rfl rfl (by kernel_rfl) (fun _ _ _ h => h) (Or.inl ⟨by rfl, ?_⟩) ?_ ?_
        rotate_left
        · intro w'
          go_simp
          with_reducible rfl
        rotate_left
        · simp only [Act.put, List.setIfInBounds_toArray, List.set_cons_zero, List.set_cons_succ, i64_w, i32_w]
          rfl
        refine pure_ (i := 9) (N := some 33) (v := ?_) (a' := ?_) (bsq 14 1023) rfl rfl (by kernel_rfl) (fun _ _ _ h => h) (Or.inl ⟨by rfl, ?_⟩) ?_ ?_
        rotate_left
        · intro w'
          go_simp
          with_reducible rfl
        rotate_left
        · simp only [Act.put, List.setIfInBounds_toArray, List.set_cons_zero, List.set_cons_succ, i64_w, i32_w]
          rfl
        refine pure_ (i := 10) (N := some 34) (v := ?_) (a' := ?_) (bsq 14 2047) rfl rfl (by kernel_rfl) (fun _ _ _ h => h) (Or.inl ⟨by rfl, ?_⟩) ?_ ?_
        rotate_left
        · intro w'
          go_simp
          with_reducible rfl
        rotate_left
        · simp only [Act.put, List.setIfInBounds_toArray, List.set_cons_zero, List.set_cons_succ, i64_w, i32_w]
          rfl
        refine one_ (i := 11) (N := some 7) (bsq 14 4095) rfl rfl (by kernel_rfl) (by decide) (fun K hK => ?_)
        refine value_ (w1 := ?_) (v := ?_) (by rfl) rfl ?_ ?_
        rotate_left 2
        · go_simp
          constructor
          · rfl
          · rfl
        have KA := Aside0.mk (blk_new (wr) (.cells #[.string ⟨#[]⟩, .bool false, .bool false, .bool false, .bool false, .bool false, .bool false, .slice none 0 0, .slice none 0 0, .bool false, .slice none 0 0, .int .i64 0, .int .i64 0, .bool false, .int .i64 0, .slice none 0 0, .string ⟨#[]⟩, .int .i64 0] 29))
        have hga : w_10.heap.size ≤ (wr).heap.size := (hHeld.2.2.2).size
        have GA := Aside0.mk hga
        clear hga
        refine hK.out _ _ ⟨(blk_below hHeld.1 (below_alloc (Below.refl _ _) (.cells #[.string ⟨#[]⟩, .bool false, .bool false, .bool false, .bool false, .bool false, .bool false, .slice none 0 0, .slice none 0 0, .bool false, .slice none 0 0, .int .i64 0, .int .i64 0, .bool false, .int .i64 0, .slice none 0 0, .string ⟨#[]⟩, .int .i64 0] 29))), pw_cell_below (below_alloc (Below.refl _ _) (.cells #[.string ⟨#[]⟩, .bool false, .bool false, .bool false, .bool false, .bool false, .bool false, .slice none 0 0, .slice none 0 0, .bool false, .slice none 0 0, .int .i64 0, .int .i64 0, .bool false, .int .i64 0, .slice none 0 0, .string ⟨#[]⟩, .int .i64 0] 29)) hHeld.2.1, pw_cell_below (below_alloc (Below.refl _ _) (.cells #[.string ⟨#[]⟩, .bool false, .bool false, .bool false, .bool false, .bool false, .bool false, .slice none 0 0, .slice none 0 0, .bool false, .slice none 0 0, .int .i64 0, .int .i64 0, .bool false, .int .i64 0, .slice none 0 0, .string ⟨#[]⟩, .int .i64 0] 29)) hHeld.2.2.1, below_step hHeld.2.2.2 (below_alloc (Below.refl _ _) (.cells #[.string ⟨#[]⟩, .bool false, .bool false, .bool false, .bool false, .bool false, .bool false, .slice none 0 0, .slice none 0 0, .bool false, .slice none 0 0, .int .i64 0, .int .i64 0, .bool false, .int .i64 0, .slice none 0 0, .string ⟨#[]⟩, .int .i64 0] 29))⟩ (fun hHeld => ?_)
        clear hK K
        refine norm_ (a' := ?_) ?_ ?_
        rotate_left
        · show Act.put _ (some 7) _ = _
          simp only [Act.put, List.setIfInBounds_toArray, List.set_cons_zero, List.set_cons_succ, i64_w, i32_w]
          rfl
        exact norm_ (by simp only [putAll, Act.put, List.setIfInBounds_toArray, List.set_cons_zero, List.set_cons_succ]) (hCont (S1, (wr).heap.size) _ ⟨hHeld.1, hHeld.2.1, hHeld.2.2.1, hHeld.2.2.2, (HO.out.below (below_alloc (Below.refl _ _) (.cells #[.string ⟨#[]⟩, .bool false, .bool false, .bool false, .bool false, .bool false, .bool false, .slice none 0 0, .slice none 0 0, .bool false, .slice none 0 0, .int .i64 0, .int .i64 0, .bool false, .int .i64 0, .slice none 0 0, .string ⟨#[]⟩, .int .i64 0] 29))), KA.out, GA.out, trivial⟩)
      · skip
        refine value_ (w1 := ?_) (v := ?_) (by rfl) rfl ?_ ?_
        rotate_left 2
        · go_simp
          constructor
          · rfl
          · rfl
        have KA := Aside0.mk (blk_new (wc) (.cells #[.string ⟨#[]⟩, .bool false, .bool false, .bool false, .bool false, .bool false, .bool false, .slice none 0 0, .slice none 0 0, .bool false, .slice none 0 0, .int .i64 0, .int .i64 0, .bool false, .int .i64 0, .slice none 0 0, .string ⟨#[]⟩, .int .i64 0] 29))
        have hga : w_10.heap.size ≤ (wc).heap.size := (hHeld.2.2.2).size
        have GA := Aside0.mk hga
        clear hga
        refine hK.out _ _ ⟨(blk_below hHeld.1 (below_alloc (Below.refl _ _) (.cells #[.string ⟨#[]⟩, .bool false, .bool false, .bool false, .bool false, .bool false, .bool false, .slice none 0 0, .slice none 0 0, .bool false, .slice none 0 0, .int .i64 0, .int .i64 0, .bool false, .int .i64 0, .slice none 0 0, .string ⟨#[]⟩, .int .i64 0] 29))), pw_cell_below (below_alloc (Below.refl _ _) (.cells #[.string ⟨#[]⟩, .bool false, .bool false, .bool false, .bool false, .bool false, .bool false, .slice none 0 0, .slice none 0 0, .bool false, .slice none 0 0, .int .i64 0, .int .i64 0, .bool false, .int .i64 0, .slice none 0 0, .string ⟨#[]⟩, .int .i64 0] 29)) hHeld.2.1, pw_cell_below (below_alloc (Below.refl _ _) (.cells #[.string ⟨#[]⟩, .bool false, .bool false, .bool false, .bool false, .bool false, .bool false, .slice none 0 0, .slice none 0 0, .bool false, .slice none 0 0, .int .i64 0, .int .i64 0, .bool false, .int .i64 0, .slice none 0 0, .string ⟨#[]⟩, .int .i64 0] 29)) hHeld.2.2.1, below_step hHeld.2.2.2 (below_alloc (Below.refl _ _) (.cells #[.string ⟨#[]⟩, .bool false, .bool false, .bool false, .bool false, .bool false, .bool false, .slice none 0 0, .slice none 0 0, .bool false, .slice none 0 0, .int .i64 0, .int .i64 0, .bool false, .int .i64 0, .slice none 0 0, .string ⟨#[]⟩, .int .i64 0] 29))⟩ (fun hHeld => ?_)
        clear hK K
        refine norm_ (a' := ?_) ?_ ?_
        rotate_left
        · show Act.put _ (some 7) _ = _
          simp only [Act.put, List.setIfInBounds_toArray, List.set_cons_zero, List.set_cons_succ, i64_w, i32_w]
          rfl
        refine one_ (i := 7) (N := some 32) (bsq 14 2303) rfl rfl (by kernel_rfl) (by decide) (fun K hK => ?_)
        refine goes_ Try.func11 (by kernel_rfl) rfl #[.agg (cellsC C S), .string (vlanB v7 O.on)] (by rfl) rfl rfl (by simp only [List.map_toArray, List.map_cons, List.map_nil]; rfl) ?_
        with_reducible refine (apply2_c C DB S (vlanB v7 O.on) nb PB.out _ (HV.out.below (below_step B11.out (hHeld.2.2.2))) HS.out).mono ?_
        rintro e wr ⟨S1, rfl, ho, hr⟩
        refine ⟨_, rfl, ?_⟩
        have HR := Aside0.mk hr
        have HO := Aside0.mk (ho.weaken (hHeld.2.2.2).size)
        clear hr ho
        have KB := Aside0.mk (blk_below KA.out HR.out)
        clear KA
        have KA := KB
        clear KB
        refine hK.out _ _ ⟨(blk_below hHeld.1 HR.out), pw_cell_below HR.out hHeld.2.1, pw_cell_below HR.out hHeld.2.2.1, below_step hHeld.2.2.2 HR.out⟩ (fun hHeld => ?_)
        clear hK K
        refine norm_ (a' := ?_) ?_ ?_
        rotate_left
        · show Act.put _ (some 32) _ = _
          simp only [Act.put, List.setIfInBounds_toArray, List.set_cons_zero, List.set_cons_succ, i64_w, i32_w]
          rfl
        refine pure_ (i := 8) (N := some 24) (v := ?_) (a' := ?_) (bsq 14 2559) rfl rfl (by kernel_rfl) (fun _ _ _ h => h) (Or.inl ⟨by rfl, ?_⟩) ?_ ?_
        rotate_left
        · intro w'
          go_simp
          with_reducible rfl
        rotate_left
        · simp only [Act.put, List.setIfInBounds_toArray, List.set_cons_zero, List.set_cons_succ, i64_w, i32_w]
          rfl
        refine pure_ (i := 9) (N := some 33) (v := ?_) (a' := ?_) (bsq 14 3071) rfl rfl (by kernel_rfl) (fun _ _ _ h => h) (Or.inl ⟨by rfl, ?_⟩) ?_ ?_
        rotate_left
        · intro w'
          go_simp
          with_reducible rfl
        rotate_left
        · simp only [Act.put, List.setIfInBounds_toArray, List.set_cons_zero, List.set_cons_succ, i64_w, i32_w]
          rfl
        refine pure_ (i := 10) (N := some 34) (v := ?_) (a' := ?_) (bsq 14 4095) rfl rfl (by kernel_rfl) (fun _ _ _ h => h) (Or.inl ⟨by rfl, ?_⟩) ?_ ?_
        rotate_left
        · intro w'
          go_simp
          with_reducible rfl
        rotate_left
        · simp only [Act.put, List.setIfInBounds_toArray, List.set_cons_zero, List.set_cons_succ, i64_w, i32_w]
          rfl
        exact norm_ (by simp only [putAll, Act.put, List.setIfInBounds_toArray, List.set_cons_zero, List.set_cons_succ]) (hCont (S1, (wc).heap.size) _ ⟨hHeld.1, hHeld.2.1, hHeld.2.2.1, hHeld.2.2.2, HO.out, KA.out, GA.out, trivial⟩)
    · skip
      refine value_ (w1 := ?_) (v := ?_) (by rfl) rfl ?_ ?_
      rotate_left 2
      · go_simp
        constructor
        · rfl
        · rfl
      have KA := Aside0.mk (blk_new (w_10.drew) (.cells #[.string ⟨#[]⟩, .bool false, .bool false, .bool false, .bool false, .bool false, .bool false, .slice none 0 0, .slice none 0 0, .bool false, .slice none 0 0, .int .i64 0, .int .i64 0, .bool false, .int .i64 0, .slice none 0 0, .string ⟨#[]⟩, .int .i64 0] 29))
      have hga : w_10.heap.size ≤ (w_10.drew).heap.size := (hHeld.2.2.2).size
      have GA := Aside0.mk hga
      clear hga
      refine hK.out _ _ ⟨(blk_below hHeld.1 (below_alloc (Below.refl _ _) (.cells #[.string ⟨#[]⟩, .bool false, .bool false, .bool false, .bool false, .bool false, .bool false, .slice none 0 0, .slice none 0 0, .bool false, .slice none 0 0, .int .i64 0, .int .i64 0, .bool false, .int .i64 0, .slice none 0 0, .string ⟨#[]⟩, .int .i64 0] 29))), pw_cell_below (below_alloc (Below.refl _ _) (.cells #[.string ⟨#[]⟩, .bool false, .bool false, .bool false, .bool false, .bool false, .bool false, .slice none 0 0, .slice none 0 0, .bool false, .slice none 0 0, .int .i64 0, .int .i64 0, .bool false, .int .i64 0, .slice none 0 0, .string ⟨#[]⟩, .int .i64 0] 29)) hHeld.2.1, pw_cell_below (below_alloc (Below.refl _ _) (.cells #[.string ⟨#[]⟩, .bool false, .bool false, .bool false, .bool false, .bool false, .bool false, .slice none 0 0, .slice none 0 0, .bool false, .slice none 0 0, .int .i64 0, .int .i64 0, .bool false, .int .i64 0, .slice none 0 0, .string ⟨#[]⟩, .int .i64 0] 29)) hHeld.2.2.1, below_step hHeld.2.2.2 (below_alloc (Below.refl _ _) (.cells #[.string ⟨#[]⟩, .bool false, .bool false, .bool false, .bool false, .bool false, .bool false, .slice none 0 0, .slice none 0 0, .bool false, .slice none 0 0, .int .i64 0, .int .i64 0, .bool false, .int .i64 0, .slice none 0 0, .string ⟨#[]⟩, .int .i64 0] 29))⟩ (fun hHeld => ?_)
      clear hK K
      refine norm_ (a' := ?_) ?_ ?_
      rotate_left
      · show Act.put _ (some 7) _ = _
        simp only [Act.put, List.setIfInBounds_toArray, List.set_cons_zero, List.set_cons_succ, i64_w, i32_w]
        rfl
      refine one_ (i := 6) (N := some 31) (bsq 14 2175) rfl rfl (by kernel_rfl) (by decide) (fun K hK => ?_)
      refine goes_ Try.func15 (by kernel_rfl) rfl #[.int .i64 (v7 : Int), .bool O.on] (by rfl) rfl rfl (by simp only [List.map_toArray, List.map_cons, List.map_nil]; rfl) ?_
      with_reducible refine (NVL _).mono ?_
      rintro e wc ⟨rfl, hc⟩
      refine ⟨_, rfl, ?_⟩
      have HC := Aside0.mk hc
      clear hc
      have KB := Aside0.mk (blk_below KA.out HC.out)
      clear KA
      have KA := KB
      clear KB
      refine hK.out _ _ ⟨(blk_below hHeld.1 HC.out), pw_cell_below HC.out hHeld.2.1, pw_cell_below HC.out hHeld.2.2.1, below_step hHeld.2.2.2 HC.out⟩ (fun hHeld => ?_)
      clear hK K
      refine norm_ (a' := ?_) ?_ ?_
      rotate_left
      · show Act.put _ (some 31) _ = _
        simp only [Act.put, List.setIfInBounds_toArray, List.set_cons_zero, List.set_cons_succ, i64_w, i32_w]
        rfl
      refine one_ (i := 7) (N := some 32) (bsq 14 2303) rfl rfl (by kernel_rfl) (by decide) (fun K hK => ?_)
      refine goes_ Try.func11 (by kernel_rfl) rfl #[.agg (cellsC C S), .string (vlanB v7 O.on)] (by rfl) rfl rfl (by simp only [List.map_toArray, List.map_cons, List.map_nil]; rfl) ?_
      with_reducible refine (apply2_c C DB S (vlanB v7 O.on) nb PB.out _ (HV.out.below (below_step B11.out (hHeld.2.2.2))) HS.out).mono ?_
      rintro e wr ⟨S1, rfl, ho, hr⟩
      refine ⟨_, rfl, ?_⟩
      have HR := Aside0.mk hr
      have HO := Aside0.mk (ho.weaken (hHeld.2.2.2).size)
      clear hr ho
      have KB := Aside0.mk (blk_below KA.out HR.out)
      clear KA
      have KA := KB
      clear KB
      refine hK.out _ _ ⟨(blk_below hHeld.1 HR.out), pw_cell_below HR.out hHeld.2.1, pw_cell_below HR.out hHeld.2.2.1, below_step hHeld.2.2.2 HR.out⟩ (fun hHeld => ?_)
      clear hK K
      refine norm_ (a' := ?_) ?_ ?_
      rotate_left
      · show Act.put _ (some 32) _ = _
        simp only [Act.put, List.setIfInBounds_toArray, List.set_cons_zero, List.set_cons_succ, i64_w, i32_w]
        rfl
      refine pure_ (i := 8) (N := some 24) (v := ?_) (a' := ?_) (bsq 14 2559) rfl rfl (by kernel_rfl) (fun _ _ _ h => h) (Or.inl ⟨by rfl, ?_⟩) ?_ ?_
      rotate_left
      · intro w'
        go_simp
        with_reducible rfl
      rotate_left
      · simp only [Act.put, List.setIfInBounds_toArray, List.set_cons_zero, List.set_cons_succ, i64_w, i32_w]
        rfl
      refine pure_ (i := 9) (N := some 33) (v := ?_) (a' := ?_) (bsq 14 3071) rfl rfl (by kernel_rfl) (fun _ _ _ h => h) (Or.inl ⟨by rfl, ?_⟩) ?_ ?_
      rotate_left
      · intro w'
        go_simp
        with_reducible rfl
      rotate_left
      · simp only [Act.put, List.setIfInBounds_toArray, List.set_cons_zero, List.set_cons_succ, i64_w, i32_w]
        rfl
      refine pure_ (i := 10) (N := some 34) (v := ?_) (a' := ?_) (bsq 14 4095) rfl rfl (by kernel_rfl) (fun _ _ _ h => h) (Or.inl ⟨by rfl, ?_⟩) ?_ ?_
      rotate_left
      · intro w'
        go_simp
        with_reducible rfl
      rotate_left
      · simp only [Act.put, List.setIfInBounds_toArray, List.set_cons_zero, List.set_cons_succ, i64_w, i32_w]
        rfl
      exact norm_ (by simp only [putAll, Act.put, List.setIfInBounds_toArray, List.set_cons_zero, List.set_cons_succ]) (hCont (S1, (w_10).heap.size) _ ⟨hHeld.1, hHeld.2.1, hHeld.2.2.1, hHeld.2.2.2, HO.out, KA.out, GA.out, trivial⟩)
  rintro ⟨SB, gb⟩ wj ⟨h0, h1, h2, h3, hOC, hBlk, hGe, _⟩
  have hHeld : wj.heap[gc]? = some (.cells #[.string C.F.m, .bool C.F.b1, .bool C.F.b2, .bool C.F.b3, .bool C.F.b4, .bool C.F.b5, .bool C.F.b6, .slice S.S.A7 C.F.us.length S.S.c7, .slice S.S.A8 C.F.ms.length S.S.c8, .bool C.F.b9, .slice S.S.A10 C.F.vs.length S.S.c10, .int .i64 C.p, .int .i64 C.mx, .bool C.on, .int .i64 C.kn, .slice S.A C.tab.length S.c, .string C.key, .int .i64 C.df] 29 (0, 0)) ∧ wj.cell? ⟨go, 1, none⟩ = some (.int .i64 O.v) ∧ wj.cell? ⟨go, 3, none⟩ = some (.bool O.on) ∧ Below w_10.heap.size w_10 wj := ⟨h0, h1, h2, h3⟩
  have HBL := Aside0.mk h3
  have HOC := Aside0.mk hOC
  have HBK := Aside0.mk hBlk
  have HGE := Aside0.mk hGe
  clear hOC hBlk hGe h0 h1 h2 h3
  refine norm_ (a' := ?_) ?_ ?_
  rotate_left
  · simp only [putAll, Act.put, List.setIfInBounds_toArray, List.set_cons_zero, List.set_cons_succ]
    rfl
  refine last_ (i := 12) (N := none) (bsq 14 8191) rfl rfl (by kernel_rfl) (by decide) (fun K hK => ?_)
  refine skip_ (w1 := ?_) (by rfl) rfl ?_ ?_
  rotate_left
  · refine exec_store_part 29 (.tmp 7) (.tmp 33) ?_ gb 0 (cellsC DB SB) ?_ ?_ 29 _ (cellsC DB SB) HBK.out (by kernel_rfl) (Nat.le_of_ble_eq_true rfl) (by kernel_rfl) rfl
    · rfl
    · rfl
    · rfl
  refine hK.out _ _ ?_
  clear hK K
  refine pure_ (i := 13) (N := some 8) (v := ?_) (a' := ?_) (bsq 14 16383) rfl rfl (by kernel_rfl) (fun _ _ _ h => h) (Or.inl ⟨by rfl, ?_⟩) ?_ ?_
  rotate_left
  · intro w'
    go_simp
    with_reducible rfl
  rotate_left
  · simp only [Act.put, List.setIfInBounds_toArray, List.set_cons_zero, List.set_cons_succ, i64_w, i32_w]
    rfl
  refine done_ (by kernel_rfl) ?_
  have hb_ := HBL.out
  have hblk_ := HBK.out
  have hge_ := HGE.out
  have OV_SB : Aside0 (OC w.heap.size wj DB SB) := ⟨HOC.out.weaken (B11.out).size⟩
  clear HBL HBK HGE HOC
  have E_gc_gb := Aside0.mk (Nat.lt_of_lt_of_le (blk_lt K11_gc.out) hge_)
  have E_go_gb := Aside0.mk (Nat.lt_of_lt_of_le (blk_lt K11_go.out) hge_)
  have E_ga_gb := Aside0.mk (Nat.lt_of_lt_of_le (blk_lt K11_ga.out) hge_)
  have G_gb := Aside0.mk (Nat.le_trans (B11.out).size hge_)
  have BX_gb := Aside0.mk hblk_
  have B13 := Aside0.mk (below_step B11.out hb_)
  have K13_gc := Aside0.mk (blk_below K11_gc.out hb_)
  have K13_go := Aside0.mk (blk_below K11_go.out hb_)
  have K13_ga := Aside0.mk (blk_below K11_ga.out hb_)
  have O13_SA := Aside0.mk (O11_SA.out.below hb_)
  clear hb_ B11 K11_gc K11_go K11_ga O11_SA
  clear hblk_ hge_
  obtain ⟨w_14, hw_⟩ : ∃ w_, wj.setRow gb #[.string DB.F.m, .bool DB.F.b1, .bool DB.F.b2, .bool DB.F.b3, .bool DB.F.b4, .bool DB.F.b5, .bool DB.F.b6, .slice SB.S.A7 DB.F.us.length SB.S.c7, .slice SB.S.A8 DB.F.ms.length SB.S.c8, .bool DB.F.b9, .slice SB.S.A10 DB.F.vs.length SB.S.c10, .int .i64 DB.p, .int .i64 DB.mx, .bool DB.on, .int .i64 DB.kn, .slice SB.A DB.tab.length SB.c, .string DB.key, .int .i64 DB.df] = w_ := ⟨_, rfl⟩
  have hu_ : Upd wj w_14 (fun k => k = gb) := by rw [← hw_]; exact Upd.setRow (Upd.refl wj (fun k => k = gb)) (.inl rfl) _
  have kf_ : w_14.heap[gb]? = some (.cells #[.string DB.F.m, .bool DB.F.b1, .bool DB.F.b2, .bool DB.F.b3, .bool DB.F.b4, .bool DB.F.b5, .bool DB.F.b6, .slice SB.S.A7 DB.F.us.length SB.S.c7, .slice SB.S.A8 DB.F.ms.length SB.S.c8, .bool DB.F.b9, .slice SB.S.A10 DB.F.vs.length SB.S.c10, .int .i64 DB.p, .int .i64 DB.mx, .bool DB.on, .int .i64 DB.kn, .slice SB.A DB.tab.length SB.c, .string DB.key, .int .i64 DB.df] 29 (0, 0)) := by rw [← hw_]; exact setRow_heap wj gb _ #[.string DB.F.m, .bool DB.F.b1, .bool DB.F.b2, .bool DB.F.b3, .bool DB.F.b4, .bool DB.F.b5, .bool DB.F.b6, .slice SB.S.A7 DB.F.us.length SB.S.c7, .slice SB.S.A8 DB.F.ms.length SB.S.c8, .bool DB.F.b9, .slice SB.S.A10 DB.F.vs.length SB.S.c10, .int .i64 DB.p, .int .i64 DB.mx, .bool DB.on, .int .i64 DB.kn, .slice SB.A DB.tab.length SB.c, .string DB.key, .int .i64 DB.df] 29 (0, 0) BX_gb.out
  rw [hw_]
  clear hw_
  have K15_gb := Aside0.mk (kf_)
  have B15 := Aside0.mk (B13.out.trans (hu_.toBelow (B := w.heap.size) (fun k hk => by rw [hk]; exact G_gb.out) (B13.out).size))
  have K15_gc := Aside0.mk (hu_.blk K13_gc.out (by have := E_gc_gb.out; omega))
  have K15_go := Aside0.mk (hu_.blk K13_go.out (by have := E_go_gb.out; omega))
  have K15_ga := Aside0.mk (hu_.blk K13_ga.out (by have := E_ga_gb.out; omega))
  have O15_SA := Aside0.mk (O13_SA.out.boxT BX_gb.out (by decide) (by decide) hu_)
  have O15_SB := Aside0.mk (OV_SB.out.boxT BX_gb.out (by decide) (by decide) hu_)
  clear hu_ B13 K13_gc K13_go K13_ga O13_SA OV_SB BX_gb
  clear kf_
  go_upto_region 4 with fail
  clear hn' hv'
  refine start_ (n := 6) (S := fun w' => w'.heap[ga]? = some (.cells #[.string DA.F.m, .bool DA.F.b1, .bool DA.F.b2, .bool DA.F.b3, .bool DA.F.b4, .bool DA.F.b5, .bool DA.F.b6, .slice SA.S.A7 DA.F.us.length SA.S.c7, .slice SA.S.A8 DA.F.ms.length SA.S.c8, .bool DA.F.b9, .slice SA.S.A10 DA.F.vs.length SA.S.c10, .int .i64 DA.p, .int .i64 DA.mx, .bool DA.on, .int .i64 DA.kn, .slice SA.A DA.tab.length SA.c, .string DA.key, .int .i64 DA.df] 29 (0, 0)) ∧ w'.heap[gb]? = some (.cells #[.string DB.F.m, .bool DB.F.b1, .bool DB.F.b2, .bool DB.F.b3, .bool DB.F.b4, .bool DB.F.b5, .bool DB.F.b6, .slice SB.S.A7 DB.F.us.length SB.S.c7, .slice SB.S.A8 DB.F.ms.length SB.S.c8, .bool DB.F.b9, .slice SB.S.A10 DB.F.vs.length SB.S.c10, .int .i64 DB.p, .int .i64 DB.mx, .bool DB.on, .int .i64 DB.kn, .slice SB.A DB.tab.length SB.c, .string DB.key, .int .i64 DB.df] 29 (0, 0)) ∧ Below w_14.heap.size w_14 w') (ds := [5]) #[false, false, false, false, false, false] (by kernel_rfl) rfl rfl ⟨(blk_below K15_ga.out (below_drew1 (Below.refl _ _))), (blk_below K15_gb.out (below_drew1 (Below.refl _ _))), below_drew1 (Below.refl _ _)⟩ (fun hHeld => ?_)
  refine take_ (i := 0) (N := some 35) (v := ?_) (a' := ?_) #[true, false, false, false, false, false] rfl rfl (by kernel_rfl) (fun _ _ _ h => h) (Or.inl ⟨by rfl, ?_⟩) hHeld ?_ ?_
  rotate_left
  · rintro w' ⟨s0, s1, s2⟩
    refine exec_load_part 29 (.tmp 5) ?_ ga 0 ?_ 29 #[.string DA.F.m, .bool DA.F.b1, .bool DA.F.b2, .bool DA.F.b3, .bool DA.F.b4, .bool DA.F.b5, .bool DA.F.b6, .slice SA.S.A7 DA.F.us.length SA.S.c7, .slice SA.S.A8 DA.F.ms.length SA.S.c8, .bool DA.F.b9, .slice SA.S.A10 DA.F.vs.length SA.S.c10, .int .i64 DA.p, .int .i64 DA.mx, .bool DA.on, .int .i64 DA.kn, .slice SA.A DA.tab.length SA.c, .string DA.key, .int .i64 DA.df] (cellsC DA SA) (0, 0) _ s0 Try.underlying29 rfl (by kernel_rfl) rfl
    · rfl
    · rfl
  rotate_left
  · simp only [Act.put, List.setIfInBounds_toArray, List.set_cons_zero, List.set_cons_succ, i64_w, i32_w]
    rfl
  refine take_ (i := 1) (N := some 36) (v := ?_) (a' := ?_) #[true, true, false, false, false, false] rfl rfl (by kernel_rfl) (fun _ _ _ h => h) (Or.inl ⟨by rfl, ?_⟩) hHeld ?_ ?_
  rotate_left
  · rintro w' ⟨s0, s1, s2⟩
    refine exec_load_part 29 (.tmp 7) ?_ gb 0 ?_ 29 #[.string DB.F.m, .bool DB.F.b1, .bool DB.F.b2, .bool DB.F.b3, .bool DB.F.b4, .bool DB.F.b5, .bool DB.F.b6, .slice SB.S.A7 DB.F.us.length SB.S.c7, .slice SB.S.A8 DB.F.ms.length SB.S.c8, .bool DB.F.b9, .slice SB.S.A10 DB.F.vs.length SB.S.c10, .int .i64 DB.p, .int .i64 DB.mx, .bool DB.on, .int .i64 DB.kn, .slice SB.A DB.tab.length SB.c, .string DB.key, .int .i64 DB.df] (cellsC DB SB) (0, 0) _ s1 Try.underlying29 rfl (by kernel_rfl) rfl
    · rfl
    · rfl
  rotate_left
  · simp only [Act.put, List.setIfInBounds_toArray, List.set_cons_zero, List.set_cons_succ, i64_w, i32_w]
    rfl
  refine join_ (σ := Nat × Nat) 2 #[true, true, true, true, false, false] (fun s => [(9, .pointer (some ⟨s.1, 0, none⟩)), (10, .pointer (some ⟨s.2, 0, none⟩))]) (fun s w' => w'.heap[ga]? = some (.cells #[.string DA.F.m, .bool DA.F.b1, .bool DA.F.b2, .bool DA.F.b3, .bool DA.F.b4, .bool DA.F.b5, .bool DA.F.b6, .slice SA.S.A7 DA.F.us.length SA.S.c7, .slice SA.S.A8 DA.F.ms.length SA.S.c8, .bool DA.F.b9, .slice SA.S.A10 DA.F.vs.length SA.S.c10, .int .i64 DA.p, .int .i64 DA.mx, .bool DA.on, .int .i64 DA.kn, .slice SA.A DA.tab.length SA.c, .string DA.key, .int .i64 DA.df] 29 (0, 0)) ∧ w'.heap[gb]? = some (.cells #[.string DB.F.m, .bool DB.F.b1, .bool DB.F.b2, .bool DB.F.b3, .bool DB.F.b4, .bool DB.F.b5, .bool DB.F.b6, .slice SB.S.A7 DB.F.us.length SB.S.c7, .slice SB.S.A8 DB.F.ms.length SB.S.c8, .bool DB.F.b9, .slice SB.S.A10 DB.F.vs.length SB.S.c10, .int .i64 DB.p, .int .i64 DB.mx, .bool DB.on, .int .i64 DB.kn, .slice SB.A DB.tab.length SB.c, .string DB.key, .int .i64 DB.df] 29 (0, 0)) ∧ Below w_14.heap.size w_14 w' ∧ w'.heap[s.1]? = some (.cells #[.string ⟨#[]⟩, .bool false, .bool false, .bool false, .bool false, .bool false, .bool false, .slice none 0 0, .slice none 0 0, .bool false, .slice none 0 0, .int .i64 0, .int .i64 0, .bool false, .int .i64 0, .slice none 0 0, .string ⟨#[]⟩, .int .i64 0] 29 (0, 0)) ∧ w'.heap[s.2]? = some (.cells #[.string ⟨#[]⟩, .bool false, .bool false, .bool false, .bool false, .bool false, .bool false, .slice none 0 0, .slice none 0 0, .bool false, .slice none 0 0, .int .i64 0, .int .i64 0, .bool false, .int .i64 0, .slice none 0 0, .string ⟨#[]⟩, .int .i64 0] 29 (0, 0)) ∧ w_14.heap.size ≤ s.1 ∧ w_14.heap.size ≤ s.2 ∧ s.1 ≠ s.2) ?_ ?_
  rotate_left
  · intro hCont
    refine two_ (i := 2) (j := 3) (Ni := some 9) (Nj := some 10) #[true, true, true, false, false, false] #[true, true, false, true, false, false] rfl rfl rfl rfl (by kernel_rfl) (by decide) (by decide) (fun K hK => ?_) (fun K hK => ?_)
    · skip
      refine value_ (w1 := ?_) (v := ?_) (by rfl) rfl ?_ ?_
      rotate_left 2
      · go_simp
        constructor
        · rfl
        · rfl
      have KA := Aside0.mk (blk_new (w_14.drew) (.cells #[.string ⟨#[]⟩, .bool false, .bool false, .bool false, .bool false, .bool false, .bool false, .slice none 0 0, .slice none 0 0, .bool false, .slice none 0 0, .int .i64 0, .int .i64 0, .bool false, .int .i64 0, .slice none 0 0, .string ⟨#[]⟩, .int .i64 0] 29))
      have GA := Aside0.mk (hHeld.2.2).size
      refine hK.out _ _ ⟨(blk_below hHeld.1 (below_alloc (Below.refl _ _) (.cells #[.string ⟨#[]⟩, .bool false, .bool false, .bool false, .bool false, .bool false, .bool false, .slice none 0 0, .slice none 0 0, .bool false, .slice none 0 0, .int .i64 0, .int .i64 0, .bool false, .int .i64 0, .slice none 0 0, .string ⟨#[]⟩, .int .i64 0] 29))), (blk_below hHeld.2.1 (below_alloc (Below.refl _ _) (.cells #[.string ⟨#[]⟩, .bool false, .bool false, .bool false, .bool false, .bool false, .bool false, .slice none 0 0, .slice none 0 0, .bool false, .slice none 0 0, .int .i64 0, .int .i64 0, .bool false, .int .i64 0, .slice none 0 0, .string ⟨#[]⟩, .int .i64 0] 29))), below_step hHeld.2.2 (below_alloc (Below.refl _ _) (.cells #[.string ⟨#[]⟩, .bool false, .bool false, .bool false, .bool false, .bool false, .bool false, .slice none 0 0, .slice none 0 0, .bool false, .slice none 0 0, .int .i64 0, .int .i64 0, .bool false, .int .i64 0, .slice none 0 0, .string ⟨#[]⟩, .int .i64 0] 29))⟩ (fun hHeld => ?_)
      clear hK K
      refine norm_ (a' := ?_) ?_ ?_
      rotate_left
      · show Act.put _ (some 9) _ = _
        simp only [Act.put, List.setIfInBounds_toArray, List.set_cons_zero, List.set_cons_succ, i64_w, i32_w]
        rfl
      refine one_ (i := 3) (N := some 10) #[true, true, true, true, false, false] rfl rfl (by kernel_rfl) (by decide) (fun K hK => ?_)
      refine value_ (w1 := ?_) (v := ?_) (by rfl) rfl ?_ ?_
      rotate_left 2
      · go_simp
        constructor
        · rfl
        · rfl
      have KB := Aside0.mk (blk_new (w_14.drew.alloc (.cells #[.string ⟨#[]⟩, .bool false, .bool false, .bool false, .bool false, .bool false, .bool false, .slice none 0 0, .slice none 0 0, .bool false, .slice none 0 0, .int .i64 0, .int .i64 0, .bool false, .int .i64 0, .slice none 0 0, .string ⟨#[]⟩, .int .i64 0] 29)) (.cells #[.string ⟨#[]⟩, .bool false, .bool false, .bool false, .bool false, .bool false, .bool false, .slice none 0 0, .slice none 0 0, .bool false, .slice none 0 0, .int .i64 0, .int .i64 0, .bool false, .int .i64 0, .slice none 0 0, .string ⟨#[]⟩, .int .i64 0] 29))
      have KC := Aside0.mk (blk_below KA.out (below_alloc (Below.refl _ _) (.cells #[.string ⟨#[]⟩, .bool false, .bool false, .bool false, .bool false, .bool false, .bool false, .slice none 0 0, .slice none 0 0, .bool false, .slice none 0 0, .int .i64 0, .int .i64 0, .bool false, .int .i64 0, .slice none 0 0, .string ⟨#[]⟩, .int .i64 0] 29)))
      have GB := Aside0.mk (hHeld.2.2).size
      refine hK.out _ _ ⟨(blk_below hHeld.1 (below_alloc (Below.refl _ _) (.cells #[.string ⟨#[]⟩, .bool false, .bool false, .bool false, .bool false, .bool false, .bool false, .slice none 0 0, .slice none 0 0, .bool false, .slice none 0 0, .int .i64 0, .int .i64 0, .bool false, .int .i64 0, .slice none 0 0, .string ⟨#[]⟩, .int .i64 0] 29))), (blk_below hHeld.2.1 (below_alloc (Below.refl _ _) (.cells #[.string ⟨#[]⟩, .bool false, .bool false, .bool false, .bool false, .bool false, .bool false, .slice none 0 0, .slice none 0 0, .bool false, .slice none 0 0, .int .i64 0, .int .i64 0, .bool false, .int .i64 0, .slice none 0 0, .string ⟨#[]⟩, .int .i64 0] 29))), below_step hHeld.2.2 (below_alloc (Below.refl _ _) (.cells #[.string ⟨#[]⟩, .bool false, .bool false, .bool false, .bool false, .bool false, .bool false, .slice none 0 0, .slice none 0 0, .bool false, .slice none 0 0, .int .i64 0, .int .i64 0, .bool false, .int .i64 0, .slice none 0 0, .string ⟨#[]⟩, .int .i64 0] 29))⟩ (fun hHeld => ?_)
      clear hK K
      refine norm_ (a' := ?_) ?_ ?_
      rotate_left
      · show Act.put _ (some 10) _ = _
        simp only [Act.put, List.setIfInBounds_toArray, List.set_cons_zero, List.set_cons_succ, i64_w, i32_w]
        rfl
      exact norm_ (by simp only [putAll, Act.put, List.setIfInBounds_toArray, List.set_cons_zero, List.set_cons_succ]) (hCont (w_14.heap.size, (w_14.heap.size + 1)) _ ⟨hHeld.1, hHeld.2.1, hHeld.2.2, KC.out, (by have q_ := KB.out; rwa [show (w_14.drew.alloc (.cells #[.string ⟨#[]⟩, .bool false, .bool false, .bool false, .bool false, .bool false, .bool false, .slice none 0 0, .slice none 0 0, .bool false, .slice none 0 0, .int .i64 0, .int .i64 0, .bool false, .int .i64 0, .slice none 0 0, .string ⟨#[]⟩, .int .i64 0] 29)).heap.size = w_14.heap.size + 1 from by simp] at q_), GA.out, Nat.le_succ _, by simp⟩)
    · skip
      refine value_ (w1 := ?_) (v := ?_) (by rfl) rfl ?_ ?_
      rotate_left 2
      · go_simp
        constructor
        · rfl
        · rfl
      have KA := Aside0.mk (blk_new (w_14.drew) (.cells #[.string ⟨#[]⟩, .bool false, .bool false, .bool false, .bool false, .bool false, .bool false, .slice none 0 0, .slice none 0 0, .bool false, .slice none 0 0, .int .i64 0, .int .i64 0, .bool false, .int .i64 0, .slice none 0 0, .string ⟨#[]⟩, .int .i64 0] 29))
      have GA := Aside0.mk (hHeld.2.2).size
      refine hK.out _ _ ⟨(blk_below hHeld.1 (below_alloc (Below.refl _ _) (.cells #[.string ⟨#[]⟩, .bool false, .bool false, .bool false, .bool false, .bool false, .bool false, .slice none 0 0, .slice none 0 0, .bool false, .slice none 0 0, .int .i64 0, .int .i64 0, .bool false, .int .i64 0, .slice none 0 0, .string ⟨#[]⟩, .int .i64 0] 29))), (blk_below hHeld.2.1 (below_alloc (Below.refl _ _) (.cells #[.string ⟨#[]⟩, .bool false, .bool false, .bool false, .bool false, .bool false, .bool false, .slice none 0 0, .slice none 0 0, .bool false, .slice none 0 0, .int .i64 0, .int .i64 0, .bool false, .int .i64 0, .slice none 0 0, .string ⟨#[]⟩, .int .i64 0] 29))), below_step hHeld.2.2 (below_alloc (Below.refl _ _) (.cells #[.string ⟨#[]⟩, .bool false, .bool false, .bool false, .bool false, .bool false, .bool false, .slice none 0 0, .slice none 0 0, .bool false, .slice none 0 0, .int .i64 0, .int .i64 0, .bool false, .int .i64 0, .slice none 0 0, .string ⟨#[]⟩, .int .i64 0] 29))⟩ (fun hHeld => ?_)
      clear hK K
      refine norm_ (a' := ?_) ?_ ?_
      rotate_left
      · show Act.put _ (some 10) _ = _
        simp only [Act.put, List.setIfInBounds_toArray, List.set_cons_zero, List.set_cons_succ, i64_w, i32_w]
        rfl
      refine one_ (i := 2) (N := some 9) #[true, true, true, true, false, false] rfl rfl (by kernel_rfl) (by decide) (fun K hK => ?_)
      refine value_ (w1 := ?_) (v := ?_) (by rfl) rfl ?_ ?_
      rotate_left 2
      · go_simp
        constructor
        · rfl
        · rfl
      have KB := Aside0.mk (blk_new (w_14.drew.alloc (.cells #[.string ⟨#[]⟩, .bool false, .bool false, .bool false, .bool false, .bool false, .bool false, .slice none 0 0, .slice none 0 0, .bool false, .slice none 0 0, .int .i64 0, .int .i64 0, .bool false, .int .i64 0, .slice none 0 0, .string ⟨#[]⟩, .int .i64 0] 29)) (.cells #[.string ⟨#[]⟩, .bool false, .bool false, .bool false, .bool false, .bool false, .bool false, .slice none 0 0, .slice none 0 0, .bool false, .slice none 0 0, .int .i64 0, .int .i64 0, .bool false, .int .i64 0, .slice none 0 0, .string ⟨#[]⟩, .int .i64 0] 29))
      have KC := Aside0.mk (blk_below KA.out (below_alloc (Below.refl _ _) (.cells #[.string ⟨#[]⟩, .bool false, .bool false, .bool false, .bool false, .bool false, .bool false, .slice none 0 0, .slice none 0 0, .bool false, .slice none 0 0, .int .i64 0, .int .i64 0, .bool false, .int .i64 0, .slice none 0 0, .string ⟨#[]⟩, .int .i64 0] 29)))
      have GB := Aside0.mk (hHeld.2.2).size
      refine hK.out _ _ ⟨(blk_below hHeld.1 (below_alloc (Below.refl _ _) (.cells #[.string ⟨#[]⟩, .bool false, .bool false, .bool false, .bool false, .bool false, .bool false, .slice none 0 0, .slice none 0 0, .bool false, .slice none 0 0, .int .i64 0, .int .i64 0, .bool false, .int .i64 0, .slice none 0 0, .string ⟨#[]⟩, .int .i64 0] 29))), (blk_below hHeld.2.1 (below_alloc (Below.refl _ _) (.cells #[.string ⟨#[]⟩, .bool false, .bool false, .bool false, .bool false, .bool false, .bool false, .slice none 0 0, .slice none 0 0, .bool false, .slice none 0 0, .int .i64 0, .int .i64 0, .bool false, .int .i64 0, .slice none 0 0, .string ⟨#[]⟩, .int .i64 0] 29))), below_step hHeld.2.2 (below_alloc (Below.refl _ _) (.cells #[.string ⟨#[]⟩, .bool false, .bool false, .bool false, .bool false, .bool false, .bool false, .slice none 0 0, .slice none 0 0, .bool false, .slice none 0 0, .int .i64 0, .int .i64 0, .bool false, .int .i64 0, .slice none 0 0, .string ⟨#[]⟩, .int .i64 0] 29))⟩ (fun hHeld => ?_)
      clear hK K
      refine norm_ (a' := ?_) ?_ ?_
      rotate_left
      · show Act.put _ (some 9) _ = _
        simp only [Act.put, List.setIfInBounds_toArray, List.set_cons_zero, List.set_cons_succ, i64_w, i32_w]
        rfl
      exact norm_ (by simp only [putAll, Act.put, List.setIfInBounds_toArray, List.set_cons_zero, List.set_cons_succ]) (hCont ((w_14.heap.size + 1), w_14.heap.size) _ ⟨hHeld.1, hHeld.2.1, hHeld.2.2, (by have q_ := KB.out; rwa [show (w_14.drew.alloc (.cells #[.string ⟨#[]⟩, .bool false, .bool false, .bool false, .bool false, .bool false, .bool false, .slice none 0 0, .slice none 0 0, .bool false, .slice none 0 0, .int .i64 0, .int .i64 0, .bool false, .int .i64 0, .slice none 0 0, .string ⟨#[]⟩, .int .i64 0] 29)).heap.size = w_14.heap.size + 1 from by simp] at q_), KC.out, Nat.le_succ _, GA.out, by simp⟩)
  rintro ⟨g9, g10⟩ wj ⟨h0, h1, h2, hB1, hB2, hG1, hG2, hNE⟩
  have hHeld : wj.heap[ga]? = some (.cells #[.string DA.F.m, .bool DA.F.b1, .bool DA.F.b2, .bool DA.F.b3, .bool DA.F.b4, .bool DA.F.b5, .bool DA.F.b6, .slice SA.S.A7 DA.F.us.length SA.S.c7, .slice SA.S.A8 DA.F.ms.length SA.S.c8, .bool DA.F.b9, .slice SA.S.A10 DA.F.vs.length SA.S.c10, .int .i64 DA.p, .int .i64 DA.mx, .bool DA.on, .int .i64 DA.kn, .slice SA.A DA.tab.length SA.c, .string DA.key, .int .i64 DA.df] 29 (0, 0)) ∧ wj.heap[gb]? = some (.cells #[.string DB.F.m, .bool DB.F.b1, .bool DB.F.b2, .bool DB.F.b3, .bool DB.F.b4, .bool DB.F.b5, .bool DB.F.b6, .slice SB.S.A7 DB.F.us.length SB.S.c7, .slice SB.S.A8 DB.F.ms.length SB.S.c8, .bool DB.F.b9, .slice SB.S.A10 DB.F.vs.length SB.S.c10, .int .i64 DB.p, .int .i64 DB.mx, .bool DB.on, .int .i64 DB.kn, .slice SB.A DB.tab.length SB.c, .string DB.key, .int .i64 DB.df] 29 (0, 0)) ∧ Below w_14.heap.size w_14 wj := ⟨h0, h1, h2⟩
  have HBL := Aside0.mk h2
  have HB1 := Aside0.mk hB1
  have HB2 := Aside0.mk hB2
  have HG1 := Aside0.mk hG1
  have HG2 := Aside0.mk hG2
  have HNE := Aside0.mk hNE
  clear h0 h1 h2 hB1 hB2 hG1 hG2 hNE
  refine norm_ (a' := ?_) ?_ ?_
  rotate_left
  · simp only [putAll, Act.put, List.setIfInBounds_toArray, List.set_cons_zero, List.set_cons_succ]
    rfl
  refine one_ (i := 4) (N := none) #[true, true, true, true, true, false] rfl rfl (by kernel_rfl) (by decide) (fun K hK => ?_)
  refine skip_ (w1 := ?_) (by rfl) rfl ?_ ?_
  rotate_left
  · refine exec_store_part 29 (.tmp 9) (.tmp 35) ?_ g9 0 (cellsC DA SA) ?_ ?_ 29 _ (cellsC DA SA) HB1.out (by kernel_rfl) (Nat.le_of_ble_eq_true rfl) (by kernel_rfl) rfl
    · rfl
    · rfl
    · rfl
  refine hK.out _ _ ⟨(setRow_other _ _ _ _ (Nat.ne_of_lt (Nat.lt_of_lt_of_le (blk_lt K15_ga.out) HG1.out))).trans hHeld.1, (setRow_other _ _ _ _ (Nat.ne_of_lt (Nat.lt_of_lt_of_le (blk_lt K15_gb.out) HG1.out))).trans hHeld.2.1, hHeld.2.2.trans ((Upd.setRow (Upd.refl wj (fun k => k = g9)) (.inl rfl) (cellsC DA SA)).toBelow (B := w_14.heap.size) (fun k hk => by rw [hk]; exact HG1.out) HBL.out.size)⟩ (fun hHeld => ?_)
  clear hK K
  refine last_ (i := 5) (N := none) #[true, true, true, true, true, true] rfl rfl (by kernel_rfl) (by decide) (fun K hK => ?_)
  refine skip_ (w1 := ?_) (by rfl) rfl ?_ ?_
  rotate_left
  · refine exec_store_part 29 (.tmp 10) (.tmp 36) ?_ g10 0 (cellsC DB SB) ?_ ?_ 29 _ (cellsC DB SB) ((setRow_other _ _ _ _ (Ne.symm HNE.out)).trans HB2.out) (by kernel_rfl) (Nat.le_of_ble_eq_true rfl) (by kernel_rfl) rfl
    · rfl
    · rfl
    · rfl
  refine hK.out _ _ ?_
  clear hK K
  refine done_ (by kernel_rfl) ?_
  have E_gc_g9 := Aside0.mk (Nat.lt_of_lt_of_le (blk_lt K15_gc.out) HG1.out)
  have E_gc_g10 := Aside0.mk (Nat.lt_of_lt_of_le (blk_lt K15_gc.out) HG2.out)
  have E_go_g9 := Aside0.mk (Nat.lt_of_lt_of_le (blk_lt K15_go.out) HG1.out)
  have E_go_g10 := Aside0.mk (Nat.lt_of_lt_of_le (blk_lt K15_go.out) HG2.out)
  have E_ga_g9 := Aside0.mk (Nat.lt_of_lt_of_le (blk_lt K15_ga.out) HG1.out)
  have E_ga_g10 := Aside0.mk (Nat.lt_of_lt_of_le (blk_lt K15_ga.out) HG2.out)
  have E_gb_g9 := Aside0.mk (Nat.lt_of_lt_of_le (blk_lt K15_gb.out) HG1.out)
  have E_gb_g10 := Aside0.mk (Nat.lt_of_lt_of_le (blk_lt K15_gb.out) HG2.out)
  have G_g9 := Aside0.mk (Nat.le_trans (B15.out).size HG1.out)
  have G_g10 := Aside0.mk (Nat.le_trans (B15.out).size HG2.out)
  have E_g9_g10 := HNE
  have hb_ := HBL.out
  clear HBL HG1 HG2 HNE
  have B16 := Aside0.mk (below_step B15.out hb_)
  have K16_gc := Aside0.mk (blk_below K15_gc.out hb_)
  have K16_go := Aside0.mk (blk_below K15_go.out hb_)
  have K16_ga := Aside0.mk (blk_below K15_ga.out hb_)
  have K16_gb := Aside0.mk (blk_below K15_gb.out hb_)
  have O16_SA := Aside0.mk (O15_SA.out.below hb_)
  have O16_SB := Aside0.mk (O15_SB.out.below hb_)
  clear hb_ B15 K15_gc K15_go K15_ga K15_gb O15_SA O15_SB
  obtain ⟨w_17, hw_⟩ : ∃ w_, wj.setRow g9 #[.string DA.F.m, .bool DA.F.b1, .bool DA.F.b2, .bool DA.F.b3, .bool DA.F.b4, .bool DA.F.b5, .bool DA.F.b6, .slice SA.S.A7 DA.F.us.length SA.S.c7, .slice SA.S.A8 DA.F.ms.length SA.S.c8, .bool DA.F.b9, .slice SA.S.A10 DA.F.vs.length SA.S.c10, .int .i64 DA.p, .int .i64 DA.mx, .bool DA.on, .int .i64 DA.kn, .slice SA.A DA.tab.length SA.c, .string DA.key, .int .i64 DA.df] = w_ := ⟨_, rfl⟩
  have hu_ : Upd wj w_17 (fun k => k = g9) := by rw [← hw_]; exact Upd.setRow (Upd.refl wj (fun k => k = g9)) (.inl rfl) _
  have kf_ : w_17.heap[g9]? = some (.cells #[.string DA.F.m, .bool DA.F.b1, .bool DA.F.b2, .bool DA.F.b3, .bool DA.F.b4, .bool DA.F.b5, .bool DA.F.b6, .slice SA.S.A7 DA.F.us.length SA.S.c7, .slice SA.S.A8 DA.F.ms.length SA.S.c8, .bool DA.F.b9, .slice SA.S.A10 DA.F.vs.length SA.S.c10, .int .i64 DA.p, .int .i64 DA.mx, .bool DA.on, .int .i64 DA.kn, .slice SA.A DA.tab.length SA.c, .string DA.key, .int .i64 DA.df] 29 (0, 0)) := by rw [← hw_]; exact setRow_heap wj g9 _ #[.string DA.F.m, .bool DA.F.b1, .bool DA.F.b2, .bool DA.F.b3, .bool DA.F.b4, .bool DA.F.b5, .bool DA.F.b6, .slice SA.S.A7 DA.F.us.length SA.S.c7, .slice SA.S.A8 DA.F.ms.length SA.S.c8, .bool DA.F.b9, .slice SA.S.A10 DA.F.vs.length SA.S.c10, .int .i64 DA.p, .int .i64 DA.mx, .bool DA.on, .int .i64 DA.kn, .slice SA.A DA.tab.length SA.c, .string DA.key, .int .i64 DA.df] 29 (0, 0) HB1.out
  rw [hw_]
  clear hw_
  have K18_g9 := Aside0.mk (kf_)
  have B18 := Aside0.mk (B16.out.trans (hu_.toBelow (B := w.heap.size) (fun k hk => by rw [hk]; exact G_g9.out) (B16.out).size))
  have K18_gc := Aside0.mk (hu_.blk K16_gc.out (by have := E_gc_g9.out; omega))
  have K18_go := Aside0.mk (hu_.blk K16_go.out (by have := E_go_g9.out; omega))
  have K18_ga := Aside0.mk (hu_.blk K16_ga.out (by have := E_ga_g9.out; omega))
  have K18_gb := Aside0.mk (hu_.blk K16_gb.out (by have := E_gb_g9.out; omega))
  have K18_g10 := Aside0.mk (hu_.blk HB2.out (by have := E_g9_g10.out; omega))
  have O18_SA := Aside0.mk (O16_SA.out.boxT HB1.out (by decide) (by decide) hu_)
  have O18_SB := Aside0.mk (O16_SB.out.boxT HB1.out (by decide) (by decide) hu_)
  clear hu_ B16 K16_gc K16_go K16_ga K16_gb HB2 O16_SA O16_SB HB1
  clear kf_
  obtain ⟨w_19, hw_⟩ : ∃ w_, w_17.setRow g10 #[.string DB.F.m, .bool DB.F.b1, .bool DB.F.b2, .bool DB.F.b3, .bool DB.F.b4, .bool DB.F.b5, .bool DB.F.b6, .slice SB.S.A7 DB.F.us.length SB.S.c7, .slice SB.S.A8 DB.F.ms.length SB.S.c8, .bool DB.F.b9, .slice SB.S.A10 DB.F.vs.length SB.S.c10, .int .i64 DB.p, .int .i64 DB.mx, .bool DB.on, .int .i64 DB.kn, .slice SB.A DB.tab.length SB.c, .string DB.key, .int .i64 DB.df] = w_ := ⟨_, rfl⟩
  have hu_ : Upd w_17 w_19 (fun k => k = g10) := by rw [← hw_]; exact Upd.setRow (Upd.refl w_17 (fun k => k = g10)) (.inl rfl) _
  have kf_ : w_19.heap[g10]? = some (.cells #[.string DB.F.m, .bool DB.F.b1, .bool DB.F.b2, .bool DB.F.b3, .bool DB.F.b4, .bool DB.F.b5, .bool DB.F.b6, .slice SB.S.A7 DB.F.us.length SB.S.c7, .slice SB.S.A8 DB.F.ms.length SB.S.c8, .bool DB.F.b9, .slice SB.S.A10 DB.F.vs.length SB.S.c10, .int .i64 DB.p, .int .i64 DB.mx, .bool DB.on, .int .i64 DB.kn, .slice SB.A DB.tab.length SB.c, .string DB.key, .int .i64 DB.df] 29 (0, 0)) := by rw [← hw_]; exact setRow_heap w_17 g10 _ #[.string DB.F.m, .bool DB.F.b1, .bool DB.F.b2, .bool DB.F.b3, .bool DB.F.b4, .bool DB.F.b5, .bool DB.F.b6, .slice SB.S.A7 DB.F.us.length SB.S.c7, .slice SB.S.A8 DB.F.ms.length SB.S.c8, .bool DB.F.b9, .slice SB.S.A10 DB.F.vs.length SB.S.c10, .int .i64 DB.p, .int .i64 DB.mx, .bool DB.on, .int .i64 DB.kn, .slice SB.A DB.tab.length SB.c, .string DB.key, .int .i64 DB.df] 29 (0, 0) K18_g10.out
  rw [hw_]
  clear hw_
  have K20_g10 := Aside0.mk (kf_)
  have B20 := Aside0.mk (B18.out.trans (hu_.toBelow (B := w.heap.size) (fun k hk => by rw [hk]; exact G_g10.out) (B18.out).size))
  have K20_gc := Aside0.mk (hu_.blk K18_gc.out (by have := E_gc_g10.out; omega))
  have K20_go := Aside0.mk (hu_.blk K18_go.out (by have := E_go_g10.out; omega))
  have K20_ga := Aside0.mk (hu_.blk K18_ga.out (by have := E_ga_g10.out; omega))
  have K20_gb := Aside0.mk (hu_.blk K18_gb.out (by have := E_gb_g10.out; omega))
  have K20_g9 := Aside0.mk (hu_.blk K18_g9.out (by have := E_g9_g10.out; omega))
  have O20_SA := Aside0.mk (O18_SA.out.boxT K18_g10.out (by decide) (by decide) hu_)
  have O20_SB := Aside0.mk (O18_SB.out.boxT K18_g10.out (by decide) (by decide) hu_)
  clear hu_ B18 K18_gc K18_go K18_ga K18_gb K18_g9 O18_SA O18_SB K18_g10
  clear kf_
  have pc1 : w_19.cell? ⟨gc, 1, none⟩ = some (.bool C.F.b1) := (blk_cell K20_gc.out 1).trans rfl
  have qc1 : w_19.cell? ⟨g9, 1, none⟩ = some (.bool DA.F.b1) := (blk_cell K20_g9.out 1).trans rfl
  have qf1 := blk_frozen K20_g9.out 1
  go_upto_region 6 with fail
  clear pc1 qc1 qf1
  obtain ⟨w_21, hw_⟩ : ∃ w_, (w_19.setCell ⟨g9, 1, none⟩ (.bool C.F.b1)) = w_ := ⟨_, rfl⟩
  have hu_ : Upd w_19 w_21 (fun k => k = g9) := by rw [← hw_]; exact (Upd.refl w_19 (fun k => k = g9)).set (p := ⟨g9, 1, none⟩) (.inl rfl) _
  have kf_ : w_21.heap[g9]? = some (.cells #[.string DA.F.m, .bool C.F.b1, .bool DA.F.b2, .bool DA.F.b3, .bool DA.F.b4, .bool DA.F.b5, .bool DA.F.b6, .slice SA.S.A7 DA.F.us.length SA.S.c7, .slice SA.S.A8 DA.F.ms.length SA.S.c8, .bool DA.F.b9, .slice SA.S.A10 DA.F.vs.length SA.S.c10, .int .i64 DA.p, .int .i64 DA.mx, .bool DA.on, .int .i64 DA.kn, .slice SA.A DA.tab.length SA.c, .string DA.key, .int .i64 DA.df] 29 (0, 0)) := by rw [← hw_]; exact (blk_put (cs := #[.string DA.F.m, .bool DA.F.b1, .bool DA.F.b2, .bool DA.F.b3, .bool DA.F.b4, .bool DA.F.b5, .bool DA.F.b6, .slice SA.S.A7 DA.F.us.length SA.S.c7, .slice SA.S.A8 DA.F.ms.length SA.S.c8, .bool DA.F.b9, .slice SA.S.A10 DA.F.vs.length SA.S.c10, .int .i64 DA.p, .int .i64 DA.mx, .bool DA.on, .int .i64 DA.kn, .slice SA.A DA.tab.length SA.c, .string DA.key, .int .i64 DA.df]) K20_g9.out 1 _ rfl)
  rw [hw_]
  clear hw_
  have K22_g9 := Aside0.mk (kf_)
  have B22 := Aside0.mk (B20.out.trans (hu_.toBelow (B := w.heap.size) (fun k hk => by rw [hk]; exact G_g9.out) (B20.out).size))
  have K22_gc := Aside0.mk (hu_.blk K20_gc.out (by have := E_gc_g9.out; omega))
  have K22_go := Aside0.mk (hu_.blk K20_go.out (by have := E_go_g9.out; omega))
  have K22_ga := Aside0.mk (hu_.blk K20_ga.out (by have := E_ga_g9.out; omega))
  have K22_gb := Aside0.mk (hu_.blk K20_gb.out (by have := E_gb_g9.out; omega))
  have K22_g10 := Aside0.mk (hu_.blk K20_g10.out (by have := E_g9_g10.out; omega))
  have O22_SA := Aside0.mk (O20_SA.out.boxT K20_g9.out (by decide) (by decide) hu_)
  have O22_SB := Aside0.mk (O20_SB.out.boxT K20_g9.out (by decide) (by decide) hu_)
  clear hu_ B20 K20_gc K20_go K20_ga K20_gb K20_g10 O20_SA O20_SB K20_g9
  clear kf_
  have pc3 : w_21.cell? ⟨gc, 3, none⟩ = some (.bool C.F.b3) := (blk_cell K22_gc.out 3).trans rfl
  have qc3 : w_21.cell? ⟨g9, 3, none⟩ = some (.bool DA.F.b3) := (blk_cell K22_g9.out 3).trans rfl
  have qf3 := blk_frozen K22_g9.out 3
  go_upto_region 7 with fail
  clear pc3 qc3 qf3
  obtain ⟨w_23, hw_⟩ : ∃ w_, (w_21.setCell ⟨g9, 3, none⟩ (.bool C.F.b3)) = w_ := ⟨_, rfl⟩
  have hu_ : Upd w_21 w_23 (fun k => k = g9) := by rw [← hw_]; exact (Upd.refl w_21 (fun k => k = g9)).set (p := ⟨g9, 3, none⟩) (.inl rfl) _
  have kf_ : w_23.heap[g9]? = some (.cells #[.string DA.F.m, .bool C.F.b1, .bool DA.F.b2, .bool C.F.b3, .bool DA.F.b4, .bool DA.F.b5, .bool DA.F.b6, .slice SA.S.A7 DA.F.us.length SA.S.c7, .slice SA.S.A8 DA.F.ms.length SA.S.c8, .bool DA.F.b9, .slice SA.S.A10 DA.F.vs.length SA.S.c10, .int .i64 DA.p, .int .i64 DA.mx, .bool DA.on, .int .i64 DA.kn, .slice SA.A DA.tab.length SA.c, .string DA.key, .int .i64 DA.df] 29 (0, 0)) := by rw [← hw_]; exact (blk_put (cs := #[.string DA.F.m, .bool C.F.b1, .bool DA.F.b2, .bool DA.F.b3, .bool DA.F.b4, .bool DA.F.b5, .bool DA.F.b6, .slice SA.S.A7 DA.F.us.length SA.S.c7, .slice SA.S.A8 DA.F.ms.length SA.S.c8, .bool DA.F.b9, .slice SA.S.A10 DA.F.vs.length SA.S.c10, .int .i64 DA.p, .int .i64 DA.mx, .bool DA.on, .int .i64 DA.kn, .slice SA.A DA.tab.length SA.c, .string DA.key, .int .i64 DA.df]) K22_g9.out 3 _ rfl)
  rw [hw_]
  clear hw_
  have K24_g9 := Aside0.mk (kf_)
  have B24 := Aside0.mk (B22.out.trans (hu_.toBelow (B := w.heap.size) (fun k hk => by rw [hk]; exact G_g9.out) (B22.out).size))
  have K24_gc := Aside0.mk (hu_.blk K22_gc.out (by have := E_gc_g9.out; omega))
  have K24_go := Aside0.mk (hu_.blk K22_go.out (by have := E_go_g9.out; omega))
  have K24_ga := Aside0.mk (hu_.blk K22_ga.out (by have := E_ga_g9.out; omega))
  have K24_gb := Aside0.mk (hu_.blk K22_gb.out (by have := E_gb_g9.out; omega))
  have K24_g10 := Aside0.mk (hu_.blk K22_g10.out (by have := E_g9_g10.out; omega))
  have O24_SA := Aside0.mk (O22_SA.out.boxT K22_g9.out (by decide) (by decide) hu_)
  have O24_SB := Aside0.mk (O22_SB.out.boxT K22_g9.out (by decide) (by decide) hu_)
  clear hu_ B22 K22_gc K22_go K22_ga K22_gb K22_g10 O22_SA O22_SB K22_g9
  clear kf_
  have pc2 : w_23.cell? ⟨gc, 2, none⟩ = some (.bool C.F.b2) := (blk_cell K24_gc.out 2).trans rfl
  have qc2 : w_23.cell? ⟨g9, 2, none⟩ = some (.bool DA.F.b2) := (blk_cell K24_g9.out 2).trans rfl
  have qf2 := blk_frozen K24_g9.out 2
  go_upto_region 8 with fail
  clear pc2 qc2 qf2
  obtain ⟨w_25, hw_⟩ : ∃ w_, (w_23.setCell ⟨g9, 2, none⟩ (.bool C.F.b2)) = w_ := ⟨_, rfl⟩
  have hu_ : Upd w_23 w_25 (fun k => k = g9) := by rw [← hw_]; exact (Upd.refl w_23 (fun k => k = g9)).set (p := ⟨g9, 2, none⟩) (.inl rfl) _
  have kf_ : w_25.heap[g9]? = some (.cells #[.string DA.F.m, .bool C.F.b1, .bool C.F.b2, .bool C.F.b3, .bool DA.F.b4, .bool DA.F.b5, .bool DA.F.b6, .slice SA.S.A7 DA.F.us.length SA.S.c7, .slice SA.S.A8 DA.F.ms.length SA.S.c8, .bool DA.F.b9, .slice SA.S.A10 DA.F.vs.length SA.S.c10, .int .i64 DA.p, .int .i64 DA.mx, .bool DA.on, .int .i64 DA.kn, .slice SA.A DA.tab.length SA.c, .string DA.key, .int .i64 DA.df] 29 (0, 0)) := by rw [← hw_]; exact (blk_put (cs := #[.string DA.F.m, .bool C.F.b1, .bool DA.F.b2, .bool C.F.b3, .bool DA.F.b4, .bool DA.F.b5, .bool DA.F.b6, .slice SA.S.A7 DA.F.us.length SA.S.c7, .slice SA.S.A8 DA.F.ms.length SA.S.c8, .bool DA.F.b9, .slice SA.S.A10 DA.F.vs.length SA.S.c10, .int .i64 DA.p, .int .i64 DA.mx, .bool DA.on, .int .i64 DA.kn, .slice SA.A DA.tab.length SA.c, .string DA.key, .int .i64 DA.df]) K24_g9.out 2 _ rfl)
  rw [hw_]
  clear hw_
  have K26_g9 := Aside0.mk (kf_)
  have B26 := Aside0.mk (B24.out.trans (hu_.toBelow (B := w.heap.size) (fun k hk => by rw [hk]; exact G_g9.out) (B24.out).size))
  have K26_gc := Aside0.mk (hu_.blk K24_gc.out (by have := E_gc_g9.out; omega))
  have K26_go := Aside0.mk (hu_.blk K24_go.out (by have := E_go_g9.out; omega))
  have K26_ga := Aside0.mk (hu_.blk K24_ga.out (by have := E_ga_g9.out; omega))
  have K26_gb := Aside0.mk (hu_.blk K24_gb.out (by have := E_gb_g9.out; omega))
  have K26_g10 := Aside0.mk (hu_.blk K24_g10.out (by have := E_g9_g10.out; omega))
  have O26_SA := Aside0.mk (O24_SA.out.boxT K24_g9.out (by decide) (by decide) hu_)
  have O26_SB := Aside0.mk (O24_SB.out.boxT K24_g9.out (by decide) (by decide) hu_)
  clear hu_ B24 K24_gc K24_go K24_ga K24_gb K24_g10 O24_SA O24_SB K24_g9
  clear kf_
  have pc5 : w_25.cell? ⟨gc, 5, none⟩ = some (.bool C.F.b5) := (blk_cell K26_gc.out 5).trans rfl
  have qc5 : w_25.cell? ⟨g9, 5, none⟩ = some (.bool DA.F.b5) := (blk_cell K26_g9.out 5).trans rfl
  have qf5 := blk_frozen K26_g9.out 5
  go_upto_region 9 with fail
  clear pc5 qc5 qf5
  obtain ⟨w_27, hw_⟩ : ∃ w_, (w_25.setCell ⟨g9, 5, none⟩ (.bool C.F.b5)) = w_ := ⟨_, rfl⟩
  have hu_ : Upd w_25 w_27 (fun k => k = g9) := by rw [← hw_]; exact (Upd.refl w_25 (fun k => k = g9)).set (p := ⟨g9, 5, none⟩) (.inl rfl) _
  have kf_ : w_27.heap[g9]? = some (.cells #[.string DA.F.m, .bool C.F.b1, .bool C.F.b2, .bool C.F.b3, .bool DA.F.b4, .bool C.F.b5, .bool DA.F.b6, .slice SA.S.A7 DA.F.us.length SA.S.c7, .slice SA.S.A8 DA.F.ms.length SA.S.c8, .bool DA.F.b9, .slice SA.S.A10 DA.F.vs.length SA.S.c10, .int .i64 DA.p, .int .i64 DA.mx, .bool DA.on, .int .i64 DA.kn, .slice SA.A DA.tab.length SA.c, .string DA.key, .int .i64 DA.df] 29 (0, 0)) := by rw [← hw_]; exact (blk_put (cs := #[.string DA.F.m, .bool C.F.b1, .bool C.F.b2, .bool C.F.b3, .bool DA.F.b4, .bool DA.F.b5, .bool DA.F.b6, .slice SA.S.A7 DA.F.us.length SA.S.c7, .slice SA.S.A8 DA.F.ms.length SA.S.c8, .bool DA.F.b9, .slice SA.S.A10 DA.F.vs.length SA.S.c10, .int .i64 DA.p, .int .i64 DA.mx, .bool DA.on, .int .i64 DA.kn, .slice SA.A DA.tab.length SA.c, .string DA.key, .int .i64 DA.df]) K26_g9.out 5 _ rfl)
  rw [hw_]
  clear hw_
  have K28_g9 := Aside0.mk (kf_)
  have B28 := Aside0.mk (B26.out.trans (hu_.toBelow (B := w.heap.size) (fun k hk => by rw [hk]; exact G_g9.out) (B26.out).size))
  have K28_gc := Aside0.mk (hu_.blk K26_gc.out (by have := E_gc_g9.out; omega))
  have K28_go := Aside0.mk (hu_.blk K26_go.out (by have := E_go_g9.out; omega))
  have K28_ga := Aside0.mk (hu_.blk K26_ga.out (by have := E_ga_g9.out; omega))
  have K28_gb := Aside0.mk (hu_.blk K26_gb.out (by have := E_gb_g9.out; omega))
  have K28_g10 := Aside0.mk (hu_.blk K26_g10.out (by have := E_g9_g10.out; omega))
  have O28_SA := Aside0.mk (O26_SA.out.boxT K26_g9.out (by decide) (by decide) hu_)
  have O28_SB := Aside0.mk (O26_SB.out.boxT K26_g9.out (by decide) (by decide) hu_)
  clear hu_ B26 K26_gc K26_go K26_ga K26_gb K26_g10 O26_SA O26_SB K26_g9
  clear kf_
  have pc4 : w_27.cell? ⟨gc, 4, none⟩ = some (.bool C.F.b4) := (blk_cell K28_gc.out 4).trans rfl
  have qc4 : w_27.cell? ⟨g9, 4, none⟩ = some (.bool DA.F.b4) := (blk_cell K28_g9.out 4).trans rfl
  have qf4 := blk_frozen K28_g9.out 4
  go_upto_region 10 with fail
  clear pc4 qc4 qf4
  obtain ⟨w_29, hw_⟩ : ∃ w_, (w_27.setCell ⟨g9, 4, none⟩ (.bool C.F.b4)) = w_ := ⟨_, rfl⟩
  have hu_ : Upd w_27 w_29 (fun k => k = g9) := by rw [← hw_]; exact (Upd.refl w_27 (fun k => k = g9)).set (p := ⟨g9, 4, none⟩) (.inl rfl) _
  have kf_ : w_29.heap[g9]? = some (.cells #[.string DA.F.m, .bool C.F.b1, .bool C.F.b2, .bool C.F.b3, .bool C.F.b4, .bool C.F.b5, .bool DA.F.b6, .slice SA.S.A7 DA.F.us.length SA.S.c7, .slice SA.S.A8 DA.F.ms.length SA.S.c8, .bool DA.F.b9, .slice SA.S.A10 DA.F.vs.length SA.S.c10, .int .i64 DA.p, .int .i64 DA.mx, .bool DA.on, .int .i64 DA.kn, .slice SA.A DA.tab.length SA.c, .string DA.key, .int .i64 DA.df] 29 (0, 0)) := by rw [← hw_]; exact (blk_put (cs := #[.string DA.F.m, .bool C.F.b1, .bool C.F.b2, .bool C.F.b3, .bool DA.F.b4, .bool C.F.b5, .bool DA.F.b6, .slice SA.S.A7 DA.F.us.length SA.S.c7, .slice SA.S.A8 DA.F.ms.length SA.S.c8, .bool DA.F.b9, .slice SA.S.A10 DA.F.vs.length SA.S.c10, .int .i64 DA.p, .int .i64 DA.mx, .bool DA.on, .int .i64 DA.kn, .slice SA.A DA.tab.length SA.c, .string DA.key, .int .i64 DA.df]) K28_g9.out 4 _ rfl)
  rw [hw_]
  clear hw_
  have K30_g9 := Aside0.mk (kf_)
  have B30 := Aside0.mk (B28.out.trans (hu_.toBelow (B := w.heap.size) (fun k hk => by rw [hk]; exact G_g9.out) (B28.out).size))
  have K30_gc := Aside0.mk (hu_.blk K28_gc.out (by have := E_gc_g9.out; omega))
  have K30_go := Aside0.mk (hu_.blk K28_go.out (by have := E_go_g9.out; omega))
  have K30_ga := Aside0.mk (hu_.blk K28_ga.out (by have := E_ga_g9.out; omega))
  have K30_gb := Aside0.mk (hu_.blk K28_gb.out (by have := E_gb_g9.out; omega))
  have K30_g10 := Aside0.mk (hu_.blk K28_g10.out (by have := E_g9_g10.out; omega))
  have O30_SA := Aside0.mk (O28_SA.out.boxT K28_g9.out (by decide) (by decide) hu_)
  have O30_SB := Aside0.mk (O28_SB.out.boxT K28_g9.out (by decide) (by decide) hu_)
  clear hu_ B28 K28_gc K28_go K28_ga K28_gb K28_g10 O28_SA O28_SB K28_g9
  clear kf_
  have pc6 : w_29.cell? ⟨gc, 6, none⟩ = some (.bool C.F.b6) := (blk_cell K30_gc.out 6).trans rfl
  have qc6 : w_29.cell? ⟨g9, 6, none⟩ = some (.bool DA.F.b6) := (blk_cell K30_g9.out 6).trans rfl
  have qf6 := blk_frozen K30_g9.out 6
  go_upto_region 11 with fail
  clear pc6 qc6 qf6
  obtain ⟨w_31, hw_⟩ : ∃ w_, (w_29.setCell ⟨g9, 6, none⟩ (.bool C.F.b6)) = w_ := ⟨_, rfl⟩
  have hu_ : Upd w_29 w_31 (fun k => k = g9) := by rw [← hw_]; exact (Upd.refl w_29 (fun k => k = g9)).set (p := ⟨g9, 6, none⟩) (.inl rfl) _
  have kf_ : w_31.heap[g9]? = some (.cells #[.string DA.F.m, .bool C.F.b1, .bool C.F.b2, .bool C.F.b3, .bool C.F.b4, .bool C.F.b5, .bool C.F.b6, .slice SA.S.A7 DA.F.us.length SA.S.c7, .slice SA.S.A8 DA.F.ms.length SA.S.c8, .bool DA.F.b9, .slice SA.S.A10 DA.F.vs.length SA.S.c10, .int .i64 DA.p, .int .i64 DA.mx, .bool DA.on, .int .i64 DA.kn, .slice SA.A DA.tab.length SA.c, .string DA.key, .int .i64 DA.df] 29 (0, 0)) := by rw [← hw_]; exact (blk_put (cs := #[.string DA.F.m, .bool C.F.b1, .bool C.F.b2, .bool C.F.b3, .bool C.F.b4, .bool C.F.b5, .bool DA.F.b6, .slice SA.S.A7 DA.F.us.length SA.S.c7, .slice SA.S.A8 DA.F.ms.length SA.S.c8, .bool DA.F.b9, .slice SA.S.A10 DA.F.vs.length SA.S.c10, .int .i64 DA.p, .int .i64 DA.mx, .bool DA.on, .int .i64 DA.kn, .slice SA.A DA.tab.length SA.c, .string DA.key, .int .i64 DA.df]) K30_g9.out 6 _ rfl)
  rw [hw_]
  clear hw_
  have K32_g9 := Aside0.mk (kf_)
  have B32 := Aside0.mk (B30.out.trans (hu_.toBelow (B := w.heap.size) (fun k hk => by rw [hk]; exact G_g9.out) (B30.out).size))
  have K32_gc := Aside0.mk (hu_.blk K30_gc.out (by have := E_gc_g9.out; omega))
  have K32_go := Aside0.mk (hu_.blk K30_go.out (by have := E_go_g9.out; omega))
  have K32_ga := Aside0.mk (hu_.blk K30_ga.out (by have := E_ga_g9.out; omega))
  have K32_gb := Aside0.mk (hu_.blk K30_gb.out (by have := E_gb_g9.out; omega))
  have K32_g10 := Aside0.mk (hu_.blk K30_g10.out (by have := E_g9_g10.out; omega))
  have O32_SA := Aside0.mk (O30_SA.out.boxT K30_g9.out (by decide) (by decide) hu_)
  have O32_SB := Aside0.mk (O30_SB.out.boxT K30_g9.out (by decide) (by decide) hu_)
  clear hu_ B30 K30_gc K30_go K30_ga K30_gb K30_g10 O30_SA O30_SB K30_g9
  clear kf_
  have pc10 : w_31.cell? ⟨gc, 10, none⟩ = some (.slice S.S.A10 C.F.vs.length S.S.c10) := (blk_cell K32_gc.out 10).trans rfl
  have qc10 : w_31.cell? ⟨g10, 10, none⟩ = some (.slice SB.S.A10 DB.F.vs.length SB.S.c10) := (blk_cell K32_g10.out 10).trans rfl
  have qf10 := blk_frozen K32_g10.out 10
  go_upto_region 12 with fail
  clear pc10 qc10 qf10
  obtain ⟨w_33, hw_⟩ : ∃ w_, (w_31.setCell ⟨g10, 10, none⟩ (.slice S.S.A10 C.F.vs.length S.S.c10)) = w_ := ⟨_, rfl⟩
  have hu_ : Upd w_31 w_33 (fun k => k = g10) := by rw [← hw_]; exact (Upd.refl w_31 (fun k => k = g10)).set (p := ⟨g10, 10, none⟩) (.inl rfl) _
  have kf_ : w_33.heap[g10]? = some (.cells #[.string DB.F.m, .bool DB.F.b1, .bool DB.F.b2, .bool DB.F.b3, .bool DB.F.b4, .bool DB.F.b5, .bool DB.F.b6, .slice SB.S.A7 DB.F.us.length SB.S.c7, .slice SB.S.A8 DB.F.ms.length SB.S.c8, .bool DB.F.b9, .slice S.S.A10 C.F.vs.length S.S.c10, .int .i64 DB.p, .int .i64 DB.mx, .bool DB.on, .int .i64 DB.kn, .slice SB.A DB.tab.length SB.c, .string DB.key, .int .i64 DB.df] 29 (0, 0)) := by rw [← hw_]; exact (blk_put (cs := #[.string DB.F.m, .bool DB.F.b1, .bool DB.F.b2, .bool DB.F.b3, .bool DB.F.b4, .bool DB.F.b5, .bool DB.F.b6, .slice SB.S.A7 DB.F.us.length SB.S.c7, .slice SB.S.A8 DB.F.ms.length SB.S.c8, .bool DB.F.b9, .slice SB.S.A10 DB.F.vs.length SB.S.c10, .int .i64 DB.p, .int .i64 DB.mx, .bool DB.on, .int .i64 DB.kn, .slice SB.A DB.tab.length SB.c, .string DB.key, .int .i64 DB.df]) K32_g10.out 10 _ rfl)
  rw [hw_]
  clear hw_
  have K34_g10 := Aside0.mk (kf_)
  have B34 := Aside0.mk (B32.out.trans (hu_.toBelow (B := w.heap.size) (fun k hk => by rw [hk]; exact G_g10.out) (B32.out).size))
  have K34_gc := Aside0.mk (hu_.blk K32_gc.out (by have := E_gc_g10.out; omega))
  have K34_go := Aside0.mk (hu_.blk K32_go.out (by have := E_go_g10.out; omega))
  have K34_ga := Aside0.mk (hu_.blk K32_ga.out (by have := E_ga_g10.out; omega))
  have K34_gb := Aside0.mk (hu_.blk K32_gb.out (by have := E_gb_g10.out; omega))
  have K34_g9 := Aside0.mk (hu_.blk K32_g9.out (by have := E_g9_g10.out; omega))
  have O34_SA := Aside0.mk (O32_SA.out.boxT K32_g10.out (by decide) (by decide) hu_)
  have O34_SB := Aside0.mk (O32_SB.out.boxT K32_g10.out (by decide) (by decide) hu_)
  clear hu_ B32 K32_gc K32_go K32_ga K32_gb K32_g9 O32_SA O32_SB K32_g10
  clear kf_
  have hk_ := K34_g9.out
  rw [show (#[.string DA.F.m, .bool C.F.b1, .bool C.F.b2, .bool C.F.b3, .bool C.F.b4, .bool C.F.b5, .bool C.F.b6, .slice SA.S.A7 DA.F.us.length SA.S.c7, .slice SA.S.A8 DA.F.ms.length SA.S.c8, .bool DA.F.b9, .slice SA.S.A10 DA.F.vs.length SA.S.c10, .int .i64 DA.p, .int .i64 DA.mx, .bool DA.on, .int .i64 DA.kn, .slice SA.A DA.tab.length SA.c, .string DA.key, .int .i64 DA.df] : Array Value) = cellsC (unrx C DA) SA from rfl, QA.out.1] at hk_
  have KQ_g9 := Aside0.mk hk_
  clear hk_ K34_g9
  have hk_ := K34_g10.out
  rw [show (#[.string DB.F.m, .bool DB.F.b1, .bool DB.F.b2, .bool DB.F.b3, .bool DB.F.b4, .bool DB.F.b5, .bool DB.F.b6, .slice SB.S.A7 DB.F.us.length SB.S.c7, .slice SB.S.A8 DB.F.ms.length SB.S.c8, .bool DB.F.b9, .slice S.S.A10 C.F.vs.length S.S.c10, .int .i64 DB.p, .int .i64 DB.mx, .bool DB.on, .int .i64 DB.kn, .slice SB.A DB.tab.length SB.c, .string DB.key, .int .i64 DB.df] : Array Value) = cellsC (unvl C DB) (⟨⟨SB.S.A7, SB.S.c7, SB.S.A8, SB.S.c8, S.S.A10, S.S.c10⟩, SB.A, SB.c⟩ : SlC) from rfl, QB.out.1] at hk_
  have KQ_g10 := Aside0.mk hk_
  clear hk_ K34_g10
  obtain ⟨SY, hSY⟩ : ∃ x, x = (⟨⟨SB.S.A7, SB.S.c7, SB.S.A8, SB.S.c8, S.S.A10, S.S.c10⟩, SB.A, SB.c⟩ : SlC) := ⟨_, rfl⟩
  rw [← hSY] at KQ_g10
  have VA : Aside0 (CV w_33 C SA) := ⟨by
    have q : CV w_33 (unrx C DA) SA := ⟨⟨O34_SA.out.cv.f.r7, O34_SA.out.cv.f.r8, O34_SA.out.cv.f.r10, O34_SA.out.cv.f.l7, O34_SA.out.cv.f.l8, O34_SA.out.cv.f.l10⟩, O34_SA.out.cv.r, O34_SA.out.cv.l⟩
    rw [QA.out.1] at q
    exact q⟩
  have VB : Aside0 (CV w_33 C SY) := ⟨by
    have q : CV w_33 (unvl C DB) SY := by
      rw [hSY]
      exact ⟨⟨O34_SB.out.cv.f.r7, O34_SB.out.cv.f.r8, HV.out.f.r10.below B34.out, O34_SB.out.cv.f.l7, O34_SB.out.cv.f.l8, HV.out.f.l10⟩, O34_SB.out.cv.r, O34_SB.out.cv.l⟩
    rw [QB.out.1] at q
    exact q⟩
  clear hSY
  have NSA : na ≠ 0 → ∀ w, FV w DA.F SA.S → FV w C.F S.S → Calls Try.prog 16 #[.agg (cellsF DA.F SA.S), .agg (cellsF C.F S.S)] w fun e w' => e = .returned (.bool true) ∧ Below w.heap.size w w' := fun h w h1 h2 => by
    have hs := HS.out.1
    rw [QA.out.2 h] at h1 ⊢
    exact same_f C.F SA.S S.S w h1 h2 hs
  have NSB : nb ≠ 0 → ∀ w, FV w DB.F SB.S → FV w C.F S.S → Calls Try.prog 16 #[.agg (cellsF DB.F SB.S), .agg (cellsF C.F S.S)] w fun e w' => e = .returned (.bool true) ∧ Below w.heap.size w w' := fun h w h1 h2 => by
    have hs := HS.out.1
    rw [QB.out.2 h] at h1 ⊢
    exact same_f C.F SB.S S.S w h1 h2 hs
  go_wp2_with (first | (refine wpList_load_part_g (by rfl) 29 (.tmp 9) rfl g9 0 rfl 29 #[.string C.F.m, .bool C.F.b1, .bool C.F.b2, .bool C.F.b3, .bool C.F.b4, .bool C.F.b5, .bool C.F.b6, .slice SA.S.A7 C.F.us.length SA.S.c7, .slice SA.S.A8 C.F.ms.length SA.S.c8, .bool C.F.b9, .slice SA.S.A10 C.F.vs.length SA.S.c10, .int .i64 C.p, .int .i64 C.mx, .bool C.on, .int .i64 C.kn, .slice SA.A C.tab.length SA.c, .string C.key, .int .i64 C.df] (cellsC C SA) (0, 0) _ KQ_g9.out Try.underlying29 rfl (by kernel_rfl) rfl ?_) | (refine wpList_load_part_g (by rfl) 29 (.tmp 2) rfl gc 0 rfl 29 #[.string C.F.m, .bool C.F.b1, .bool C.F.b2, .bool C.F.b3, .bool C.F.b4, .bool C.F.b5, .bool C.F.b6, .slice S.S.A7 C.F.us.length S.S.c7, .slice S.S.A8 C.F.ms.length S.S.c8, .bool C.F.b9, .slice S.S.A10 C.F.vs.length S.S.c10, .int .i64 C.p, .int .i64 C.mx, .bool C.on, .int .i64 C.kn, .slice S.A C.tab.length S.c, .string C.key, .int .i64 C.df] (cellsC C S) (0, 0) _ K34_gc.out Try.underlying29 rfl (by kernel_rfl) rfl ?_))
  refine (rsame_c C SA S _ VA.out (HV.out.below B34.out) HS.out).mono ?_
  rintro e w_35 ⟨rfl, hb_⟩
  have VB2 := Aside0.mk (VB.out.below hb_)
  clear VA VB
  have B36 := Aside0.mk (below_step B34.out hb_)
  have K36_gc := Aside0.mk (blk_below K34_gc.out hb_)
  have K36_go := Aside0.mk (blk_below K34_go.out hb_)
  have K36_ga := Aside0.mk (blk_below K34_ga.out hb_)
  have K36_gb := Aside0.mk (blk_below K34_gb.out hb_)
  have K36_g9 := Aside0.mk (blk_below KQ_g9.out hb_)
  have K36_g10 := Aside0.mk (blk_below KQ_g10.out hb_)
  have O36_SA := Aside0.mk (O34_SA.out.below hb_)
  have O36_SB := Aside0.mk (O34_SB.out.below hb_)
  clear hb_ B34 K34_gc K34_go K34_ga K34_gb KQ_g9 KQ_g10 O34_SA O34_SB
  go_wp2_with (first | (refine wpList_load_part_g (by rfl) 29 (.tmp 10) rfl g10 0 rfl 29 #[.string C.F.m, .bool C.F.b1, .bool C.F.b2, .bool C.F.b3, .bool C.F.b4, .bool C.F.b5, .bool C.F.b6, .slice SY.S.A7 C.F.us.length SY.S.c7, .slice SY.S.A8 C.F.ms.length SY.S.c8, .bool C.F.b9, .slice SY.S.A10 C.F.vs.length SY.S.c10, .int .i64 C.p, .int .i64 C.mx, .bool C.on, .int .i64 C.kn, .slice SY.A C.tab.length SY.c, .string C.key, .int .i64 C.df] (cellsC C SY) (0, 0) _ K36_g10.out Try.underlying29 rfl (by kernel_rfl) rfl ?_) | (refine wpList_load_part_g (by rfl) 29 (.tmp 2) rfl gc 0 rfl 29 #[.string C.F.m, .bool C.F.b1, .bool C.F.b2, .bool C.F.b3, .bool C.F.b4, .bool C.F.b5, .bool C.F.b6, .slice S.S.A7 C.F.us.length S.S.c7, .slice S.S.A8 C.F.ms.length S.S.c8, .bool C.F.b9, .slice S.S.A10 C.F.vs.length S.S.c10, .int .i64 C.p, .int .i64 C.mx, .bool C.on, .int .i64 C.kn, .slice S.A C.tab.length S.c, .string C.key, .int .i64 C.df] (cellsC C S) (0, 0) _ K36_gc.out Try.underlying29 rfl (by kernel_rfl) rfl ?_))
  refine (rsame_c C SY S _ VB2.out (HV.out.below B36.out) HS.out).mono ?_
  rintro e w_37 ⟨rfl, hb_⟩
  clear VB2
  have B38 := Aside0.mk (below_step B36.out hb_)
  have K38_gc := Aside0.mk (blk_below K36_gc.out hb_)
  have K38_go := Aside0.mk (blk_below K36_go.out hb_)
  have K38_ga := Aside0.mk (blk_below K36_ga.out hb_)
  have K38_gb := Aside0.mk (blk_below K36_gb.out hb_)
  have K38_g9 := Aside0.mk (blk_below K36_g9.out hb_)
  have K38_g10 := Aside0.mk (blk_below K36_g10.out hb_)
  have O38_SA := Aside0.mk (O36_SA.out.below hb_)
  have O38_SB := Aside0.mk (O36_SB.out.below hb_)
  clear hb_ B36 K36_gc K36_go K36_ga K36_gb K36_g9 K36_g10 O36_SA O36_SB
  by_cases ca : na = 0
  · subst ca
    by_cases cb : nb = 0
    · subst cb
      go_wp2_with fail
      refine (fixed_c _).mono ?_
      rintro e w_39 ⟨rfl, hb_⟩
      go_wp2_with fail
      go_ret
      exact ⟨rfl, below_step B38.out hb_⟩
    · have db : (nb == 0) = false := beq_eq_false_iff_ne.2 cb
      go_wp2_with (first | (refine wpList_load_part_g (by rfl) 25 (.tmp 95) rfl gb 0 rfl 29 #[.string DB.F.m, .bool DB.F.b1, .bool DB.F.b2, .bool DB.F.b3, .bool DB.F.b4, .bool DB.F.b5, .bool DB.F.b6, .slice SB.S.A7 DB.F.us.length SB.S.c7, .slice SB.S.A8 DB.F.ms.length SB.S.c8, .bool DB.F.b9, .slice SB.S.A10 DB.F.vs.length SB.S.c10, .int .i64 DB.p, .int .i64 DB.mx, .bool DB.on, .int .i64 DB.kn, .slice SB.A DB.tab.length SB.c, .string DB.key, .int .i64 DB.df] (cellsF DB.F SB.S) (0, 0) _ K38_gb.out Try.underlying25 rfl (by kernel_rfl) rfl ?_) | (refine wpList_load_part_g (by rfl) 25 (.tmp 97) rfl gc 0 rfl 29 #[.string C.F.m, .bool C.F.b1, .bool C.F.b2, .bool C.F.b3, .bool C.F.b4, .bool C.F.b5, .bool C.F.b6, .slice S.S.A7 C.F.us.length S.S.c7, .slice S.S.A8 C.F.ms.length S.S.c8, .bool C.F.b9, .slice S.S.A10 C.F.vs.length S.S.c10, .int .i64 C.p, .int .i64 C.mx, .bool C.on, .int .i64 C.kn, .slice S.A C.tab.length S.c, .string C.key, .int .i64 C.df] (cellsF C.F S.S) (0, 0) _ K38_gc.out Try.underlying25 rfl (by kernel_rfl) rfl ?_))
      refine (NSB cb _ O38_SB.out.cv.f (HV.out.f.below B38.out)).mono ?_
      rintro e w_40 ⟨rfl, hb_⟩
      have B41 := Aside0.mk (below_step B38.out hb_)
      have K41_gc := Aside0.mk (blk_below K38_gc.out hb_)
      have K41_go := Aside0.mk (blk_below K38_go.out hb_)
      have K41_ga := Aside0.mk (blk_below K38_ga.out hb_)
      have K41_gb := Aside0.mk (blk_below K38_gb.out hb_)
      have K41_g9 := Aside0.mk (blk_below K38_g9.out hb_)
      have K41_g10 := Aside0.mk (blk_below K38_g10.out hb_)
      have O41_SA := Aside0.mk (O38_SA.out.below hb_)
      have O41_SB := Aside0.mk (O38_SB.out.below hb_)
      clear hb_ B38 K38_gc K38_go K38_ga K38_gb K38_g9 K38_g10 O38_SA O38_SB
      go_wp2_with fail
      refine (fixed_c _).mono ?_
      rintro e w_42 ⟨rfl, hb_⟩
      go_wp2_with fail
      go_ret
      exact ⟨rfl, below_step B41.out hb_⟩
  · have da : (na == 0) = false := beq_eq_false_iff_ne.2 ca
    go_wp2_with (first | (refine wpList_load_part_g (by rfl) 25 (.tmp 84) rfl ga 0 rfl 29 #[.string DA.F.m, .bool DA.F.b1, .bool DA.F.b2, .bool DA.F.b3, .bool DA.F.b4, .bool DA.F.b5, .bool DA.F.b6, .slice SA.S.A7 DA.F.us.length SA.S.c7, .slice SA.S.A8 DA.F.ms.length SA.S.c8, .bool DA.F.b9, .slice SA.S.A10 DA.F.vs.length SA.S.c10, .int .i64 DA.p, .int .i64 DA.mx, .bool DA.on, .int .i64 DA.kn, .slice SA.A DA.tab.length SA.c, .string DA.key, .int .i64 DA.df] (cellsF DA.F SA.S) (0, 0) _ K38_ga.out Try.underlying25 rfl (by kernel_rfl) rfl ?_) | (refine wpList_load_part_g (by rfl) 25 (.tmp 86) rfl gc 0 rfl 29 #[.string C.F.m, .bool C.F.b1, .bool C.F.b2, .bool C.F.b3, .bool C.F.b4, .bool C.F.b5, .bool C.F.b6, .slice S.S.A7 C.F.us.length S.S.c7, .slice S.S.A8 C.F.ms.length S.S.c8, .bool C.F.b9, .slice S.S.A10 C.F.vs.length S.S.c10, .int .i64 C.p, .int .i64 C.mx, .bool C.on, .int .i64 C.kn, .slice S.A C.tab.length S.c, .string C.key, .int .i64 C.df] (cellsF C.F S.S) (0, 0) _ K38_gc.out Try.underlying25 rfl (by kernel_rfl) rfl ?_))
    refine (NSA ca _ O38_SA.out.cv.f (HV.out.f.below B38.out)).mono ?_
    rintro e w_43 ⟨rfl, hb_⟩
    have B44 := Aside0.mk (below_step B38.out hb_)
    have K44_gc := Aside0.mk (blk_below K38_gc.out hb_)
    have K44_go := Aside0.mk (blk_below K38_go.out hb_)
    have K44_ga := Aside0.mk (blk_below K38_ga.out hb_)
    have K44_gb := Aside0.mk (blk_below K38_gb.out hb_)
    have K44_g9 := Aside0.mk (blk_below K38_g9.out hb_)
    have K44_g10 := Aside0.mk (blk_below K38_g10.out hb_)
    have O44_SA := Aside0.mk (O38_SA.out.below hb_)
    have O44_SB := Aside0.mk (O38_SB.out.below hb_)
    clear hb_ B38 K38_gc K38_go K38_ga K38_gb K38_g9 K38_g10 O38_SA O38_SB
    by_cases cb : nb = 0
    · subst cb
      go_wp2_with fail
      refine (fixed_c _).mono ?_
      rintro e w_45 ⟨rfl, hb_⟩
      go_wp2_with fail
      go_ret
      exact ⟨rfl, below_step B44.out hb_⟩
    · have db : (nb == 0) = false := beq_eq_false_iff_ne.2 cb
      go_wp2_with (first | (refine wpList_load_part_g (by rfl) 25 (.tmp 95) rfl gb 0 rfl 29 #[.string DB.F.m, .bool DB.F.b1, .bool DB.F.b2, .bool DB.F.b3, .bool DB.F.b4, .bool DB.F.b5, .bool DB.F.b6, .slice SB.S.A7 DB.F.us.length SB.S.c7, .slice SB.S.A8 DB.F.ms.length SB.S.c8, .bool DB.F.b9, .slice SB.S.A10 DB.F.vs.length SB.S.c10, .int .i64 DB.p, .int .i64 DB.mx, .bool DB.on, .int .i64 DB.kn, .slice SB.A DB.tab.length SB.c, .string DB.key, .int .i64 DB.df] (cellsF DB.F SB.S) (0, 0) _ K44_gb.out Try.underlying25 rfl (by kernel_rfl) rfl ?_) | (refine wpList_load_part_g (by rfl) 25 (.tmp 97) rfl gc 0 rfl 29 #[.string C.F.m, .bool C.F.b1, .bool C.F.b2, .bool C.F.b3, .bool C.F.b4, .bool C.F.b5, .bool C.F.b6, .slice S.S.A7 C.F.us.length S.S.c7, .slice S.S.A8 C.F.ms.length S.S.c8, .bool C.F.b9, .slice S.S.A10 C.F.vs.length S.S.c10, .int .i64 C.p, .int .i64 C.mx, .bool C.on, .int .i64 C.kn, .slice S.A C.tab.length S.c, .string C.key, .int .i64 C.df] (cellsF C.F S.S) (0, 0) _ K44_gc.out Try.underlying25 rfl (by kernel_rfl) rfl ?_))
      refine (NSB cb _ O44_SB.out.cv.f (HV.out.f.below B44.out)).mono ?_
      rintro e w_46 ⟨rfl, hb_⟩
      have B47 := Aside0.mk (below_step B44.out hb_)
      have K47_gc := Aside0.mk (blk_below K44_gc.out hb_)
      have K47_go := Aside0.mk (blk_below K44_go.out hb_)
      have K47_ga := Aside0.mk (blk_below K44_ga.out hb_)
      have K47_gb := Aside0.mk (blk_below K44_gb.out hb_)
      have K47_g9 := Aside0.mk (blk_below K44_g9.out hb_)
      have K47_g10 := Aside0.mk (blk_below K44_g10.out hb_)
      have O47_SA := Aside0.mk (O44_SA.out.below hb_)
      have O47_SB := Aside0.mk (O44_SB.out.below hb_)
      clear hb_ B44 K44_gc K44_go K44_ga K44_gb K44_g9 K44_g10 O44_SA O44_SB
      go_wp2_with fail
      refine (fixed_c _).mono ?_
      rintro e w_48 ⟨rfl, hb_⟩
      go_wp2_with fail
      go_ret
      exact ⟨rfl, below_step B47.out hb_⟩
end Go.Proofs.Ytkgbhlcbjflnlaa.Fl
