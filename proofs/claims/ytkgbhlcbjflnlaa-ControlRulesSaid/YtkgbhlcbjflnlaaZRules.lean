/- Commands and settings: contracts by hand, and the laws over them. -/
import Derived.Test.YtkgbhlcbjflnlaaZOwn
import Derived.Test.YtkgbhlcbjflnlaaZCm
import Derived.Test.YtkgbhlcbjflnlaaZPl3
import Derived.Deep.DeepCutAuto
import Derived.Deep.CutBlock
import Derived.Test.YtkgbhlcbjflnlaaZBs
namespace Go.Proofs.Ytkgbhlcbjflnlaa.Fl
open Go Go.RowKit Go.Proofs.YtkgbhlcbjflnlaaW.PrintWords Go.Proofs.YtkgbhlcbjflnlaaW.PrintLast Go.Proofs.YtkgbhlcbjflnlaaW.PrintMore Go.Proofs.Ytkgbhlcbjflnlaa.Mth Go.Proofs.Ytkgbhlcbjflnlaa.P Go.Proofs.Ytkgbhlcbjflnlaa.Own Go.Proofs
set_option linter.unusedVariables false
set_option linter.unusedSimpArgs false
/-! ### ControlRules -/
def lowT (m : Nat) (l : List Int) : List Nat := (l.take 130).map fun x => (x % (m : Int)).toNat
theorem lowT_len (m : Nat) (l : List Int) : (lowT m l).length = min l.length 130 := by unfold lowT; rw [List.length_map, List.length_take]; omega
theorem lowT_get (m : Nat) (hm : 0 < m) (l : List Int) (i : Nat) (h : i < (lowT m l).length) (h2 : i < l.length) : ((lowT m l)[i] : Int) = l[i] % (m : Int) := by
  have e : (lowT m l)[i] = (l[i] % (m : Int)).toNat := by simp [lowT]
  rw [e]
  have := Int.emod_nonneg l[i] (b := (m : Int)) (by omega)
  omega
theorem lowT_lt (m : Nat) (hm : 0 < m) (l : List Int) : ∀ q ∈ lowT m l, q < m := by
  intro q hq
  unfold lowT at hq
  rw [List.mem_map] at hq
  obtain ⟨x, _, rfl⟩ := hq
  have h0 := Int.emod_nonneg x (b := (m : Int)) (by omega)
  have h1 := Int.emod_lt_of_pos x (b := (m : Int)) (by omega)
  omega
theorem intsOf_snoc (l : List Nat) (i : Nat) (h : i < l.length) : intsOf (l.take (i + 1)) = intsOf (l.take i) ++ [((l[i] : Nat) : Int)] := by
  unfold intsOf
  rw [List.take_succ_eq_append_getElem h, List.map_append]
  rfl
theorem encs_snoc {α : Type} (enc : α → Value) (l : List α) (a : α) : encs enc (l ++ [a]) = encs enc l ++ [enc a] := by simp [encs]
def fitI (f : Bool) (mx : Int) (l : List Nat) : Bool := f && (intsOf l).all fun q => decide (q < mx)
theorem fitI_snoc (f : Bool) (mx : Int) (l : List Nat) (i : Nat) (h : i < l.length) : fitI f mx (l.take (i + 1)) = (fitI f mx (l.take i) && decide (((l[i] : Nat) : Int) < mx)) := by
  unfold fitI
  rw [intsOf_snoc l i h, List.all_append, Bool.and_assoc]
  simp
theorem info3 : (Try.prog.info? 3).map (fun i => (i.zero, i.size, i.bytes)) = some (some (.int .i64 0), 1, 8) := by kernel_rfl
set_option maxHeartbeats 16000000 in
set_option maxRecDepth 100000 in
theorem crules_c (C0 : Cfg) (S : SlC) (kn0 : Int) (A0 : Option Addr) (c0 : Nat) (tab : List Int) (key0 : ByteArray) (df0 : Int) (pairs : Int) (w : World) (h : CV w C0 S) (hr : ReadsOf (Value.int .i64) 0 w A0 tab.length tab) (hc : tab.length ≤ c0) :
    Calls Try.prog 7 #[.agg (cellsC C0 S), .agg #[.int .i64 kn0, .slice A0 tab.length c0, .string key0, .int .i64 df0], .int .i64 pairs] w fun e w' => e = .returned (.bool true) ∧ Below w.heap.size w w' := by
  obtain ⟨C, hC⟩ : ∃ x, boundC C0 = x := ⟨_, rfl⟩
  have NB : ∀ w, CV w C0 S → Calls Try.prog 9 #[.agg (cellsC C0 S)] w fun e w' => e = .returned (.agg (cellsC C S)) ∧ Below w.heap.size w w' := fun w h => by
    rw [← hC]
    exact bound_c C0 S w h
  have HV0 := Aside0.mk h
  have HV : Aside0 (CV w C S) := ⟨by rw [← hC]; exact h.bound⟩
  have HS : Aside0 (SmallC C) := ⟨by rw [← hC]; exact boundC_small C0⟩
  have HRD := Aside0.mk hr
  obtain ⟨kn, hkn, lkn⟩ := and_nat kn0 16 (by decide)
  obtain ⟨df, hdf, ldf⟩ := and_nat df0 4 (by decide)
  obtain ⟨p, hp, lp⟩ := and_nat pairs 4 (by decide)
  have lkn : kn < 65536 := lkn
  have ldf : df < 16 := ldf
  have lp : p < 16 := lp
  have hkn' : Go.bits .and .i64 kn0 65535 = (kn : Int) := hkn
  have hdf' : Go.bits .and .i64 df0 15 = (df : Int) := hdf
  have hp' : Go.bits .and .i64 pairs 15 = (p : Int) := hp
  obtain ⟨kz, hkz⟩ : ∃ kz, min key0.size 60 = kz := ⟨_, rfl⟩
  have z1 : min (key0.size : Int) 60 = (kz : Int) := by omega
  have z2 : min key0.size 60 = kz := hkz
  have z4 : decide ((kz : Int) ≤ (key0.size : Int)) = true := decide_eq_true (by omega)
  have z5 : ((kz : Int) ≤ (key0.size : Int)) = True := eq_true (by omega)
  have z6 : (kz ≤ key0.size) = True := eq_true (by omega)
  obtain ⟨key, hkey⟩ : ∃ k, key0.extract 0 kz = k := ⟨_, rfl⟩
  have lkey : key.size ≤ 60 := by rw [← hkey]; simp; omega
  obtain ⟨tn, htn⟩ : ∃ l, lowT 16 tab = l := ⟨_, rfl⟩
  have ltn : tn.length = min tab.length 130 := by rw [← htn]; exact lowT_len 16 tab
  have gtn : ∀ i (h : i < tn.length) (h2 : i < tab.length), ((tn[i] : Nat) : Int) = tab[i] % 16 := by
    subst htn
    exact fun i h h2 => lowT_get 16 (by decide) tab i h h2
  have btn : ∀ q ∈ tn, q < 16 := by rw [← htn]; exact lowT_lt 16 (by decide) tab
  have GTN := Aside0.mk gtn
  have BTN := Aside0.mk btn
  have LTN := Aside0.mk ltn
  have LL := Aside0.mk (And.intro lkn (And.intro ldf (And.intro lp lkey)))
  obtain ⟨F0, hF0⟩ : ∃ f, (decide ((p : Int) ≥ 1) && decide ((p : Int) ≤ C.mx) && decide ((df : Int) < C.mx)) = f := ⟨_, rfl⟩
  have HF0 := Aside0.mk hF0
  clear h hr hC hkn hdf hp lkn ldf lp hkz lkey htn ltn gtn btn hF0
  have hu25 := Try.underlying25
  have hu27 := Try.underlying27
  have hu29 := Try.underlying29
  go_enter Try.func7, Try.ntmps7
  have hu23 := Try.underlying23
  go_upto_region 1 with (fail)
  obtain ⟨w_1, hw_gc⟩ : ∃ w_, w.alloc (.cells #[.string C0.F.m, .bool C0.F.b1, .bool C0.F.b2, .bool C0.F.b3, .bool C0.F.b4, .bool C0.F.b5, .bool C0.F.b6, .slice S.S.A7 C0.F.us.length S.S.c7, .slice S.S.A8 C0.F.ms.length S.S.c8, .bool C0.F.b9, .slice S.S.A10 C0.F.vs.length S.S.c10, .int .i64 C0.p, .int .i64 C0.mx, .bool C0.on, .int .i64 C0.kn, .slice S.A C0.tab.length S.c, .string C0.key, .int .i64 C0.df] 29) = w_ := ⟨_, rfl⟩
  rw [hw_gc]
  obtain ⟨w_2, hw_gr⟩ : ∃ w_, w_1.alloc (.cells #[.int .i64 kn0, .slice A0 tab.length c0, .string key0, .int .i64 df0] 27) = w_ := ⟨_, rfl⟩
  rw [hw_gr]
  have z_gc : w_1.heap.size = w.heap.size + 1 := by rw [← hw_gc]; simp
  have ha_ : Below w.heap.size w w_1 := by rw [← hw_gc]; exact below_alloc (Below.refl _ _) _
  have BX1 : Aside0 (w_1.heap[w.heap.size]? = some (.cells #[.string C0.F.m, .bool C0.F.b1, .bool C0.F.b2, .bool C0.F.b3, .bool C0.F.b4, .bool C0.F.b5, .bool C0.F.b6, .slice S.S.A7 C0.F.us.length S.S.c7, .slice S.S.A8 C0.F.ms.length S.S.c8, .bool C0.F.b9, .slice S.S.A10 C0.F.vs.length S.S.c10, .int .i64 C0.p, .int .i64 C0.mx, .bool C0.on, .int .i64 C0.kn, .slice S.A C0.tab.length S.c, .string C0.key, .int .i64 C0.df] 29 (0, 0))) := ⟨by rw [← hw_gc]; exact blk_new w _⟩
  have hgB : w.heap.size ≤ w.heap.size := ((Below.refl w.heap.size w)).size
  clear hw_gc
  obtain ⟨gc, hg_⟩ : ∃ g_, w.heap.size = g_ := ⟨_, rfl⟩
  have G_gc : Aside0 (w.heap.size ≤ gc) := ⟨Nat.le_trans hgB (Nat.le_of_eq hg_)⟩
  rw [hg_] at BX1 z_gc
  (try rw [hg_])
  clear hgB
  clear hg_
  have B3 := Aside0.mk (below_step (Below.refl w.heap.size w) ha_)
  clear ha_ 
  have z_gr : w_2.heap.size = w_1.heap.size + 1 := by rw [← hw_gr]; simp
  have ha_ : Below w_1.heap.size w_1 w_2 := by rw [← hw_gr]; exact below_alloc (Below.refl _ _) _
  have BX2 : Aside0 (w_2.heap[w_1.heap.size]? = some (.cells #[.int .i64 kn0, .slice A0 tab.length c0, .string key0, .int .i64 df0] 27 (0, 0))) := ⟨by rw [← hw_gr]; exact blk_new w_1 _⟩
  have hgB : w.heap.size ≤ w_1.heap.size := (B3.out).size
  have hl_gc : gc < w_1.heap.size := blk_lt BX1.out
  clear hw_gr
  obtain ⟨gr, hg_⟩ : ∃ g_, w_1.heap.size = g_ := ⟨_, rfl⟩
  have G_gr : Aside0 (w.heap.size ≤ gr) := ⟨Nat.le_trans hgB (Nat.le_of_eq hg_)⟩
  rw [hg_] at BX2 z_gr hl_gc
  have E_gc_gr := Aside0.mk hl_gc
  clear hl_gc
  (try rw [hg_])
  clear hgB
  have zz_ : gc + 1 = gr := by omega
  (try rw [zz_])
  clear zz_
  clear hg_
  have B4 := Aside0.mk (below_step B3.out ha_)
  have K4_gc := Aside0.mk (blk_below BX1.out ha_)
  clear ha_ B3 BX1
  clear z_gc z_gr
  go_wp2_with (refine wpList_load_row rfl 29 (.tmp 3) rfl gc rfl 29 #[.string C0.F.m, .bool C0.F.b1, .bool C0.F.b2, .bool C0.F.b3, .bool C0.F.b4, .bool C0.F.b5, .bool C0.F.b6, .slice S.S.A7 C0.F.us.length S.S.c7, .slice S.S.A8 C0.F.ms.length S.S.c8, .bool C0.F.b9, .slice S.S.A10 C0.F.vs.length S.S.c10, .int .i64 C0.p, .int .i64 C0.mx, .bool C0.on, .int .i64 C0.kn, .slice S.A C0.tab.length S.c, .string C0.key, .int .i64 C0.df] (0, 0) _ K4_gc.out Try.underlying29 rfl (by kernel_rfl) ?_)
  refine (NB _ (HV0.out.below B4.out)).mono ?_
  rintro e wb ⟨rfl, hb_⟩
  have B5 := Aside0.mk (below_step B4.out hb_)
  have K5_gc := Aside0.mk (blk_below K4_gc.out hb_)
  have K5_gr := Aside0.mk (blk_below BX2.out hb_)
  clear hb_ B4 K4_gc BX2
  go_upto_region 3 with (refine wpList_store_row rfl 29 (.tmp 3) (.tmp 15) rfl gc #[.string C.F.m, .bool C.F.b1, .bool C.F.b2, .bool C.F.b3, .bool C.F.b4, .bool C.F.b5, .bool C.F.b6, .slice S.S.A7 C.F.us.length S.S.c7, .slice S.S.A8 C.F.ms.length S.S.c8, .bool C.F.b9, .slice S.S.A10 C.F.vs.length S.S.c10, .int .i64 C.p, .int .i64 C.mx, .bool C.on, .int .i64 C.kn, .slice S.A C.tab.length S.c, .string C.key, .int .i64 C.df] rfl rfl 29 #[.string C0.F.m, .bool C0.F.b1, .bool C0.F.b2, .bool C0.F.b3, .bool C0.F.b4, .bool C0.F.b5, .bool C0.F.b6, .slice S.S.A7 C0.F.us.length S.S.c7, .slice S.S.A8 C0.F.ms.length S.S.c8, .bool C0.F.b9, .slice S.S.A10 C0.F.vs.length S.S.c10, .int .i64 C0.p, .int .i64 C0.mx, .bool C0.on, .int .i64 C0.kn, .slice S.A C0.tab.length S.c, .string C0.key, .int .i64 C0.df] K5_gc.out (by kernel_rfl) rfl (by kernel_rfl) ?_)
  obtain ⟨w_6, hw_⟩ : ∃ w_, wb.setRow gc #[.string C.F.m, .bool C.F.b1, .bool C.F.b2, .bool C.F.b3, .bool C.F.b4, .bool C.F.b5, .bool C.F.b6, .slice S.S.A7 C.F.us.length S.S.c7, .slice S.S.A8 C.F.ms.length S.S.c8, .bool C.F.b9, .slice S.S.A10 C.F.vs.length S.S.c10, .int .i64 C.p, .int .i64 C.mx, .bool C.on, .int .i64 C.kn, .slice S.A C.tab.length S.c, .string C.key, .int .i64 C.df] = w_ := ⟨_, rfl⟩
  have hu_ : Upd wb w_6 (fun k => k = gc) := by rw [← hw_]; exact Upd.setRow (Upd.refl wb (fun k => k = gc)) (.inl rfl) _
  have kf_ : w_6.heap[gc]? = some (.cells #[.string C.F.m, .bool C.F.b1, .bool C.F.b2, .bool C.F.b3, .bool C.F.b4, .bool C.F.b5, .bool C.F.b6, .slice S.S.A7 C.F.us.length S.S.c7, .slice S.S.A8 C.F.ms.length S.S.c8, .bool C.F.b9, .slice S.S.A10 C.F.vs.length S.S.c10, .int .i64 C.p, .int .i64 C.mx, .bool C.on, .int .i64 C.kn, .slice S.A C.tab.length S.c, .string C.key, .int .i64 C.df] 29 (0, 0)) := by rw [← hw_]; exact setRow_heap wb gc _ #[.string C.F.m, .bool C.F.b1, .bool C.F.b2, .bool C.F.b3, .bool C.F.b4, .bool C.F.b5, .bool C.F.b6, .slice S.S.A7 C.F.us.length S.S.c7, .slice S.S.A8 C.F.ms.length S.S.c8, .bool C.F.b9, .slice S.S.A10 C.F.vs.length S.S.c10, .int .i64 C.p, .int .i64 C.mx, .bool C.on, .int .i64 C.kn, .slice S.A C.tab.length S.c, .string C.key, .int .i64 C.df] 29 (0, 0) K5_gc.out
  rw [hw_]
  clear hw_
  have K7_gc := Aside0.mk (kf_)
  have B7 := Aside0.mk (B5.out.trans (hu_.toBelow (B := w.heap.size) (fun k hk => by rw [hk]; exact G_gc.out) (B5.out).size))
  have K7_gr := Aside0.mk (hu_.blk K5_gr.out (by have := E_gc_gr.out; omega))
  clear hu_ B5 K5_gr K5_gc
  clear kf_
  have zk := hkey
  refine start_ (n := 16) (S := fun w' => w'.cell? ⟨gr, 0, none⟩ = some (.int .i64 kn0) ∧ w'.cell? ⟨gr, 3, none⟩ = some (.int .i64 df0) ∧ w'.cell? ⟨gr, 2, none⟩ = some (.string key0) ∧ Below w_6.heap.size w_6 w') (ds := [15]) (bsq 16 0) (by kernel_rfl) rfl rfl ⟨(blk_cell K7_gr.out 0).trans rfl, (blk_cell K7_gr.out 3).trans rfl, (blk_cell K7_gr.out 2).trans rfl, below_drew1 (Below.refl _ _)⟩ (fun hHeld => ?_)
  refine pure_ (i := 0) (N := some 18) (v := ?_) (a' := ?_) (bsq 16 1) rfl rfl (by kernel_rfl) (fun _ _ _ h => h) (Or.inl ⟨by rfl, ?_⟩) ?_ ?_
  rotate_left
  · intro w'
    go_simp
    with_reducible rfl
  rotate_left
  · simp only [Act.put, List.setIfInBounds_toArray, List.set_cons_zero, List.set_cons_succ, i64_w, i32_w]
    rfl
  refine pure_ (i := 3) (N := some 21) (v := ?_) (a' := ?_) (bsq 16 9) rfl rfl (by kernel_rfl) (fun _ _ _ h => h) (Or.inl ⟨by rfl, ?_⟩) ?_ ?_
  rotate_left
  · intro w'
    go_simp
    with_reducible rfl
  rotate_left
  · simp only [Act.put, List.setIfInBounds_toArray, List.set_cons_zero, List.set_cons_succ, i64_w, i32_w]
    rfl
  refine pure_ (i := 6) (N := some 24) (v := ?_) (a' := ?_) (bsq 16 73) rfl rfl (by kernel_rfl) (fun _ _ _ h => h) (Or.inl ⟨by rfl, ?_⟩) ?_ ?_
  rotate_left
  · intro w'
    go_simp
    with_reducible rfl
  rotate_left
  · simp only [Act.put, List.setIfInBounds_toArray, List.set_cons_zero, List.set_cons_succ, i64_w, i32_w]
    rfl
  refine pure_ (i := 8) (N := some 26) (v := ?_) (a' := ?_) (bsq 16 329) rfl rfl (by kernel_rfl) (fun _ _ _ h => h) (Or.inl ⟨by rfl, ?_⟩) ?_ ?_
  rotate_left
  · intro w'
    go_simp
    with_reducible rfl
  rotate_left
  · simp only [Act.put, List.setIfInBounds_toArray, List.set_cons_zero, List.set_cons_succ, i64_w, i32_w]
    rfl
  refine take_ (i := 1) (N := some 19) (v := ?_) (a' := ?_) (bsq 16 331) rfl rfl (by kernel_rfl) (fun _ _ _ h => h) (Or.inl ⟨by rfl, ?_⟩) hHeld ?_ ?_
  rotate_left
  · rintro w' ⟨s0, s1, s2, s3⟩
    go_simp
    with_reducible rfl
  rotate_left
  · simp only [Act.put, List.setIfInBounds_toArray, List.set_cons_zero, List.set_cons_succ, i64_w, i32_w]
    rfl
  refine pure_ (i := 2) (N := some 20) (v := ?_) (a' := ?_) (bsq 16 335) rfl rfl (by kernel_rfl) (fun _ _ _ h => h) (Or.inl ⟨by rfl, ?_⟩) ?_ ?_
  rotate_left
  · intro w'
    go_simp
    with_reducible rfl
  rotate_left
  · simp only [Act.put, List.setIfInBounds_toArray, List.set_cons_zero, List.set_cons_succ, i64_w, i32_w]
    rfl
  refine take_ (i := 4) (N := some 22) (v := ?_) (a' := ?_) (bsq 16 351) rfl rfl (by kernel_rfl) (fun _ _ _ h => h) (Or.inl ⟨by rfl, ?_⟩) hHeld ?_ ?_
  rotate_left
  · rintro w' ⟨s0, s1, s2, s3⟩
    go_simp
    with_reducible rfl
  rotate_left
  · simp only [Act.put, List.setIfInBounds_toArray, List.set_cons_zero, List.set_cons_succ, i64_w, i32_w]
    rfl
  refine pure_ (i := 5) (N := some 23) (v := ?_) (a' := ?_) (bsq 16 383) rfl rfl (by kernel_rfl) (fun _ _ _ h => h) (Or.inl ⟨by rfl, ?_⟩) ?_ ?_
  rotate_left
  · intro w'
    go_simp
    with_reducible rfl
  rotate_left
  · simp only [Act.put, List.setIfInBounds_toArray, List.set_cons_zero, List.set_cons_succ, i64_w, i32_w]
    rfl
  refine take_ (i := 7) (N := some 25) (v := ?_) (a' := ?_) (bsq 16 511) rfl rfl (by kernel_rfl) (fun _ _ _ h => h) (Or.inl ⟨by rfl, ?_⟩) hHeld ?_ ?_
  rotate_left
  · rintro w' ⟨s0, s1, s2, s3⟩
    go_simp
    with_reducible rfl
  rotate_left
  · simp only [Act.put, List.setIfInBounds_toArray, List.set_cons_zero, List.set_cons_succ, i64_w, i32_w]
    rfl
  refine take_ (i := 9) (N := some 27) (v := ?_) (a' := ?_) (bsq 16 1023) rfl rfl (by kernel_rfl) (fun _ _ _ h => h) (Or.inl ⟨by rfl, ?_⟩) hHeld ?_ ?_
  rotate_left
  · rintro w' ⟨s0, s1, s2, s3⟩
    go_simp
    with_reducible rfl
  rotate_left
  · simp only [Act.put, List.setIfInBounds_toArray, List.set_cons_zero, List.set_cons_succ, i64_w, i32_w]
    rfl
  refine pure_ (i := 10) (N := some 28) (v := ?_) (a' := ?_) (bsq 16 2047) rfl rfl (by kernel_rfl) (fun _ _ _ h => h) (Or.inl ⟨by rfl, ?_⟩) ?_ ?_
  rotate_left
  · intro w'
    go_simp
    with_reducible rfl
  rotate_left
  · simp only [Act.put, List.setIfInBounds_toArray, List.set_cons_zero, List.set_cons_succ, i64_w, i32_w]
    rfl
  refine pure_ (i := 11) (N := some 29) (v := ?_) (a' := ?_) (bsq 16 4095) rfl rfl (by kernel_rfl) (fun _ _ _ h => h) (Or.inl ⟨by rfl, ?_⟩) ?_ ?_
  rotate_left
  · intro w'
    go_simp
    with_reducible rfl
  rotate_left
  · simp only [Act.put, List.setIfInBounds_toArray, List.set_cons_zero, List.set_cons_succ, i64_w, i32_w]
    rfl
  refine pure_ (i := 12) (N := some 30) (v := ?_) (a' := ?_) (bsq 16 8191) rfl rfl (by kernel_rfl) (fun _ _ _ h => h) (Or.inl ⟨by rfl, ?_⟩) ?_ ?_
  rotate_left
  · intro w'
    go_simp
    with_reducible rfl
  rotate_left
  · simp only [Act.put, List.setIfInBounds_toArray, List.set_cons_zero, List.set_cons_succ, i64_w, i32_w]
    rfl
  refine pure_ (i := 13) (N := some 31) (v := ?_) (a' := ?_) (bsq 16 16383) rfl rfl (by kernel_rfl) (fun _ _ _ h => h) (Or.inl ⟨by rfl, ?_⟩) ?_ ?_
  rotate_left
  · intro w'
    go_simp
    with_reducible rfl
  rotate_left
  · simp only [Act.put, List.setIfInBounds_toArray, List.set_cons_zero, List.set_cons_succ, i64_w, i32_w]
    rfl
  refine one_ (i := 14) (N := some 8) (bsq 16 32767) rfl rfl (by kernel_rfl) (by decide) (fun K hK => ?_)
  refine value_ (w1 := ?_) (v := ?_) (by rfl) rfl ?_ ?_
  rotate_left 2
  · go_simp
    constructor
    · rfl
    · rfl
  have KA := Aside0.mk (blk_new (w_6.drew) (.cells #[.int .i64 0, .slice none 0 0, .string ⟨#[]⟩, .int .i64 0] 27))
  have GA : Aside0 (w_6.heap.size ≤ w_6.drew.heap.size) := ⟨(hHeld.2.2.2).size⟩
  have BA := Aside0.mk (below_step (hHeld.2.2.2) (below_alloc (Below.refl _ _) (.cells #[.int .i64 0, .slice none 0 0, .string ⟨#[]⟩, .int .i64 0] 27)))
  refine hK.out _ _ ⟨pw_cell_below (below_alloc (Below.refl _ _) (.cells #[.int .i64 0, .slice none 0 0, .string ⟨#[]⟩, .int .i64 0] 27)) hHeld.1, pw_cell_below (below_alloc (Below.refl _ _) (.cells #[.int .i64 0, .slice none 0 0, .string ⟨#[]⟩, .int .i64 0] 27)) hHeld.2.1, pw_cell_below (below_alloc (Below.refl _ _) (.cells #[.int .i64 0, .slice none 0 0, .string ⟨#[]⟩, .int .i64 0] 27)) hHeld.2.2.1, below_step hHeld.2.2.2 (below_alloc (Below.refl _ _) (.cells #[.int .i64 0, .slice none 0 0, .string ⟨#[]⟩, .int .i64 0] 27))⟩ (fun hHeld => ?_)
  clear hK K
  refine norm_ (a' := ?_) ?_ ?_
  rotate_left
  · show Act.put _ (some 8) _ = _
    simp only [Act.put, List.setIfInBounds_toArray, List.set_cons_zero, List.set_cons_succ, i64_w, i32_w]
    rfl
  refine last_ (i := 15) (N := none) (bsq 16 65535) rfl rfl (by kernel_rfl) (by decide) (fun K hK => ?_)
  refine skip_ (w1 := ?_) (by rfl) rfl ?_ ?_
  rotate_left
  · refine exec_store_part 27 (.tmp 8) (.tmp 31) ?_ w_6.heap.size 0 #[.int .i64 (kn : Int), .slice none 0 0, .string key, .int .i64 (df : Int)] ?_ ?_ 27 _ #[.int .i64 (kn : Int), .slice none 0 0, .string key, .int .i64 (df : Int)] KA.out (by kernel_rfl) (Nat.le_of_ble_eq_true rfl) (by kernel_rfl) rfl
    · rfl
    · rfl
    · rfl
  refine hK.out _ _ ?_
  clear hK K
  refine done_ (by kernel_rfl) ?_
  clear zk hkn' hdf' z1 z2 z4 z5 z6 hkey
  have hb_ := BA.out
  have hblk_ := KA.out
  have hge_ := GA.out
  clear BA KA GA
  obtain ⟨wx, hw_⟩ : ∃ x, w_6.drew.alloc (.cells #[.int .i64 0, .slice none 0 0, .string ⟨#[]⟩, .int .i64 0] 27) = x := ⟨_, rfl⟩
  rw [hw_] at hb_ hblk_ ⊢
  obtain ⟨gx, hg_⟩ : ∃ x, w_6.heap.size = x := ⟨_, rfl⟩
  have hq_ : w_6.drew.heap.size = gx := hg_
  rw [hq_] at hblk_ hge_
  rw [hg_]
  clear hw_ hg_ hq_
  have E_gc_gx := Aside0.mk (Nat.lt_of_lt_of_le (blk_lt K7_gc.out) hge_)
  have E_gr_gx := Aside0.mk (Nat.lt_of_lt_of_le (blk_lt K7_gr.out) hge_)
  have G_gx := Aside0.mk (Nat.le_trans (B7.out).size hge_)
  have BX_gx := Aside0.mk hblk_
  have B8 := Aside0.mk (below_step B7.out hb_)
  have K8_gc := Aside0.mk (blk_below K7_gc.out hb_)
  have K8_gr := Aside0.mk (blk_below K7_gr.out hb_)
  clear hb_ B7 K7_gc K7_gr
  clear hblk_ hge_
  obtain ⟨w_9, hw_⟩ : ∃ w_, wx.setRow gx #[.int .i64 (kn : Int), .slice none 0 0, .string key, .int .i64 (df : Int)] = w_ := ⟨_, rfl⟩
  have hu_ : Upd wx w_9 (fun k => k = gx) := by rw [← hw_]; exact Upd.setRow (Upd.refl wx (fun k => k = gx)) (.inl rfl) _
  have kf_ : w_9.heap[gx]? = some (.cells #[.int .i64 (kn : Int), .slice none 0 0, .string key, .int .i64 (df : Int)] 27 (0, 0)) := by rw [← hw_]; exact setRow_heap wx gx _ #[.int .i64 (kn : Int), .slice none 0 0, .string key, .int .i64 (df : Int)] 27 (0, 0) BX_gx.out
  rw [hw_]
  clear hw_
  have K10_gx := Aside0.mk (kf_)
  have B10 := Aside0.mk (B8.out.trans (hu_.toBelow (B := w.heap.size) (fun k hk => by rw [hk]; exact G_gx.out) (B8.out).size))
  have K10_gc := Aside0.mk (hu_.blk K8_gc.out (by have := E_gc_gx.out; omega))
  have K10_gr := Aside0.mk (hu_.blk K8_gr.out (by have := E_gr_gx.out; omega))
  clear hu_ B8 K8_gc K8_gr BX_gx
  clear kf_
  have pc12 : w_9.cell? ⟨gc, 12, none⟩ = some (.int .i64 C.mx) := (blk_cell K10_gc.out 12).trans rfl
  have qc3 : w_9.cell? ⟨gx, 3, none⟩ = some (.int .i64 (df : Int)) := (blk_cell K10_gx.out 3).trans rfl
  go_upto_region 4 with fail
  go_cut [9] (fun v W_ => v = .bool F0 ∧ W_ = w_9)
  case first =>
    have hF := HF0.out
    cases d1 : decide ((p : Int) ≥ 1)
    · rw [d1] at hF
      go_wp2_with fail
      go_meet
      case rel => exact ⟨by rw [← hF]; rfl, rfl⟩
    · cases d2 : decide ((p : Int) ≤ C.mx)
      · rw [d1, d2] at hF
        go_wp2_with fail
        go_meet
        case rel => exact ⟨by rw [← hF]; rfl, rfl⟩
      · rw [d1, d2] at hF
        go_wp2_with fail
        go_meet
        case rel => exact ⟨by rw [← hF]; rfl, rfl⟩
  case rest =>
    obtain ⟨rfl, hw_⟩ := hcut
    rw [hw_]
    clear hw_ pc12 qc3
    obtain ⟨Nn, hNn⟩ : ∃ n, tn.length = n := ⟨_, rfl⟩
    have HNN := Aside0.mk hNn
    have hN2 : Nn = min tab.length 130 := by rw [← hNn]; exact LTN.out
    have HN2 := Aside0.mk hN2
    clear hNn hN2
    go_upto_block 0 with fail
    go_cut [9, 10] (fun v9 v10 w' => ∃ (Ax : Option Addr) (cx : Nat), v10 = .int .i64 (Nn : Int) ∧ v9 = .bool (fitI F0 C.mx tn) ∧ Aside0 (w'.heap[gc]? = some (.cells #[.string C.F.m, .bool C.F.b1, .bool C.F.b2, .bool C.F.b3, .bool C.F.b4, .bool C.F.b5, .bool C.F.b6, .slice S.S.A7 C.F.us.length S.S.c7, .slice S.S.A8 C.F.ms.length S.S.c8, .bool C.F.b9, .slice S.S.A10 C.F.vs.length S.S.c10, .int .i64 C.p, .int .i64 C.mx, .bool C.on, .int .i64 C.kn, .slice S.A C.tab.length S.c, .string C.key, .int .i64 C.df] 29 (0, 0))) ∧ Aside0 (w'.heap[gr]? = some (.cells #[.int .i64 kn0, .slice A0 tab.length c0, .string key0, .int .i64 df0] 27 (0, 0))) ∧ Aside0 (w'.heap[gx]? = some (.cells #[.int .i64 (kn : Int), .slice Ax Nn cx, .string key, .int .i64 (df : Int)] 27 (0, 0))) ∧ Aside0 (OR w.heap.size w' 3 Ax Nn cx (encs (Value.int .i64) (intsOf tn))) ∧ Aside0 (Below w.heap.size w w'))
    case rest =>
      obtain ⟨Ax, cx, rfl, rfl, LC, LR, LX, LO, LB⟩ := hcut
      have hNn := HNN.out
      clear HN2
      subst hNn
      obtain ⟨fN, hfN⟩ : ∃ f, fitI F0 C.mx tn = f := ⟨_, rfl⟩
      have HFN : Aside0 (fitS C (intsOf tn) df p = fN) := ⟨by unfold fitS; rw [HF0.out]; exact hfN⟩
      rw [hfN]
      clear hfN
      obtain ⟨⟨D, na⟩, hA⟩ : ∃ x, appS C (ruleB kn tn key df p) = x := ⟨_, rfl⟩
      have PA := Aside0.mk hA
      have l130 : tn.length ≤ 130 := by have := LTN.out; omega
      have L130 := Aside0.mk l130
      have NRL : ∀ w', ReadsOf (Value.int .i64) 0 w' Ax tn.length (intsOf tn) → tn.length ≤ cx → Calls Try.prog 23 #[.agg #[.int .i64 (kn : Int), .slice Ax tn.length cx, .string key, .int .i64 (df : Int)], .int .i64 (p : Int)] w' fun e w'' => e = .returned (.string (ruleB kn tn key df p)) ∧ Below w'.heap.size w' w'' := fun w' h1 h2 =>
        rules_cmd kn Ax cx tn key df p w' (by have := LL.out; omega) (by have := LL.out; omega) (by have := LL.out; omega) (fun q hq => by have := BTN.out q hq; omega) (by omega) (by have := LL.out; omega) h1 h2
      have b64 : ∀ q ∈ tn, q < 65536 := fun q hq => by have := BTN.out q hq; omega
      have NOT : (fitS C (intsOf tn) df p = false ∨ rssS kn (intsOf tn) key df ≠ 0 ∨ chkF C.F ≠ 0) → appS C (ruleB kn tn key df p) = (C, 1) := fun h => rules_not C kn tn key df p (by have := LL.out; omega) (by have := LL.out; omega) (by have := LL.out; omega) b64 (by have := LL.out; omega) (by omega) h
      have YES : fitS C (intsOf tn) df p = true → rssS kn (intsOf tn) key df = 0 → chkF C.F = 0 → appS C (ruleB kn tn key df p) = (setR C kn tn key df p, 0) := fun h1 h2 h3 => rules_yes C kn tn key df p (by have := LL.out; omega) (by have := LL.out; omega) (by have := LL.out; omega) b64 (by have := LL.out; omega) h1 h2 h3
      clear hA l130 b64
      go_upto_region 10 with fail
      refine start_ (n := 11) (S := fun w' => w'.heap[gc]? = some (.cells #[.string C.F.m, .bool C.F.b1, .bool C.F.b2, .bool C.F.b3, .bool C.F.b4, .bool C.F.b5, .bool C.F.b6, .slice S.S.A7 C.F.us.length S.S.c7, .slice S.S.A8 C.F.ms.length S.S.c8, .bool C.F.b9, .slice S.S.A10 C.F.vs.length S.S.c10, .int .i64 C.p, .int .i64 C.mx, .bool C.on, .int .i64 C.kn, .slice S.A C.tab.length S.c, .string C.key, .int .i64 C.df] 29 (0, 0)) ∧ w'.heap[gx]? = some (.cells #[.int .i64 (kn : Int), .slice Ax tn.length cx, .string key, .int .i64 (df : Int)] 27 (0, 0)) ∧ Below wc.heap.size wc w') (ds := [9]) (bsq 11 0) (by kernel_rfl) rfl rfl ⟨(blk_below LC.out (below_drew1 (Below.refl _ _))), (blk_below LX.out (below_drew1 (Below.refl _ _))), below_drew1 (Below.refl _ _)⟩ (fun hHeld => ?_)
      refine pure_ (i := 2) (N := some 83) (v := ?_) (a' := ?_) (bsq 11 4) rfl rfl (by kernel_rfl) (fun _ _ _ h => h) (Or.inl ⟨by rfl, ?_⟩) ?_ ?_
      rotate_left
      · intro w'
        go_simp
        with_reducible rfl
      rotate_left
      · simp only [Act.put, List.setIfInBounds_toArray, List.set_cons_zero, List.set_cons_succ, i64_w, i32_w]
        rfl
      refine take_ (i := 0) (N := some 81) (v := ?_) (a' := ?_) (bsq 11 5) rfl rfl (by kernel_rfl) (fun _ _ _ h => h) (Or.inl ⟨by rfl, ?_⟩) hHeld ?_ ?_
      rotate_left
      · rintro w' ⟨s0, s1, s2⟩
        refine exec_load_part 29 (.tmp 3) ?_ gc 0 ?_ 29 #[.string C.F.m, .bool C.F.b1, .bool C.F.b2, .bool C.F.b3, .bool C.F.b4, .bool C.F.b5, .bool C.F.b6, .slice S.S.A7 C.F.us.length S.S.c7, .slice S.S.A8 C.F.ms.length S.S.c8, .bool C.F.b9, .slice S.S.A10 C.F.vs.length S.S.c10, .int .i64 C.p, .int .i64 C.mx, .bool C.on, .int .i64 C.kn, .slice S.A C.tab.length S.c, .string C.key, .int .i64 C.df] (cellsC C S) (0, 0) _ s0 Try.underlying29 rfl (by kernel_rfl) rfl
        · rfl
        · rfl
      rotate_left
      · simp only [Act.put, List.setIfInBounds_toArray, List.set_cons_zero, List.set_cons_succ, i64_w, i32_w]
        rfl
      refine take_ (i := 1) (N := some 82) (v := ?_) (a' := ?_) (bsq 11 7) rfl rfl (by kernel_rfl) (fun _ _ _ h => h) (Or.inl ⟨by rfl, ?_⟩) hHeld ?_ ?_
      rotate_left
      · rintro w' ⟨s0, s1, s2⟩
        refine exec_load_part 27 (.tmp 8) ?_ gx 0 ?_ 27 #[.int .i64 (kn : Int), .slice Ax tn.length cx, .string key, .int .i64 (df : Int)] #[.int .i64 (kn : Int), .slice Ax tn.length cx, .string key, .int .i64 (df : Int)] (0, 0) _ s1 Try.underlying27 rfl (by kernel_rfl) rfl
        · rfl
        · rfl
      rotate_left
      · simp only [Act.put, List.setIfInBounds_toArray, List.set_cons_zero, List.set_cons_succ, i64_w, i32_w]
        rfl
      refine join_ (σ := SlC × Nat) 2 (bsq 11 511) (fun sg => [(84, .string (ruleB kn tn key df p)), (85, .tuple #[.agg (cellsC D sg.1), .int .i64 na]), (80, .tuple #[.agg (cellsC D sg.1), .int .i64 na]), (86, .agg (cellsC D sg.1)), (87, .int .i64 na), (11, .pointer (some ⟨sg.2, 0, none⟩))]) (fun sg w' => w'.heap[gc]? = some (.cells #[.string C.F.m, .bool C.F.b1, .bool C.F.b2, .bool C.F.b3, .bool C.F.b4, .bool C.F.b5, .bool C.F.b6, .slice S.S.A7 C.F.us.length S.S.c7, .slice S.S.A8 C.F.ms.length S.S.c8, .bool C.F.b9, .slice S.S.A10 C.F.vs.length S.S.c10, .int .i64 C.p, .int .i64 C.mx, .bool C.on, .int .i64 C.kn, .slice S.A C.tab.length S.c, .string C.key, .int .i64 C.df] 29 (0, 0)) ∧ w'.heap[gx]? = some (.cells #[.int .i64 (kn : Int), .slice Ax tn.length cx, .string key, .int .i64 (df : Int)] 27 (0, 0)) ∧ Below wc.heap.size wc w' ∧ OC wc.heap.size w' D sg.1 ∧ w'.heap[sg.2]? = some (.cells #[.string ⟨#[]⟩, .bool false, .bool false, .bool false, .bool false, .bool false, .bool false, .slice none 0 0, .slice none 0 0, .bool false, .slice none 0 0, .int .i64 0, .int .i64 0, .bool false, .int .i64 0, .slice none 0 0, .string ⟨#[]⟩, .int .i64 0] 29 (0, 0)) ∧ wc.heap.size ≤ sg.2 ∧ True) ?_ ?_
      rotate_left
      · intro hCont
        refine two_ (i := 3) (j := 8) (Ni := some 84) (Nj := some 11) (bsq 11 15) (bsq 11 263) rfl rfl rfl rfl (by kernel_rfl) (by decide) (by decide) (fun K hK => ?_) (fun K hK => ?_)
        · skip
          refine goes_ Try.func23 (by kernel_rfl) rfl #[.agg #[.int .i64 (kn : Int), .slice Ax tn.length cx, .string key, .int .i64 (df : Int)], .int .i64 (p : Int)] (by rfl) rfl rfl (by simp only [List.map_toArray, List.map_cons, List.map_nil]; rfl) ?_
          with_reducible refine (NRL _ (own_reads_of' (LO.out.below (hHeld.2.2)).h) (own_cap LO.out.h)).mono ?_
          rintro e wcc ⟨rfl, hc⟩
          refine ⟨_, rfl, ?_⟩
          have HC := Aside0.mk hc
          clear hc
          refine hK.out _ _ ⟨(blk_below hHeld.1 HC.out), (blk_below hHeld.2.1 HC.out), below_step hHeld.2.2 HC.out⟩ (fun hHeld => ?_)
          clear hK K
          refine norm_ (a' := ?_) ?_ ?_
          rotate_left
          · show Act.put _ (some 84) _ = _
            simp only [Act.put, List.setIfInBounds_toArray, List.set_cons_zero, List.set_cons_succ, i64_w, i32_w]
            rfl
          refine two_ (i := 4) (j := 8) (Ni := some 85) (Nj := some 11) (bsq 11 31) (bsq 11 271) rfl rfl rfl rfl (by kernel_rfl) (by decide) (by decide) (fun K hK => ?_) (fun K hK => ?_)
          · skip
            refine goes_ Try.func11 (by kernel_rfl) rfl #[.agg (cellsC C S), .string (ruleB kn tn key df p)] (by rfl) rfl rfl (by simp only [List.map_toArray, List.map_cons, List.map_nil]; rfl) ?_
            with_reducible refine (apply2_c C D S (ruleB kn tn key df p) na PA.out _ (HV.out.below (below_step LB.out (hHeld.2.2))) HS.out).mono ?_
            rintro e wrr ⟨S1, rfl, ho, hr⟩
            refine ⟨_, rfl, ?_⟩
            have HR := Aside0.mk hr
            have HO := Aside0.mk (ho.weaken (hHeld.2.2).size)
            clear hr ho
            refine hK.out _ _ ⟨(blk_below hHeld.1 HR.out), (blk_below hHeld.2.1 HR.out), below_step hHeld.2.2 HR.out⟩ (fun hHeld => ?_)
            clear hK K
            refine norm_ (a' := ?_) ?_ ?_
            rotate_left
            · show Act.put _ (some 85) _ = _
              simp only [Act.put, List.setIfInBounds_toArray, List.set_cons_zero, List.set_cons_succ, i64_w, i32_w]
              rfl
            refine pure_ (i := 5) (N := some 80) (v := ?_) (a' := ?_) (bsq 11 63) rfl rfl (by kernel_rfl) (fun _ _ _ h => h) (Or.inl ⟨by rfl, ?_⟩) ?_ ?_
            rotate_left
            · intro w'
              go_simp
              with_reducible rfl
            rotate_left
            · simp only [Act.put, List.setIfInBounds_toArray, List.set_cons_zero, List.set_cons_succ, i64_w, i32_w]
              rfl
            refine pure_ (i := 6) (N := some 86) (v := ?_) (a' := ?_) (bsq 11 127) rfl rfl (by kernel_rfl) (fun _ _ _ h => h) (Or.inl ⟨by rfl, ?_⟩) ?_ ?_
            rotate_left
            · intro w'
              go_simp
              with_reducible rfl
            rotate_left
            · simp only [Act.put, List.setIfInBounds_toArray, List.set_cons_zero, List.set_cons_succ, i64_w, i32_w]
              rfl
            refine pure_ (i := 7) (N := some 87) (v := ?_) (a' := ?_) (bsq 11 255) rfl rfl (by kernel_rfl) (fun _ _ _ h => h) (Or.inl ⟨by rfl, ?_⟩) ?_ ?_
            rotate_left
            · intro w'
              go_simp
              with_reducible rfl
            rotate_left
            · simp only [Act.put, List.setIfInBounds_toArray, List.set_cons_zero, List.set_cons_succ, i64_w, i32_w]
              rfl
            refine one_ (i := 8) (N := some 11) (bsq 11 511) rfl rfl (by kernel_rfl) (by decide) (fun K hK => ?_)
            refine value_ (w1 := ?_) (v := ?_) (by rfl) rfl ?_ ?_
            rotate_left 2
            · go_simp
              constructor
              · rfl
              · rfl
            have KA := Aside0.mk (blk_new (wrr) (.cells #[.string ⟨#[]⟩, .bool false, .bool false, .bool false, .bool false, .bool false, .bool false, .slice none 0 0, .slice none 0 0, .bool false, .slice none 0 0, .int .i64 0, .int .i64 0, .bool false, .int .i64 0, .slice none 0 0, .string ⟨#[]⟩, .int .i64 0] 29))
            have hga : wc.heap.size ≤ (wrr).heap.size := (hHeld.2.2).size
            have GA := Aside0.mk hga
            clear hga
            refine hK.out _ _ ⟨(blk_below hHeld.1 (below_alloc (Below.refl _ _) (.cells #[.string ⟨#[]⟩, .bool false, .bool false, .bool false, .bool false, .bool false, .bool false, .slice none 0 0, .slice none 0 0, .bool false, .slice none 0 0, .int .i64 0, .int .i64 0, .bool false, .int .i64 0, .slice none 0 0, .string ⟨#[]⟩, .int .i64 0] 29))), (blk_below hHeld.2.1 (below_alloc (Below.refl _ _) (.cells #[.string ⟨#[]⟩, .bool false, .bool false, .bool false, .bool false, .bool false, .bool false, .slice none 0 0, .slice none 0 0, .bool false, .slice none 0 0, .int .i64 0, .int .i64 0, .bool false, .int .i64 0, .slice none 0 0, .string ⟨#[]⟩, .int .i64 0] 29))), below_step hHeld.2.2 (below_alloc (Below.refl _ _) (.cells #[.string ⟨#[]⟩, .bool false, .bool false, .bool false, .bool false, .bool false, .bool false, .slice none 0 0, .slice none 0 0, .bool false, .slice none 0 0, .int .i64 0, .int .i64 0, .bool false, .int .i64 0, .slice none 0 0, .string ⟨#[]⟩, .int .i64 0] 29))⟩ (fun hHeld => ?_)
            clear hK K
            refine norm_ (a' := ?_) ?_ ?_
            rotate_left
            · show Act.put _ (some 11) _ = _
              simp only [Act.put, List.setIfInBounds_toArray, List.set_cons_zero, List.set_cons_succ, i64_w, i32_w]
              rfl
            exact norm_ (by simp only [putAll, Act.put, List.setIfInBounds_toArray, List.set_cons_zero, List.set_cons_succ]) (hCont (S1, (wrr).heap.size) _ ⟨hHeld.1, hHeld.2.1, hHeld.2.2, (HO.out.below (below_alloc (Below.refl _ _) (.cells #[.string ⟨#[]⟩, .bool false, .bool false, .bool false, .bool false, .bool false, .bool false, .slice none 0 0, .slice none 0 0, .bool false, .slice none 0 0, .int .i64 0, .int .i64 0, .bool false, .int .i64 0, .slice none 0 0, .string ⟨#[]⟩, .int .i64 0] 29))), KA.out, GA.out, trivial⟩)
          · skip
            refine value_ (w1 := ?_) (v := ?_) (by rfl) rfl ?_ ?_
            rotate_left 2
            · go_simp
              constructor
              · rfl
              · rfl
            have KA := Aside0.mk (blk_new (wcc) (.cells #[.string ⟨#[]⟩, .bool false, .bool false, .bool false, .bool false, .bool false, .bool false, .slice none 0 0, .slice none 0 0, .bool false, .slice none 0 0, .int .i64 0, .int .i64 0, .bool false, .int .i64 0, .slice none 0 0, .string ⟨#[]⟩, .int .i64 0] 29))
            have hga : wc.heap.size ≤ (wcc).heap.size := (hHeld.2.2).size
            have GA := Aside0.mk hga
            clear hga
            refine hK.out _ _ ⟨(blk_below hHeld.1 (below_alloc (Below.refl _ _) (.cells #[.string ⟨#[]⟩, .bool false, .bool false, .bool false, .bool false, .bool false, .bool false, .slice none 0 0, .slice none 0 0, .bool false, .slice none 0 0, .int .i64 0, .int .i64 0, .bool false, .int .i64 0, .slice none 0 0, .string ⟨#[]⟩, .int .i64 0] 29))), (blk_below hHeld.2.1 (below_alloc (Below.refl _ _) (.cells #[.string ⟨#[]⟩, .bool false, .bool false, .bool false, .bool false, .bool false, .bool false, .slice none 0 0, .slice none 0 0, .bool false, .slice none 0 0, .int .i64 0, .int .i64 0, .bool false, .int .i64 0, .slice none 0 0, .string ⟨#[]⟩, .int .i64 0] 29))), below_step hHeld.2.2 (below_alloc (Below.refl _ _) (.cells #[.string ⟨#[]⟩, .bool false, .bool false, .bool false, .bool false, .bool false, .bool false, .slice none 0 0, .slice none 0 0, .bool false, .slice none 0 0, .int .i64 0, .int .i64 0, .bool false, .int .i64 0, .slice none 0 0, .string ⟨#[]⟩, .int .i64 0] 29))⟩ (fun hHeld => ?_)
            clear hK K
            refine norm_ (a' := ?_) ?_ ?_
            rotate_left
            · show Act.put _ (some 11) _ = _
              simp only [Act.put, List.setIfInBounds_toArray, List.set_cons_zero, List.set_cons_succ, i64_w, i32_w]
              rfl
            refine one_ (i := 4) (N := some 85) (bsq 11 287) rfl rfl (by kernel_rfl) (by decide) (fun K hK => ?_)
            refine goes_ Try.func11 (by kernel_rfl) rfl #[.agg (cellsC C S), .string (ruleB kn tn key df p)] (by rfl) rfl rfl (by simp only [List.map_toArray, List.map_cons, List.map_nil]; rfl) ?_
            with_reducible refine (apply2_c C D S (ruleB kn tn key df p) na PA.out _ (HV.out.below (below_step LB.out (hHeld.2.2))) HS.out).mono ?_
            rintro e wrr ⟨S1, rfl, ho, hr⟩
            refine ⟨_, rfl, ?_⟩
            have HR := Aside0.mk hr
            have HO := Aside0.mk (ho.weaken (hHeld.2.2).size)
            clear hr ho
            have KB := Aside0.mk (blk_below KA.out HR.out)
            clear KA
            have KA := KB
            clear KB
            refine hK.out _ _ ⟨(blk_below hHeld.1 HR.out), (blk_below hHeld.2.1 HR.out), below_step hHeld.2.2 HR.out⟩ (fun hHeld => ?_)
            clear hK K
            refine norm_ (a' := ?_) ?_ ?_
            rotate_left
            · show Act.put _ (some 85) _ = _
              simp only [Act.put, List.setIfInBounds_toArray, List.set_cons_zero, List.set_cons_succ, i64_w, i32_w]
              rfl
            refine pure_ (i := 5) (N := some 80) (v := ?_) (a' := ?_) (bsq 11 319) rfl rfl (by kernel_rfl) (fun _ _ _ h => h) (Or.inl ⟨by rfl, ?_⟩) ?_ ?_
            rotate_left
            · intro w'
              go_simp
              with_reducible rfl
            rotate_left
            · simp only [Act.put, List.setIfInBounds_toArray, List.set_cons_zero, List.set_cons_succ, i64_w, i32_w]
              rfl
            refine pure_ (i := 6) (N := some 86) (v := ?_) (a' := ?_) (bsq 11 383) rfl rfl (by kernel_rfl) (fun _ _ _ h => h) (Or.inl ⟨by rfl, ?_⟩) ?_ ?_
            rotate_left
            · intro w'
              go_simp
              with_reducible rfl
            rotate_left
            · simp only [Act.put, List.setIfInBounds_toArray, List.set_cons_zero, List.set_cons_succ, i64_w, i32_w]
              rfl
            refine pure_ (i := 7) (N := some 87) (v := ?_) (a' := ?_) (bsq 11 511) rfl rfl (by kernel_rfl) (fun _ _ _ h => h) (Or.inl ⟨by rfl, ?_⟩) ?_ ?_
            rotate_left
            · intro w'
              go_simp
              with_reducible rfl
            rotate_left
            · simp only [Act.put, List.setIfInBounds_toArray, List.set_cons_zero, List.set_cons_succ, i64_w, i32_w]
              rfl
            exact norm_ (by simp only [putAll, Act.put, List.setIfInBounds_toArray, List.set_cons_zero, List.set_cons_succ]) (hCont (S1, (wcc).heap.size) _ ⟨hHeld.1, hHeld.2.1, hHeld.2.2, HO.out, KA.out, GA.out, trivial⟩)
        · skip
          refine value_ (w1 := ?_) (v := ?_) (by rfl) rfl ?_ ?_
          rotate_left 2
          · go_simp
            constructor
            · rfl
            · rfl
          have KA := Aside0.mk (blk_new (wc.drew) (.cells #[.string ⟨#[]⟩, .bool false, .bool false, .bool false, .bool false, .bool false, .bool false, .slice none 0 0, .slice none 0 0, .bool false, .slice none 0 0, .int .i64 0, .int .i64 0, .bool false, .int .i64 0, .slice none 0 0, .string ⟨#[]⟩, .int .i64 0] 29))
          have hga : wc.heap.size ≤ (wc.drew).heap.size := (hHeld.2.2).size
          have GA := Aside0.mk hga
          clear hga
          refine hK.out _ _ ⟨(blk_below hHeld.1 (below_alloc (Below.refl _ _) (.cells #[.string ⟨#[]⟩, .bool false, .bool false, .bool false, .bool false, .bool false, .bool false, .slice none 0 0, .slice none 0 0, .bool false, .slice none 0 0, .int .i64 0, .int .i64 0, .bool false, .int .i64 0, .slice none 0 0, .string ⟨#[]⟩, .int .i64 0] 29))), (blk_below hHeld.2.1 (below_alloc (Below.refl _ _) (.cells #[.string ⟨#[]⟩, .bool false, .bool false, .bool false, .bool false, .bool false, .bool false, .slice none 0 0, .slice none 0 0, .bool false, .slice none 0 0, .int .i64 0, .int .i64 0, .bool false, .int .i64 0, .slice none 0 0, .string ⟨#[]⟩, .int .i64 0] 29))), below_step hHeld.2.2 (below_alloc (Below.refl _ _) (.cells #[.string ⟨#[]⟩, .bool false, .bool false, .bool false, .bool false, .bool false, .bool false, .slice none 0 0, .slice none 0 0, .bool false, .slice none 0 0, .int .i64 0, .int .i64 0, .bool false, .int .i64 0, .slice none 0 0, .string ⟨#[]⟩, .int .i64 0] 29))⟩ (fun hHeld => ?_)
          clear hK K
          refine norm_ (a' := ?_) ?_ ?_
          rotate_left
          · show Act.put _ (some 11) _ = _
            simp only [Act.put, List.setIfInBounds_toArray, List.set_cons_zero, List.set_cons_succ, i64_w, i32_w]
            rfl
          refine one_ (i := 3) (N := some 84) (bsq 11 271) rfl rfl (by kernel_rfl) (by decide) (fun K hK => ?_)
          refine goes_ Try.func23 (by kernel_rfl) rfl #[.agg #[.int .i64 (kn : Int), .slice Ax tn.length cx, .string key, .int .i64 (df : Int)], .int .i64 (p : Int)] (by rfl) rfl rfl (by simp only [List.map_toArray, List.map_cons, List.map_nil]; rfl) ?_
          with_reducible refine (NRL _ (own_reads_of' (LO.out.below (hHeld.2.2)).h) (own_cap LO.out.h)).mono ?_
          rintro e wcc ⟨rfl, hc⟩
          refine ⟨_, rfl, ?_⟩
          have HC := Aside0.mk hc
          clear hc
          have KB := Aside0.mk (blk_below KA.out HC.out)
          clear KA
          have KA := KB
          clear KB
          refine hK.out _ _ ⟨(blk_below hHeld.1 HC.out), (blk_below hHeld.2.1 HC.out), below_step hHeld.2.2 HC.out⟩ (fun hHeld => ?_)
          clear hK K
          refine norm_ (a' := ?_) ?_ ?_
          rotate_left
          · show Act.put _ (some 84) _ = _
            simp only [Act.put, List.setIfInBounds_toArray, List.set_cons_zero, List.set_cons_succ, i64_w, i32_w]
            rfl
          refine one_ (i := 4) (N := some 85) (bsq 11 287) rfl rfl (by kernel_rfl) (by decide) (fun K hK => ?_)
          refine goes_ Try.func11 (by kernel_rfl) rfl #[.agg (cellsC C S), .string (ruleB kn tn key df p)] (by rfl) rfl rfl (by simp only [List.map_toArray, List.map_cons, List.map_nil]; rfl) ?_
          with_reducible refine (apply2_c C D S (ruleB kn tn key df p) na PA.out _ (HV.out.below (below_step LB.out (hHeld.2.2))) HS.out).mono ?_
          rintro e wrr ⟨S1, rfl, ho, hr⟩
          refine ⟨_, rfl, ?_⟩
          have HR := Aside0.mk hr
          have HO := Aside0.mk (ho.weaken (hHeld.2.2).size)
          clear hr ho
          have KB := Aside0.mk (blk_below KA.out HR.out)
          clear KA
          have KA := KB
          clear KB
          refine hK.out _ _ ⟨(blk_below hHeld.1 HR.out), (blk_below hHeld.2.1 HR.out), below_step hHeld.2.2 HR.out⟩ (fun hHeld => ?_)
          clear hK K
          refine norm_ (a' := ?_) ?_ ?_
          rotate_left
          · show Act.put _ (some 85) _ = _
            simp only [Act.put, List.setIfInBounds_toArray, List.set_cons_zero, List.set_cons_succ, i64_w, i32_w]
            rfl
          refine pure_ (i := 5) (N := some 80) (v := ?_) (a' := ?_) (bsq 11 319) rfl rfl (by kernel_rfl) (fun _ _ _ h => h) (Or.inl ⟨by rfl, ?_⟩) ?_ ?_
          rotate_left
          · intro w'
            go_simp
            with_reducible rfl
          rotate_left
          · simp only [Act.put, List.setIfInBounds_toArray, List.set_cons_zero, List.set_cons_succ, i64_w, i32_w]
            rfl
          refine pure_ (i := 6) (N := some 86) (v := ?_) (a' := ?_) (bsq 11 383) rfl rfl (by kernel_rfl) (fun _ _ _ h => h) (Or.inl ⟨by rfl, ?_⟩) ?_ ?_
          rotate_left
          · intro w'
            go_simp
            with_reducible rfl
          rotate_left
          · simp only [Act.put, List.setIfInBounds_toArray, List.set_cons_zero, List.set_cons_succ, i64_w, i32_w]
            rfl
          refine pure_ (i := 7) (N := some 87) (v := ?_) (a' := ?_) (bsq 11 511) rfl rfl (by kernel_rfl) (fun _ _ _ h => h) (Or.inl ⟨by rfl, ?_⟩) ?_ ?_
          rotate_left
          · intro w'
            go_simp
            with_reducible rfl
          rotate_left
          · simp only [Act.put, List.setIfInBounds_toArray, List.set_cons_zero, List.set_cons_succ, i64_w, i32_w]
            rfl
          exact norm_ (by simp only [putAll, Act.put, List.setIfInBounds_toArray, List.set_cons_zero, List.set_cons_succ]) (hCont (S1, (wc).heap.size) _ ⟨hHeld.1, hHeld.2.1, hHeld.2.2, HO.out, KA.out, GA.out, trivial⟩)
      rintro ⟨SD, gd⟩ wj ⟨h0, h1, h2, hOC, hBlk, hGe, _⟩
      have hHeld : wj.heap[gc]? = some (.cells #[.string C.F.m, .bool C.F.b1, .bool C.F.b2, .bool C.F.b3, .bool C.F.b4, .bool C.F.b5, .bool C.F.b6, .slice S.S.A7 C.F.us.length S.S.c7, .slice S.S.A8 C.F.ms.length S.S.c8, .bool C.F.b9, .slice S.S.A10 C.F.vs.length S.S.c10, .int .i64 C.p, .int .i64 C.mx, .bool C.on, .int .i64 C.kn, .slice S.A C.tab.length S.c, .string C.key, .int .i64 C.df] 29 (0, 0)) ∧ wj.heap[gx]? = some (.cells #[.int .i64 (kn : Int), .slice Ax tn.length cx, .string key, .int .i64 (df : Int)] 27 (0, 0)) ∧ Below wc.heap.size wc wj := ⟨h0, h1, h2⟩
      have HBL := Aside0.mk h2
      have HOC := Aside0.mk hOC
      have HBK := Aside0.mk hBlk
      have HGE := Aside0.mk hGe
      clear hOC hBlk hGe h0 h1 h2
      refine norm_ (a' := ?_) ?_ ?_
      rotate_left
      · simp only [putAll, Act.put, List.setIfInBounds_toArray, List.set_cons_zero, List.set_cons_succ]
        rfl
      refine last_ (i := 9) (N := none) (bsq 11 1023) rfl rfl (by kernel_rfl) (by decide) (fun K hK => ?_)
      refine skip_ (w1 := ?_) (by rfl) rfl ?_ ?_
      rotate_left
      · refine exec_store_part 29 (.tmp 11) (.tmp 86) ?_ gd 0 (cellsC D SD) ?_ ?_ 29 _ (cellsC D SD) HBK.out (by kernel_rfl) (Nat.le_of_ble_eq_true rfl) (by kernel_rfl) rfl
        · rfl
        · rfl
        · rfl
      refine hK.out _ _ ?_
      clear hK K
      refine pure_ (i := 10) (N := some 12) (v := ?_) (a' := ?_) (bsq 11 2047) rfl rfl (by kernel_rfl) (fun _ _ _ h => h) (Or.inl ⟨by rfl, ?_⟩) ?_ ?_
      rotate_left
      · intro w'
        go_simp
        with_reducible rfl
      rotate_left
      · simp only [Act.put, List.setIfInBounds_toArray, List.set_cons_zero, List.set_cons_succ, i64_w, i32_w]
        rfl
      refine done_ (by kernel_rfl) ?_
      have hb_ := HBL.out
      have hblk_ := HBK.out
      have hge_ := HGE.out
      have OV_SD : Aside0 (OC w.heap.size wj D SD) := ⟨HOC.out.weaken (LB.out).size⟩
      clear HBL HBK HGE HOC
      have E_gc_gd := Aside0.mk (Nat.lt_of_lt_of_le (blk_lt LC.out) hge_)
      have E_gr_gd := Aside0.mk (Nat.lt_of_lt_of_le (blk_lt LR.out) hge_)
      have E_gx_gd := Aside0.mk (Nat.lt_of_lt_of_le (blk_lt LX.out) hge_)
      have G_gd := Aside0.mk (Nat.le_trans (LB.out).size hge_)
      have BX_gd := Aside0.mk hblk_
      have B2 := Aside0.mk (below_step LB.out hb_)
      have K2_gc := Aside0.mk (blk_below LC.out hb_)
      have K2_gr := Aside0.mk (blk_below LR.out hb_)
      have K2_gx := Aside0.mk (blk_below LX.out hb_)
      have O2_X := Aside0.mk (LO.out.below hb_)
      clear hb_ LB LC LR LX LO
      clear hblk_ hge_
      obtain ⟨w_3, hw_⟩ : ∃ w_, wj.setRow gd #[.string D.F.m, .bool D.F.b1, .bool D.F.b2, .bool D.F.b3, .bool D.F.b4, .bool D.F.b5, .bool D.F.b6, .slice SD.S.A7 D.F.us.length SD.S.c7, .slice SD.S.A8 D.F.ms.length SD.S.c8, .bool D.F.b9, .slice SD.S.A10 D.F.vs.length SD.S.c10, .int .i64 D.p, .int .i64 D.mx, .bool D.on, .int .i64 D.kn, .slice SD.A D.tab.length SD.c, .string D.key, .int .i64 D.df] = w_ := ⟨_, rfl⟩
      have hu_ : Upd wj w_3 (fun k => k = gd) := by rw [← hw_]; exact Upd.setRow (Upd.refl wj (fun k => k = gd)) (.inl rfl) _
      have kf_ : w_3.heap[gd]? = some (.cells #[.string D.F.m, .bool D.F.b1, .bool D.F.b2, .bool D.F.b3, .bool D.F.b4, .bool D.F.b5, .bool D.F.b6, .slice SD.S.A7 D.F.us.length SD.S.c7, .slice SD.S.A8 D.F.ms.length SD.S.c8, .bool D.F.b9, .slice SD.S.A10 D.F.vs.length SD.S.c10, .int .i64 D.p, .int .i64 D.mx, .bool D.on, .int .i64 D.kn, .slice SD.A D.tab.length SD.c, .string D.key, .int .i64 D.df] 29 (0, 0)) := by rw [← hw_]; exact setRow_heap wj gd _ #[.string D.F.m, .bool D.F.b1, .bool D.F.b2, .bool D.F.b3, .bool D.F.b4, .bool D.F.b5, .bool D.F.b6, .slice SD.S.A7 D.F.us.length SD.S.c7, .slice SD.S.A8 D.F.ms.length SD.S.c8, .bool D.F.b9, .slice SD.S.A10 D.F.vs.length SD.S.c10, .int .i64 D.p, .int .i64 D.mx, .bool D.on, .int .i64 D.kn, .slice SD.A D.tab.length SD.c, .string D.key, .int .i64 D.df] 29 (0, 0) BX_gd.out
      rw [hw_]
      clear hw_
      have K4_gd := Aside0.mk (kf_)
      have B4 := Aside0.mk (B2.out.trans (hu_.toBelow (B := w.heap.size) (fun k hk => by rw [hk]; exact G_gd.out) (B2.out).size))
      have K4_gc := Aside0.mk (hu_.blk K2_gc.out (by have := E_gc_gd.out; omega))
      have K4_gr := Aside0.mk (hu_.blk K2_gr.out (by have := E_gr_gd.out; omega))
      have K4_gx := Aside0.mk (hu_.blk K2_gx.out (by have := E_gx_gd.out; omega))
      have O4_X := Aside0.mk (O2_X.out.boxT BX_gd.out (by decide) (by decide) hu_)
      have O4_SD := Aside0.mk (OV_SD.out.boxT BX_gd.out (by decide) (by decide) hu_)
      clear hu_ B2 K2_gc K2_gr K2_gx O2_X OV_SD BX_gd
      clear kf_
      clear NRL
      go_upto_region 11 with fail
      cases fN
      · obtain ⟨hD, hn⟩ := Prod.mk.inj ((NOT (.inl HFN.out)).symm.trans PA.out)
        clear NOT YES
        subst hD
        subst hn
        go_wp2_with (first | (refine wpList_load_part_g (by rfl) 29 (.tmp 11) rfl gd 0 rfl 29 #[.string C.F.m, .bool C.F.b1, .bool C.F.b2, .bool C.F.b3, .bool C.F.b4, .bool C.F.b5, .bool C.F.b6, .slice SD.S.A7 C.F.us.length SD.S.c7, .slice SD.S.A8 C.F.ms.length SD.S.c8, .bool C.F.b9, .slice SD.S.A10 C.F.vs.length SD.S.c10, .int .i64 C.p, .int .i64 C.mx, .bool C.on, .int .i64 C.kn, .slice SD.A C.tab.length SD.c, .string C.key, .int .i64 C.df] (cellsC C SD) (0, 0) _ K4_gd.out Try.underlying29 rfl (by kernel_rfl) rfl ?_) | (refine wpList_load_part_g (by rfl) 29 (.tmp 3) rfl gc 0 rfl 29 #[.string C.F.m, .bool C.F.b1, .bool C.F.b2, .bool C.F.b3, .bool C.F.b4, .bool C.F.b5, .bool C.F.b6, .slice S.S.A7 C.F.us.length S.S.c7, .slice S.S.A8 C.F.ms.length S.S.c8, .bool C.F.b9, .slice S.S.A10 C.F.vs.length S.S.c10, .int .i64 C.p, .int .i64 C.mx, .bool C.on, .int .i64 C.kn, .slice S.A C.tab.length S.c, .string C.key, .int .i64 C.df] (cellsC C S) (0, 0) _ K4_gc.out Try.underlying29 rfl (by kernel_rfl) rfl ?_))
        refine (rsame_c C SD S _ O4_SD.out.cv (HV.out.below B4.out) HS.out).mono ?_
        rintro e w_5 ⟨rfl, hb_⟩
        have B6 := Aside0.mk (below_step B4.out hb_)
        have K6_gc := Aside0.mk (blk_below K4_gc.out hb_)
        have K6_gr := Aside0.mk (blk_below K4_gr.out hb_)
        have K6_gx := Aside0.mk (blk_below K4_gx.out hb_)
        have K6_gd := Aside0.mk (blk_below K4_gd.out hb_)
        have O6_X := Aside0.mk (O4_X.out.below hb_)
        have O6_SD := Aside0.mk (O4_SD.out.below hb_)
        clear hb_ B4 K4_gc K4_gr K4_gx K4_gd O4_X O4_SD
        go_wp2_with fail
        refine (fixed_c _).mono ?_
        rintro e w_7 ⟨rfl, hb_⟩
        go_wp2_with fail
        go_ret
        exact ⟨rfl, below_step B6.out hb_⟩
      · obtain ⟨R1, hR1⟩ : ∃ r, rssS kn (intsOf tn) key df = r := ⟨_, rfl⟩
        have HR1 := Aside0.mk hR1
        have N24 : ∀ w', ReadsOf (Value.int .i64) 0 w' Ax tn.length (intsOf tn) → tn.length ≤ cx → Calls Try.prog 24 #[.agg #[.int .i64 (kn : Int), .slice Ax tn.length cx, .string key, .int .i64 (df : Int)]] w' fun e w'' => e = .returned (.int .i64 R1) ∧ Below w'.heap.size w' w'' := fun w' h1 h2 => by
          have q := r11_c (kn : Int) Ax cx (intsOf tn) key (df : Int) w' (by rw [intsOf_len]; exact h1) (by rw [intsOf_len]; exact h2) (by rw [intsOf_len]; have := L130.out; omega)
          rw [intsOf_len, hR1] at q
          exact q
        clear hR1
        go_wp2_with (refine wpList_load_part_g (by rfl) 27 (.tmp 8) rfl gx 0 rfl 27 #[.int .i64 (kn : Int), .slice Ax tn.length cx, .string key, .int .i64 (df : Int)] (#[.int .i64 (kn : Int), .slice Ax tn.length cx, .string key, .int .i64 (df : Int)]) (0, 0) _ K4_gx.out Try.underlying27 rfl (by kernel_rfl) rfl ?_)
        refine (N24 _ (own_reads_of' O4_X.out.h) (own_cap O4_X.out.h)).mono ?_
        rintro e w_8 ⟨rfl, hb_⟩
        clear N24
        have B9 := Aside0.mk (below_step B4.out hb_)
        have K9_gc := Aside0.mk (blk_below K4_gc.out hb_)
        have K9_gr := Aside0.mk (blk_below K4_gr.out hb_)
        have K9_gx := Aside0.mk (blk_below K4_gx.out hb_)
        have K9_gd := Aside0.mk (blk_below K4_gd.out hb_)
        have O9_X := Aside0.mk (O4_X.out.below hb_)
        have O9_SD := Aside0.mk (O4_SD.out.below hb_)
        clear hb_ B4 K4_gc K4_gr K4_gx K4_gd O4_X O4_SD
        by_cases cr : R1 = 0
        · subst cr
          obtain ⟨z, hz⟩ : ∃ r, chkF C.F = r := ⟨_, rfl⟩
          have HZ := Aside0.mk hz
          have N18 : ∀ w', FV w' C.F S.S → Calls Try.prog 18 #[.agg (cellsF C.F S.S)] w' fun e w'' => e = .returned (.int .i64 z) ∧ Below w'.heap.size w' w'' := fun w' h1 => by
            rw [← hz]
            exact check_f C.F S.S w' h1
          clear hz
          go_wp2_with (refine wpList_load_part_g (by rfl) 25 (.tmp 95) rfl gc 0 rfl 29 #[.string C.F.m, .bool C.F.b1, .bool C.F.b2, .bool C.F.b3, .bool C.F.b4, .bool C.F.b5, .bool C.F.b6, .slice S.S.A7 C.F.us.length S.S.c7, .slice S.S.A8 C.F.ms.length S.S.c8, .bool C.F.b9, .slice S.S.A10 C.F.vs.length S.S.c10, .int .i64 C.p, .int .i64 C.mx, .bool C.on, .int .i64 C.kn, .slice S.A C.tab.length S.c, .string C.key, .int .i64 C.df] (cellsF C.F S.S) (0, 0) _ K9_gc.out Try.underlying25 rfl (by kernel_rfl) rfl ?_)
          refine (N18 _ (HV.out.f.below B9.out)).mono ?_
          rintro e w_10 ⟨rfl, hb_⟩
          clear N18
          have B11 := Aside0.mk (below_step B9.out hb_)
          have K11_gc := Aside0.mk (blk_below K9_gc.out hb_)
          have K11_gr := Aside0.mk (blk_below K9_gr.out hb_)
          have K11_gx := Aside0.mk (blk_below K9_gx.out hb_)
          have K11_gd := Aside0.mk (blk_below K9_gd.out hb_)
          have O11_X := Aside0.mk (O9_X.out.below hb_)
          have O11_SD := Aside0.mk (O9_SD.out.below hb_)
          clear hb_ B9 K9_gc K9_gr K9_gx K9_gd O9_X O9_SD
          by_cases cz : z = 0
          · subst cz
            obtain ⟨hD, hn⟩ := Prod.mk.inj ((YES HFN.out HR1.out HZ.out).symm.trans PA.out)
            clear NOT YES
            subst hn
            have e1 : D.on = true := by rw [← hD]; rfl
            have e2 : D.p = (p : Int) := by rw [← hD]; rfl
            have e3 : D.key = key := by rw [← hD]; rfl
            have e4 : D.tab = intsOf tn := by rw [← hD]; rfl
            have e5 : D.kn = (kn : Int) := by rw [← hD]; rfl
            have e6 : D.df = (df : Int) := by rw [← hD]; rfl
            have e7 : D.F = C.F := by rw [← hD]; rfl
            have N25 : ∀ w', CV w' D SD → ReadsOf (Value.int .i64) 0 w' Ax tn.length (intsOf tn) → tn.length ≤ cx → Calls Try.prog 25 #[.slice SD.A D.tab.length SD.c, .slice Ax tn.length cx] w' fun e w'' => e = .returned (.bool true) ∧ Below w'.heap.size w' w'' := fun w' h1 h2 h3 => by
              have r1 := h1.r
              have r2 := h1.l
              rw [e4, intsOf_len] at r1 r2 ⊢
              have q := rsame11 (intsOf tn) SD.A SD.c Ax cx w' (by rw [intsOf_len]; exact r1) (by rw [intsOf_len]; exact r2) (by rw [intsOf_len]; exact h2) (by rw [intsOf_len]; exact h3) (by rw [intsOf_len]; have := L130.out; omega)
              rw [intsOf_len] at q
              exact q
            have N16 : ∀ w', FV w' D.F SD.S → FV w' C.F S.S → Calls Try.prog 16 #[.agg (cellsF D.F SD.S), .agg (cellsF C.F S.S)] w' fun e w'' => e = .returned (.bool true) ∧ Below w'.heap.size w' w'' := fun w' h1 h2 => by
              have hs := HS.out.1
              rw [e7] at h1 ⊢
              exact same_f C.F SD.S S.S w' h1 h2 hs
            have EE := Aside0.mk (And.intro e1 (And.intro e2 (And.intro e3 (And.intro e5 e6))))
            clear hD e1 e2 e3 e4 e5 e6 e7
            have pc11 : w_10.cell? ⟨gd, 11, none⟩ = some (.int .i64 D.p) := (blk_cell K11_gd.out 11).trans rfl
            have pf11 := blk_frozen K11_gd.out 11
            have pc13 : w_10.cell? ⟨gd, 13, none⟩ = some (.bool D.on) := (blk_cell K11_gd.out 13).trans rfl
            have pf13 := blk_frozen K11_gd.out 13
            have pc15 : w_10.cell? ⟨gd, 15, none⟩ = some (.slice SD.A D.tab.length SD.c) := (blk_cell K11_gd.out 15).trans rfl
            have pf15 := blk_frozen K11_gd.out 15
            have pc16 : w_10.cell? ⟨gd, 16, none⟩ = some (.string D.key) := (blk_cell K11_gd.out 16).trans rfl
            have pf16 := blk_frozen K11_gd.out 16
            have qc1 : w_10.cell? ⟨gx, 1, none⟩ = some (.slice Ax tn.length cx) := (blk_cell K11_gx.out 1).trans rfl
            have qf1 := blk_frozen K11_gx.out 1
            have qc2 : w_10.cell? ⟨gx, 2, none⟩ = some (.string key) := (blk_cell K11_gx.out 2).trans rfl
            have qf2 := blk_frozen K11_gx.out 2
            obtain ⟨e1, e2, e3, e5, e6⟩ := EE.out
            rw [e1] at pc13
            rw [e2] at pc11
            rw [e3] at pc16
            clear e1 e2 e3 e5 e6
            go_wp2_with fail
            refine (N25 _ O11_SD.out.cv (own_reads_of' O11_X.out.h) (own_cap O11_X.out.h)).mono ?_
            rintro e w_12 ⟨rfl, hb_⟩
            clear N25 pc13 pc11 pc16 pc15 pf13 pf11 pf16 pf15 qc2 qc1 qf2 qf1
            have B13 := Aside0.mk (below_step B11.out hb_)
            have K13_gc := Aside0.mk (blk_below K11_gc.out hb_)
            have K13_gr := Aside0.mk (blk_below K11_gr.out hb_)
            have K13_gx := Aside0.mk (blk_below K11_gx.out hb_)
            have K13_gd := Aside0.mk (blk_below K11_gd.out hb_)
            have O13_X := Aside0.mk (O11_X.out.below hb_)
            have O13_SD := Aside0.mk (O11_SD.out.below hb_)
            clear hb_ B11 K11_gc K11_gr K11_gx K11_gd O11_X O11_SD
            have pc14 : w_12.cell? ⟨gd, 14, none⟩ = some (.int .i64 D.kn) := (blk_cell K13_gd.out 14).trans rfl
            have pf14 := blk_frozen K13_gd.out 14
            have pc17 : w_12.cell? ⟨gd, 17, none⟩ = some (.int .i64 D.df) := (blk_cell K13_gd.out 17).trans rfl
            have pf17 := blk_frozen K13_gd.out 17
            have qc0 : w_12.cell? ⟨gx, 0, none⟩ = some (.int .i64 (kn : Int)) := (blk_cell K13_gx.out 0).trans rfl
            have qf0 := blk_frozen K13_gx.out 0
            have qc3 : w_12.cell? ⟨gx, 3, none⟩ = some (.int .i64 (df : Int)) := (blk_cell K13_gx.out 3).trans rfl
            have qf3 := blk_frozen K13_gx.out 3
            obtain ⟨e1, e2, e3, e5, e6⟩ := EE.out
            rw [e5] at pc14
            rw [e6] at pc17
            clear e1 e2 e3 e5 e6
            go_wp2_with (first | (refine wpList_load_part_g (by rfl) 25 (.tmp 157) rfl gd 0 rfl 29 #[.string D.F.m, .bool D.F.b1, .bool D.F.b2, .bool D.F.b3, .bool D.F.b4, .bool D.F.b5, .bool D.F.b6, .slice SD.S.A7 D.F.us.length SD.S.c7, .slice SD.S.A8 D.F.ms.length SD.S.c8, .bool D.F.b9, .slice SD.S.A10 D.F.vs.length SD.S.c10, .int .i64 D.p, .int .i64 D.mx, .bool D.on, .int .i64 D.kn, .slice SD.A D.tab.length SD.c, .string D.key, .int .i64 D.df] (cellsF D.F SD.S) (0, 0) _ K13_gd.out Try.underlying25 rfl (by kernel_rfl) rfl ?_) | (refine wpList_load_part_g (by rfl) 25 (.tmp 159) rfl gc 0 rfl 29 #[.string C.F.m, .bool C.F.b1, .bool C.F.b2, .bool C.F.b3, .bool C.F.b4, .bool C.F.b5, .bool C.F.b6, .slice S.S.A7 C.F.us.length S.S.c7, .slice S.S.A8 C.F.ms.length S.S.c8, .bool C.F.b9, .slice S.S.A10 C.F.vs.length S.S.c10, .int .i64 C.p, .int .i64 C.mx, .bool C.on, .int .i64 C.kn, .slice S.A C.tab.length S.c, .string C.key, .int .i64 C.df] (cellsF C.F S.S) (0, 0) _ K13_gc.out Try.underlying25 rfl (by kernel_rfl) rfl ?_))
            refine (N16 _ O13_SD.out.cv.f (HV.out.f.below B13.out)).mono ?_
            rintro e w_14 ⟨rfl, hb_⟩
            clear N16 pc14 pc17 pf14 pf17 qc0 qc3 qf0 qf3
            have B15 := Aside0.mk (below_step B13.out hb_)
            have K15_gc := Aside0.mk (blk_below K13_gc.out hb_)
            have K15_gr := Aside0.mk (blk_below K13_gr.out hb_)
            have K15_gx := Aside0.mk (blk_below K13_gx.out hb_)
            have K15_gd := Aside0.mk (blk_below K13_gd.out hb_)
            have O15_X := Aside0.mk (O13_X.out.below hb_)
            have O15_SD := Aside0.mk (O13_SD.out.below hb_)
            clear hb_ B13 K13_gc K13_gr K13_gx K13_gd O13_X O13_SD
            go_wp2_with fail
            refine (fixed_c _).mono ?_
            rintro e w_16 ⟨rfl, hb_⟩
            go_wp2_with fail
            go_ret
            exact ⟨rfl, below_step B15.out hb_⟩
          · have dz : (z == 0) = false := beq_eq_false_iff_ne.2 cz
            obtain ⟨hD, hn⟩ := Prod.mk.inj ((NOT (.inr (.inr (by rw [HZ.out]; exact cz)))).symm.trans PA.out)
            clear NOT YES
            subst hD
            subst hn
            go_wp2_with (first | (refine wpList_load_part_g (by rfl) 29 (.tmp 11) rfl gd 0 rfl 29 #[.string C.F.m, .bool C.F.b1, .bool C.F.b2, .bool C.F.b3, .bool C.F.b4, .bool C.F.b5, .bool C.F.b6, .slice SD.S.A7 C.F.us.length SD.S.c7, .slice SD.S.A8 C.F.ms.length SD.S.c8, .bool C.F.b9, .slice SD.S.A10 C.F.vs.length SD.S.c10, .int .i64 C.p, .int .i64 C.mx, .bool C.on, .int .i64 C.kn, .slice SD.A C.tab.length SD.c, .string C.key, .int .i64 C.df] (cellsC C SD) (0, 0) _ K11_gd.out Try.underlying29 rfl (by kernel_rfl) rfl ?_) | (refine wpList_load_part_g (by rfl) 29 (.tmp 3) rfl gc 0 rfl 29 #[.string C.F.m, .bool C.F.b1, .bool C.F.b2, .bool C.F.b3, .bool C.F.b4, .bool C.F.b5, .bool C.F.b6, .slice S.S.A7 C.F.us.length S.S.c7, .slice S.S.A8 C.F.ms.length S.S.c8, .bool C.F.b9, .slice S.S.A10 C.F.vs.length S.S.c10, .int .i64 C.p, .int .i64 C.mx, .bool C.on, .int .i64 C.kn, .slice S.A C.tab.length S.c, .string C.key, .int .i64 C.df] (cellsC C S) (0, 0) _ K11_gc.out Try.underlying29 rfl (by kernel_rfl) rfl ?_))
            refine (rsame_c C SD S _ O11_SD.out.cv (HV.out.below B11.out) HS.out).mono ?_
            rintro e w_17 ⟨rfl, hb_⟩
            have B18 := Aside0.mk (below_step B11.out hb_)
            have K18_gc := Aside0.mk (blk_below K11_gc.out hb_)
            have K18_gr := Aside0.mk (blk_below K11_gr.out hb_)
            have K18_gx := Aside0.mk (blk_below K11_gx.out hb_)
            have K18_gd := Aside0.mk (blk_below K11_gd.out hb_)
            have O18_X := Aside0.mk (O11_X.out.below hb_)
            have O18_SD := Aside0.mk (O11_SD.out.below hb_)
            clear hb_ B11 K11_gc K11_gr K11_gx K11_gd O11_X O11_SD
            go_wp2_with fail
            refine (fixed_c _).mono ?_
            rintro e w_19 ⟨rfl, hb_⟩
            go_wp2_with fail
            go_ret
            exact ⟨rfl, below_step B18.out hb_⟩
        · have dr : (R1 == 0) = false := beq_eq_false_iff_ne.2 cr
          obtain ⟨hD, hn⟩ := Prod.mk.inj ((NOT (.inr (.inl (by rw [HR1.out]; exact cr)))).symm.trans PA.out)
          clear NOT YES
          subst hD
          subst hn
          go_wp2_with (first | (refine wpList_load_part_g (by rfl) 29 (.tmp 11) rfl gd 0 rfl 29 #[.string C.F.m, .bool C.F.b1, .bool C.F.b2, .bool C.F.b3, .bool C.F.b4, .bool C.F.b5, .bool C.F.b6, .slice SD.S.A7 C.F.us.length SD.S.c7, .slice SD.S.A8 C.F.ms.length SD.S.c8, .bool C.F.b9, .slice SD.S.A10 C.F.vs.length SD.S.c10, .int .i64 C.p, .int .i64 C.mx, .bool C.on, .int .i64 C.kn, .slice SD.A C.tab.length SD.c, .string C.key, .int .i64 C.df] (cellsC C SD) (0, 0) _ K9_gd.out Try.underlying29 rfl (by kernel_rfl) rfl ?_) | (refine wpList_load_part_g (by rfl) 29 (.tmp 3) rfl gc 0 rfl 29 #[.string C.F.m, .bool C.F.b1, .bool C.F.b2, .bool C.F.b3, .bool C.F.b4, .bool C.F.b5, .bool C.F.b6, .slice S.S.A7 C.F.us.length S.S.c7, .slice S.S.A8 C.F.ms.length S.S.c8, .bool C.F.b9, .slice S.S.A10 C.F.vs.length S.S.c10, .int .i64 C.p, .int .i64 C.mx, .bool C.on, .int .i64 C.kn, .slice S.A C.tab.length S.c, .string C.key, .int .i64 C.df] (cellsC C S) (0, 0) _ K9_gc.out Try.underlying29 rfl (by kernel_rfl) rfl ?_))
          refine (rsame_c C SD S _ O9_SD.out.cv (HV.out.below B9.out) HS.out).mono ?_
          rintro e w_20 ⟨rfl, hb_⟩
          have B21 := Aside0.mk (below_step B9.out hb_)
          have K21_gc := Aside0.mk (blk_below K9_gc.out hb_)
          have K21_gr := Aside0.mk (blk_below K9_gr.out hb_)
          have K21_gx := Aside0.mk (blk_below K9_gx.out hb_)
          have K21_gd := Aside0.mk (blk_below K9_gd.out hb_)
          have O21_X := Aside0.mk (O9_X.out.below hb_)
          have O21_SD := Aside0.mk (O9_SD.out.below hb_)
          clear hb_ B9 K9_gc K9_gr K9_gx K9_gd O9_X O9_SD
          go_wp2_with fail
          refine (fixed_c _).mono ?_
          rintro e w_22 ⟨rfl, hb_⟩
          go_wp2_with fail
          go_ret
          exact ⟨rfl, below_step B21.out hb_⟩
    go_wp2_with fail
    go_loopg [9, 10] Nn (fun gk v9 v10 w' => ∃ (i : Nat) (Ax : Option Addr) (cx : Nat), v10 = .int .i64 (i : Int) ∧ v9 = .bool (fitI F0 C.mx (tn.take i)) ∧ Aside0 (i + gk = Nn) ∧ Aside0 (w'.heap[gc]? = some (.cells #[.string C.F.m, .bool C.F.b1, .bool C.F.b2, .bool C.F.b3, .bool C.F.b4, .bool C.F.b5, .bool C.F.b6, .slice S.S.A7 C.F.us.length S.S.c7, .slice S.S.A8 C.F.ms.length S.S.c8, .bool C.F.b9, .slice S.S.A10 C.F.vs.length S.S.c10, .int .i64 C.p, .int .i64 C.mx, .bool C.on, .int .i64 C.kn, .slice S.A C.tab.length S.c, .string C.key, .int .i64 C.df] 29 (0, 0))) ∧ Aside0 (w'.heap[gr]? = some (.cells #[.int .i64 kn0, .slice A0 tab.length c0, .string key0, .int .i64 df0] 27 (0, 0))) ∧ Aside0 (w'.heap[gx]? = some (.cells #[.int .i64 (kn : Int), .slice Ax i cx, .string key, .int .i64 (df : Int)] 27 (0, 0))) ∧ Aside0 (OR w.heap.size w' 3 Ax i cx (encs (Value.int .i64) (intsOf (tn.take i)))) ∧ Aside0 (Below w.heap.size w w'))
    case atStart => exact ⟨0, none, 0, rfl, by rw [List.take_zero]; unfold fitI intsOf; simp, ⟨by omega⟩, K10_gc, K10_gr, K10_gx, ⟨⟨by rw [List.take_zero]; exact own_nil _ _ _ _, .inr rfl⟩⟩, B10⟩
    case round =>
      obtain ⟨i, Ax, cx, rfl, rfl, hk, LC, LR, LX, LO, LB⟩ := hrel
      have hkk := hk.out
      have hn2 := HN2.out
      have wi : IntKind.i64.wrap ((i : Int) + 1) = ((i + 1 : Nat) : Int) := by rw [IntKind.wrap_i64]; omega
      by_cases hc : i < Nn
      · skip
        have c1 : decide ((i : Int) < (tab.length : Int)) = true := decide_eq_true (by omega)
        have c2 : decide ((i : Int) < 130) = true := decide_eq_true (by omega)
        have c3 : decide (0 ≤ (i : Int)) = true := decide_eq_true (by omega)
        have c4 : ((i : Int) < (tab.length : Int)) = True := eq_true (by omega)
        have c5 : (i < tab.length) = True := eq_true (by omega)
        have c6 : (0 ≤ (i : Int)) = True := eq_true (by omega)
        obtain ⟨ki, rfl⟩ : ∃ m, gk = m + 1 := ⟨gk - 1, by omega⟩
        have htab : i < tab.length := by omega
        have hit : i < tn.length := by rw [HNN.out]; exact hc
        obtain ⟨ad, rfl, hcell⟩ := (HRD.out.below LB.out).2.2 (by omega)
        have hcl0 := hcell i htab
        obtain ⟨x, hx⟩ : ∃ x, tab.getD i 0 = x := ⟨_, rfl⟩
        rw [hx] at hcl0
        obtain ⟨q, hq⟩ : ∃ q, tn[i] = q := ⟨_, rfl⟩
        have hbits : Go.bits .and .i64 x 15 = (q : Int) := by
          rw [show Go.bits .and .i64 x 15 = x % 16 from and_i64 x 4 (by decide), ← hq, GTN.out i hit htab, ← hx, List.getD_eq_getElem?_getD, List.getElem?_eq_getElem htab]
          rfl
        have HQ := Aside0.mk hq
        have HIT := Aside0.mk hit
        have HWI := Aside0.mk wi
        have hk2 := hk.out
        have LI : Aside0 (i < 130) := ⟨by omega⟩
        clear hx hq hcell hkk hn2 hk2 hc htab
        have pc1 : wr.cell? ⟨gr, 1, none⟩ = some (.slice (some ad) tab.length c0) := (blk_cell LR.out 1).trans rfl
        go_upto_region 8 with fail
        clear pc1
        refine start_ (n := 12) (S := fun w' => w'.cell? ⟨gx, 1, none⟩ = some (.slice Ax i cx) ∧ w'.cell? ⟨gr, 1, none⟩ = some (.slice (some ad) tab.length c0) ∧ w'.cell? (ad.add i) = some (.int .i64 x) ∧ Below wr.heap.size wr w') (ds := [9, 11]) (bsq 12 0) (by kernel_rfl) rfl rfl ⟨(blk_cell LX.out 1).trans rfl, (blk_cell LR.out 1).trans rfl, hcl0, below_drew1 (Below.refl _ _)⟩ (fun hHeld => ?_)
        refine pure_ (i := 0) (N := some 58) (v := ?_) (a' := ?_) (bsq 12 1) rfl rfl (by kernel_rfl) (fun _ _ _ h => h) (Or.inl ⟨by rfl, ?_⟩) ?_ ?_
        rotate_left
        · intro w'
          go_simp
          with_reducible rfl
        rotate_left
        · simp only [Act.put, List.setIfInBounds_toArray, List.set_cons_zero, List.set_cons_succ, i64_w, i32_w]
          rfl
        refine pure_ (i := 2) (N := some 60) (v := ?_) (a' := ?_) (bsq 12 5) rfl rfl (by kernel_rfl) (fun _ _ _ h => h) (Or.inl ⟨by rfl, ?_⟩) ?_ ?_
        rotate_left
        · intro w'
          go_simp
          with_reducible rfl
        rotate_left
        · simp only [Act.put, List.setIfInBounds_toArray, List.set_cons_zero, List.set_cons_succ, i64_w, i32_w]
          rfl
        refine pure_ (i := 4) (N := some 62) (v := ?_) (a' := ?_) (bsq 12 21) rfl rfl (by kernel_rfl) (fun _ _ _ h => h) (Or.inl ⟨by rfl, ?_⟩) ?_ ?_
        rotate_left
        · intro w'
          go_simp
          with_reducible rfl
        rotate_left
        · simp only [Act.put, List.setIfInBounds_toArray, List.set_cons_zero, List.set_cons_succ, i64_w, i32_w]
          rfl
        refine take_ (i := 1) (N := some 59) (v := ?_) (a' := ?_) (bsq 12 23) rfl rfl (by kernel_rfl) (fun _ _ _ h => h) (Or.inl ⟨by rfl, ?_⟩) hHeld ?_ ?_
        rotate_left
        · rintro w' ⟨s0, s1, s2, s3⟩
          go_simp
          with_reducible rfl
        rotate_left
        · simp only [Act.put, List.setIfInBounds_toArray, List.set_cons_zero, List.set_cons_succ, i64_w, i32_w]
          rfl
        refine take_ (i := 3) (N := some 61) (v := ?_) (a' := ?_) (bsq 12 31) rfl rfl (by kernel_rfl) (fun _ _ _ h => h) (Or.inl ⟨by rfl, ?_⟩) hHeld ?_ ?_
        rotate_left
        · rintro w' ⟨s0, s1, s2, s3⟩
          go_simp
          with_reducible rfl
        rotate_left
        · simp only [Act.put, List.setIfInBounds_toArray, List.set_cons_zero, List.set_cons_succ, i64_w, i32_w]
          rfl
        refine pure_ (i := 5) (N := some 63) (v := ?_) (a' := ?_) (bsq 12 63) rfl rfl (by kernel_rfl) (fun _ _ _ h => h) (Or.inl ⟨by rfl, ?_⟩) ?_ ?_
        rotate_left
        · intro w'
          go_simp
          with_reducible rfl
        rotate_left
        · simp only [Act.put, List.setIfInBounds_toArray, List.set_cons_zero, List.set_cons_succ, i64_w, i32_w]
          rfl
        refine take_ (i := 6) (N := some 64) (v := ?_) (a' := ?_) (bsq 12 127) rfl rfl (by kernel_rfl) (fun _ _ _ h => h) (Or.inl ⟨by rfl, ?_⟩) hHeld ?_ ?_
        rotate_left
        · rintro w' ⟨s0, s1, s2, s3⟩
          go_simp
          with_reducible rfl
        rotate_left
        · simp only [Act.put, List.setIfInBounds_toArray, List.set_cons_zero, List.set_cons_succ, i64_w, i32_w]
          rfl
        refine pure_ (i := 7) (N := some 65) (v := ?_) (a' := ?_) (bsq 12 255) rfl rfl (by kernel_rfl) (fun _ _ _ h => h) (Or.inl ⟨by rfl, ?_⟩) ?_ ?_
        rotate_left
        · intro w'
          go_simp
          with_reducible rfl
        rotate_left
        · simp only [Act.put, List.setIfInBounds_toArray, List.set_cons_zero, List.set_cons_succ, i64_w, i32_w]
          rfl
        refine one_ (i := 8) (N := some 66) (bsq 12 511) rfl rfl (by kernel_rfl) (by decide) (fun K hK => ?_)
        refine value_ (w1 := ?_) (v := ?_) (by rfl) rfl ?_ ?_
        rotate_left 2
        · go_simp
          constructor
          · rfl
          · rfl
        have BA := Aside0.mk (hHeld.2.2.2)
        refine hK.out _ _ ⟨pw_cell_below (below_alloc (Below.refl _ _) (.cells #[.int .i64 (q : Int)] 3)) hHeld.1, pw_cell_below (below_alloc (Below.refl _ _) (.cells #[.int .i64 (q : Int)] 3)) hHeld.2.1, pw_cell_below (below_alloc (Below.refl _ _) (.cells #[.int .i64 (q : Int)] 3)) hHeld.2.2.1, below_step hHeld.2.2.2 (below_alloc (Below.refl _ _) (.cells #[.int .i64 (q : Int)] 3))⟩ (fun hHeld => ?_)
        clear hK K
        refine norm_ (a' := ?_) ?_ ?_
        rotate_left
        · show Act.put _ (some 66) _ = _
          simp only [Act.put, List.setIfInBounds_toArray, List.set_cons_zero, List.set_cons_succ, i64_w, i32_w]
          rfl
        refine last_ (i := 9) (N := some 67) (bsq 12 1023) rfl rfl (by kernel_rfl) (by decide) (fun K hK => ?_)
        have KC0 := blk_below LC.out BA.out
        have KR0 := blk_below LR.out BA.out
        have KX0 := blk_below LX.out BA.out
        have LO0 := LO.out.below BA.out
        refine step_append_cells (W := wr.drew) (w0 := w) w.heap.size (by rfl) (.tmp 59) (.tmp 66) 23 3 (.int .i64 0) 1 8 rfl Try.underlying23 info3 rfl (by decide) (by decide) (.slice Ax i cx) i (encs (Value.int .i64) (intsOf (tn.take i))) [.int .i64 (q : Int)] rfl rfl rfl (by simp [Value.oneCell']) LO0.h (below_step LB.out BA.out) (Nat.le_trans LB.out.size BA.out.size) (by have := LI.out; omega) ?_
        intro v1 wa ho1 hb1 hg1 hat1
        obtain ⟨A1, c1_, rfl⟩ := own_slice ho1
        have HO1 : Aside0 (OR w.heap.size wa 3 A1 (i + 1) c1_ (encs (Value.int .i64) (intsOf (tn.take i)) ++ [.int .i64 (q : Int)])) := ⟨⟨ho1, .inr rfl⟩⟩
        have HB1 := Aside0.mk hb1
        have KC1 := Aside0.mk (blk_grown KC0 hg1 (own_ne LO0.h KC0 (by decide)))
        have KR1 := Aside0.mk (blk_grown KR0 hg1 (own_ne LO0.h KR0 (by decide)))
        have KX1 := Aside0.mk (blk_grown KX0 hg1 (own_ne LO0.h KX0 (by decide)))
        have xc1 : wa.cell? ⟨gx, 1, none⟩ = some (.slice Ax i cx) := (blk_cell KX1.out 1).trans rfl
        have xf1 := blk_frozen KX1.out 1
        clear ho1 hb1 hg1 hat1 KC0 KR0 KX0 LO0
        refine hK.out _ _ ?_
        clear hK K
        refine norm_ (a' := ?_) ?_ ?_
        rotate_left
        · show Act.put _ (some 67) _ = _
          simp only [Act.put, List.setIfInBounds_toArray, List.set_cons_zero, List.set_cons_succ, i64_w, i32_w]
          rfl
        refine pure_ (i := 10) (N := some 68) (v := ?_) (a' := ?_) (bsq 12 2047) rfl rfl (by kernel_rfl) (fun _ _ _ h => h) (Or.inl ⟨by rfl, ?_⟩) ?_ ?_
        rotate_left
        · intro w'
          go_simp
          with_reducible rfl
        rotate_left
        · simp only [Act.put, List.setIfInBounds_toArray, List.set_cons_zero, List.set_cons_succ, i64_w, i32_w]
          rfl
        refine last_ (i := 11) (N := none) (bsq 12 4095) rfl rfl (by kernel_rfl) (by decide) (fun K hK => ?_)
        refine skip_ (w1 := ?_) (by rfl) rfl ?_ ?_
        rotate_left
        · go_simp
          rfl
        refine hK.out _ _ ?_
        clear hK K
        refine done_ (by kernel_rfl) ?_
        clear xc1 xf1 hcl0 hbits LC LR LX LO LB BA
        obtain ⟨w_1, hw_⟩ : ∃ w_, (wa.setCell ⟨gx, 1, none⟩ (.slice A1 (i + 1) c1_)) = w_ := ⟨_, rfl⟩
        have hu_ : Upd wa w_1 (fun k => k = gx) := by rw [← hw_]; exact (Upd.refl wa (fun k => k = gx)).set (p := ⟨gx, 1, none⟩) (.inl rfl) _
        have kf_ : w_1.heap[gx]? = some (.cells #[.int .i64 (kn : Int), .slice A1 (i + 1) c1_, .string key, .int .i64 (df : Int)] 27 (0, 0)) := by rw [← hw_]; exact (blk_put (cs := #[.int .i64 (kn : Int), .slice Ax i cx, .string key, .int .i64 (df : Int)]) KX1.out 1 _ rfl)
        rw [hw_]
        clear hw_
        have K2_gx := Aside0.mk (kf_)
        have B2 := Aside0.mk (HB1.out.trans (hu_.toBelow (B := w.heap.size) (fun k hk => by rw [hk]; exact G_gx.out) (HB1.out).size))
        have K2_gc := Aside0.mk (hu_.blk KC1.out (by have := E_gc_gx.out; omega))
        have K2_gr := Aside0.mk (hu_.blk KR1.out (by have := E_gr_gx.out; omega))
        have O2_X := Aside0.mk (HO1.out.boxT KX1.out (by decide) (by decide) hu_)
        clear hu_ HB1 KC1 KR1 HO1 KX1
        clear kf_
        have HE : Aside0 (OR w.heap.size w_1 3 A1 (i + 1) c1_ (encs (Value.int .i64) (intsOf (tn.take (i + 1))))) := ⟨by
          rw [intsOf_snoc tn i HIT.out, encs_snoc, HQ.out]
          exact O2_X.out⟩
        clear O2_X
        go_upto_region 9 with fail
        obtain ⟨f, hf⟩ : ∃ f, fitI F0 C.mx (tn.take i) = f := ⟨_, rfl⟩
        have HFI : Aside0 (fitI F0 C.mx (tn.take (i + 1)) = (f && decide ((q : Int) < C.mx))) := ⟨by rw [fitI_snoc F0 C.mx tn i HIT.out, hf, HQ.out]⟩
        rw [hf]
        clear hf
        have rx_ := own_reads_of' (d := (0 : Int)) (enc := Value.int .i64) HE.out.h
        obtain ⟨ad1, rfl, hcell⟩ := rx_.2.2 (by omega)
        have hcl1 := hcell i (by omega)
        have eq_ : (intsOf (tn.take (i + 1))).getD i 0 = (q : Int) := by
          rw [intsOf_snoc tn i HIT.out, HQ.out, List.getD_eq_getElem?_getD, List.getElem?_append_right (by rw [intsOf_len, List.length_take]; omega)]
          have : (intsOf (tn.take i)).length = i := by rw [intsOf_len, List.length_take]; have := HIT.out; omega
          rw [this, Nat.sub_self]
          rfl
        rw [eq_] at hcl1
        have d1 : ((i : Int) < ((i + 1 : Nat) : Int)) = True := eq_true (by omega)
        have d2 : (i < i + 1) = True := eq_true (by omega)
        have d3 : ((i : Int) < (i : Int) + 1) = True := eq_true (by omega)
        have d4 : (0 ≤ (i : Int)) = True := eq_true (by omega)
        clear rx_ hcell eq_ wi
        have wi := HWI.out
        cases f
        · refine start_ (n := 12) (S := fun w' => w'.cell? ⟨gx, 1, none⟩ = some (.slice (some ad1) (i + 1) c1_) ∧ w'.cell? ⟨gc, 12, none⟩ = some (.int .i64 C.mx) ∧ w'.cell? (ad1.add i) = some (.int .i64 (q : Int)) ∧ Below w_1.heap.size w_1 w') (ds := []) (bsq 12 0) (by kernel_rfl) rfl rfl ⟨(blk_cell K2_gx.out 1).trans rfl, (blk_cell K2_gc.out 12).trans rfl, hcl1, below_drew1 (Below.refl _ _)⟩ (fun hHeld => ?_)
          refine pure_ (i := 0) (N := some 69) (v := ?_) (a' := ?_) (bsq 12 1) rfl rfl (by kernel_rfl) (fun _ _ _ h => h) (Or.inl ⟨by rfl, ?_⟩) ?_ ?_
          rotate_left
          · intro w'
            go_simp
            with_reducible rfl
          rotate_left
          · simp only [Act.put, List.setIfInBounds_toArray, List.set_cons_zero, List.set_cons_succ, i64_w, i32_w]
            rfl
          refine pure_ (i := 1) (N := some 70) (v := ?_) (a' := ?_) (bsq 12 3) rfl rfl (by kernel_rfl) (fun _ _ _ h => h) (Or.inl ⟨by rfl, ?_⟩) ?_ ?_
          rotate_left
          · intro w'
            go_simp
            with_reducible rfl
          rotate_left
          · simp only [Act.put, List.setIfInBounds_toArray, List.set_cons_zero, List.set_cons_succ, i64_w, i32_w]
            rfl
          refine pure_ (i := 2) (N := some 71) (v := undef) (a' := ?_) (bsq 12 7) rfl rfl (by kernel_rfl) (fun _ _ _ h => h) (Or.inr ⟨by rfl, rfl⟩) ?_ ?_
          rotate_left
          · simp only [Act.put, List.setIfInBounds_toArray, List.set_cons_zero, List.set_cons_succ, i64_w, i32_w]
            rfl
          refine pure_ (i := 3) (N := some 72) (v := undef) (a' := ?_) (bsq 12 15) rfl rfl (by kernel_rfl) (fun _ _ _ h => h) (Or.inr ⟨by rfl, rfl⟩) ?_ ?_
          rotate_left
          · simp only [Act.put, List.setIfInBounds_toArray, List.set_cons_zero, List.set_cons_succ, i64_w, i32_w]
            rfl
          refine pure_ (i := 4) (N := some 73) (v := undef) (a' := ?_) (bsq 12 31) rfl rfl (by kernel_rfl) (fun _ _ _ h => h) (Or.inr ⟨by rfl, rfl⟩) ?_ ?_
          rotate_left
          · simp only [Act.put, List.setIfInBounds_toArray, List.set_cons_zero, List.set_cons_succ, i64_w, i32_w]
            rfl
          refine pure_ (i := 5) (N := some 74) (v := undef) (a' := ?_) (bsq 12 63) rfl rfl (by kernel_rfl) (fun _ _ _ h => h) (Or.inr ⟨by rfl, rfl⟩) ?_ ?_
          rotate_left
          · simp only [Act.put, List.setIfInBounds_toArray, List.set_cons_zero, List.set_cons_succ, i64_w, i32_w]
            rfl
          refine pure_ (i := 6) (N := some 75) (v := undef) (a' := ?_) (bsq 12 127) rfl rfl (by kernel_rfl) (fun _ _ _ h => h) (Or.inr ⟨by rfl, rfl⟩) ?_ ?_
          rotate_left
          · simp only [Act.put, List.setIfInBounds_toArray, List.set_cons_zero, List.set_cons_succ, i64_w, i32_w]
            rfl
          refine pure_ (i := 7) (N := some 76) (v := undef) (a' := ?_) (bsq 12 255) rfl rfl (by kernel_rfl) (fun _ _ _ h => h) (Or.inr ⟨by rfl, rfl⟩) ?_ ?_
          rotate_left
          · simp only [Act.put, List.setIfInBounds_toArray, List.set_cons_zero, List.set_cons_succ, i64_w, i32_w]
            rfl
          refine pure_ (i := 8) (N := some 77) (v := undef) (a' := ?_) (bsq 12 511) rfl rfl (by kernel_rfl) (fun _ _ _ h => h) (Or.inr ⟨by rfl, rfl⟩) ?_ ?_
          rotate_left
          · simp only [Act.put, List.setIfInBounds_toArray, List.set_cons_zero, List.set_cons_succ, i64_w, i32_w]
            rfl
          refine pure_ (i := 9) (N := some 78) (v := undef) (a' := ?_) (bsq 12 1023) rfl rfl (by kernel_rfl) (fun _ _ _ h => h) (Or.inr ⟨by rfl, rfl⟩) ?_ ?_
          rotate_left
          · simp only [Act.put, List.setIfInBounds_toArray, List.set_cons_zero, List.set_cons_succ, i64_w, i32_w]
            rfl
          refine pure_ (i := 10) (N := some 79) (v := ?_) (a' := ?_) (bsq 12 2047) rfl rfl (by kernel_rfl) (fun _ _ _ h => h) (Or.inl ⟨by rfl, ?_⟩) ?_ ?_
          rotate_left
          · intro w'
            go_simp
            with_reducible rfl
          rotate_left
          · simp only [Act.put, List.setIfInBounds_toArray, List.set_cons_zero, List.set_cons_succ, i64_w, i32_w]
            rfl
          refine pure_ (i := 11) (N := some 9) (v := ?_) (a' := ?_) (bsq 12 4095) rfl rfl (by kernel_rfl) (fun _ _ _ h => h) (Or.inl ⟨by rfl, ?_⟩) ?_ ?_
          rotate_left
          · intro w'
            go_simp
            with_reducible rfl
          rotate_left
          · simp only [Act.put, List.setIfInBounds_toArray, List.set_cons_zero, List.set_cons_succ, i64_w, i32_w]
            rfl
          refine done_ (by kernel_rfl) ?_
          go_wp2_with fail
          try rw [wi]
          go_roundg ki
          case measure => omega
          case rel => exact ⟨i + 1, some ad1, c1_, rfl, by rw [HFI.out]; rfl, ⟨by have := hk.out; omega⟩, ⟨blk_below K2_gc.out (below_drew1 (Below.refl _ _))⟩, ⟨blk_below K2_gr.out (below_drew1 (Below.refl _ _))⟩, ⟨blk_below K2_gx.out (below_drew1 (Below.refl _ _))⟩, ⟨HE.out.below (below_drew1 (Below.refl _ _))⟩, ⟨below_step B2.out (below_drew1 (Below.refl _ _))⟩⟩
        · refine start_ (n := 12) (S := fun w' => w'.cell? ⟨gx, 1, none⟩ = some (.slice (some ad1) (i + 1) c1_) ∧ w'.cell? ⟨gc, 12, none⟩ = some (.int .i64 C.mx) ∧ w'.cell? (ad1.add i) = some (.int .i64 (q : Int)) ∧ Below w_1.heap.size w_1 w') (ds := []) (bsq 12 0) (by kernel_rfl) rfl rfl ⟨(blk_cell K2_gx.out 1).trans rfl, (blk_cell K2_gc.out 12).trans rfl, hcl1, below_drew1 (Below.refl _ _)⟩ (fun hHeld => ?_)
          refine pure_ (i := 0) (N := some 69) (v := ?_) (a' := ?_) (bsq 12 1) rfl rfl (by kernel_rfl) (fun _ _ _ h => h) (Or.inl ⟨by rfl, ?_⟩) ?_ ?_
          rotate_left
          · intro w'
            go_simp
            with_reducible rfl
          rotate_left
          · simp only [Act.put, List.setIfInBounds_toArray, List.set_cons_zero, List.set_cons_succ, i64_w, i32_w]
            rfl
          refine pure_ (i := 1) (N := some 70) (v := ?_) (a' := ?_) (bsq 12 3) rfl rfl (by kernel_rfl) (fun _ _ _ h => h) (Or.inl ⟨by rfl, ?_⟩) ?_ ?_
          rotate_left
          · intro w'
            go_simp
            with_reducible rfl
          rotate_left
          · simp only [Act.put, List.setIfInBounds_toArray, List.set_cons_zero, List.set_cons_succ, i64_w, i32_w]
            rfl
          refine pure_ (i := 2) (N := some 71) (v := ?_) (a' := ?_) (bsq 12 7) rfl rfl (by kernel_rfl) (fun _ _ _ h => h) (Or.inl ⟨by rfl, ?_⟩) ?_ ?_
          rotate_left
          · intro w'
            go_simp
            with_reducible rfl
          rotate_left
          · simp only [Act.put, List.setIfInBounds_toArray, List.set_cons_zero, List.set_cons_succ, i64_w, i32_w]
            rfl
          refine pure_ (i := 4) (N := some 73) (v := ?_) (a' := ?_) (bsq 12 23) rfl rfl (by kernel_rfl) (fun _ _ _ h => h) (Or.inl ⟨by rfl, ?_⟩) ?_ ?_
          rotate_left
          · intro w'
            go_simp
            with_reducible rfl
          rotate_left
          · simp only [Act.put, List.setIfInBounds_toArray, List.set_cons_zero, List.set_cons_succ, i64_w, i32_w]
            rfl
          refine pure_ (i := 7) (N := some 76) (v := ?_) (a' := ?_) (bsq 12 151) rfl rfl (by kernel_rfl) (fun _ _ _ h => h) (Or.inl ⟨by rfl, ?_⟩) ?_ ?_
          rotate_left
          · intro w'
            go_simp
            with_reducible rfl
          rotate_left
          · simp only [Act.put, List.setIfInBounds_toArray, List.set_cons_zero, List.set_cons_succ, i64_w, i32_w]
            rfl
          refine take_ (i := 3) (N := some 72) (v := ?_) (a' := ?_) (bsq 12 159) rfl rfl (by kernel_rfl) (fun _ _ _ h => h) (Or.inl ⟨by rfl, ?_⟩) hHeld ?_ ?_
          rotate_left
          · rintro w' ⟨s0, s1, s2, s3⟩
            go_simp
            with_reducible rfl
          rotate_left
          · simp only [Act.put, List.setIfInBounds_toArray, List.set_cons_zero, List.set_cons_succ, i64_w, i32_w]
            rfl
          refine pure_ (i := 5) (N := some 74) (v := ?_) (a' := ?_) (bsq 12 191) rfl rfl (by kernel_rfl) (fun _ _ _ h => h) (Or.inl ⟨by rfl, ?_⟩) ?_ ?_
          rotate_left
          · intro w'
            go_simp
            with_reducible rfl
          rotate_left
          · simp only [Act.put, List.setIfInBounds_toArray, List.set_cons_zero, List.set_cons_succ, i64_w, i32_w]
            rfl
          refine take_ (i := 6) (N := some 75) (v := ?_) (a' := ?_) (bsq 12 255) rfl rfl (by kernel_rfl) (fun _ _ _ h => h) (Or.inl ⟨by rfl, ?_⟩) hHeld ?_ ?_
          rotate_left
          · rintro w' ⟨s0, s1, s2, s3⟩
            go_simp
            with_reducible rfl
          rotate_left
          · simp only [Act.put, List.setIfInBounds_toArray, List.set_cons_zero, List.set_cons_succ, i64_w, i32_w]
            rfl
          refine take_ (i := 8) (N := some 77) (v := ?_) (a' := ?_) (bsq 12 511) rfl rfl (by kernel_rfl) (fun _ _ _ h => h) (Or.inl ⟨by rfl, ?_⟩) hHeld ?_ ?_
          rotate_left
          · rintro w' ⟨s0, s1, s2, s3⟩
            go_simp
            with_reducible rfl
          rotate_left
          · simp only [Act.put, List.setIfInBounds_toArray, List.set_cons_zero, List.set_cons_succ, i64_w, i32_w]
            rfl
          refine pure_ (i := 9) (N := some 78) (v := ?_) (a' := ?_) (bsq 12 1023) rfl rfl (by kernel_rfl) (fun _ _ _ h => h) (Or.inl ⟨by rfl, ?_⟩) ?_ ?_
          rotate_left
          · intro w'
            go_simp
            with_reducible rfl
          rotate_left
          · simp only [Act.put, List.setIfInBounds_toArray, List.set_cons_zero, List.set_cons_succ, i64_w, i32_w]
            rfl
          refine pure_ (i := 10) (N := some 79) (v := ?_) (a' := ?_) (bsq 12 2047) rfl rfl (by kernel_rfl) (fun _ _ _ h => h) (Or.inl ⟨by rfl, ?_⟩) ?_ ?_
          rotate_left
          · intro w'
            go_simp
            with_reducible rfl
          rotate_left
          · simp only [Act.put, List.setIfInBounds_toArray, List.set_cons_zero, List.set_cons_succ, i64_w, i32_w]
            rfl
          refine pure_ (i := 11) (N := some 9) (v := ?_) (a' := ?_) (bsq 12 4095) rfl rfl (by kernel_rfl) (fun _ _ _ h => h) (Or.inl ⟨by rfl, ?_⟩) ?_ ?_
          rotate_left
          · intro w'
            go_simp
            with_reducible rfl
          rotate_left
          · simp only [Act.put, List.setIfInBounds_toArray, List.set_cons_zero, List.set_cons_succ, i64_w, i32_w]
            rfl
          refine done_ (by kernel_rfl) ?_
          go_wp2_with fail
          try rw [wi]
          go_roundg ki
          case measure => omega
          case rel => exact ⟨i + 1, some ad1, c1_, rfl, by rw [HFI.out]; rfl, ⟨by have := hk.out; omega⟩, ⟨blk_below K2_gc.out (below_drew1 (Below.refl _ _))⟩, ⟨blk_below K2_gr.out (below_drew1 (Below.refl _ _))⟩, ⟨blk_below K2_gx.out (below_drew1 (Below.refl _ _))⟩, ⟨HE.out.below (below_drew1 (Below.refl _ _))⟩, ⟨below_step B2.out (below_drew1 (Below.refl _ _))⟩⟩
      · obtain rfl : i = Nn := by omega
        have etn : tn.take i = tn := List.take_of_length_le (Nat.le_of_eq HNN.out)
        rw [etn] at LO ⊢
        clear etn
        by_cases hl : i < tab.length
        · have c1 : decide ((i : Int) < (tab.length : Int)) = true := decide_eq_true (by omega)
          have c2 : decide ((i : Int) < 130) = false := decide_eq_false (by omega)
          have xr := (blk_cell LR.out 1).trans rfl
          clear hn2 hkk hc
          go_wp2_with fail
          go_meet
          case rel => exact ⟨Ax, cx, rfl, rfl, LC, LR, LX, LO, LB⟩
        · have c1 : decide ((i : Int) < (tab.length : Int)) = false := decide_eq_false (by omega)
          have xr := (blk_cell LR.out 1).trans rfl
          clear hn2 hkk hc
          go_wp2_with fail
          go_meet
          case rel => exact ⟨Ax, cx, rfl, rfl, LC, LR, LX, LO, LB⟩
end Go.Proofs.Ytkgbhlcbjflnlaa.Fl
