/- Commands and settings: contracts by hand, and the laws over them. -/
import Derived.Test.YtkgbhlcbjflnlaaZOwn
import Derived.Test.YtkgbhlcbjflnlaaZCm
import Derived.Test.YtkgbhlcbjflnlaaZPl5
import Derived.Test.YtkgbhlcbjflnlaaZG49
import Derived.Deep.DeepCutAuto
import Derived.Deep.CutBlock
import Derived.Test.YtkgbhlcbjflnlaaZBs
namespace Go.Proofs.Ytkgbhlcbjflnlaa.Fl
open Go Go.RowKit Go.Proofs.YtkgbhlcbjflnlaaW.PrintWords Go.Proofs.YtkgbhlcbjflnlaaW.PrintLast Go.Proofs.YtkgbhlcbjflnlaaW.PrintMore Go.Proofs.Ytkgbhlcbjflnlaa.Mth Go.Proofs.Ytkgbhlcbjflnlaa.P Go.Proofs.Ytkgbhlcbjflnlaa.Own Go.Proofs
set_option linter.unusedVariables false
set_option linter.unusedSimpArgs false
/-! ### ControlBytes -/
def onN (b : Bool) : Nat := if b then 1 else 0
theorem byt_rx (n : Nat) (on : Bool) : ((⟨#[0]⟩ : ByteArray) ++ mk (lo 1 n)) ++ mk (lo 1 (onN on)) = rxB n on := by
  have b0 : Bt [0] := fun x hx => by rw [List.mem_singleton.1 hx]; decide
  rw [show (⟨#[0]⟩ : ByteArray) = mk [0] from rfl, mk_append _ _ b0 (lo_bt _ _), mk_append _ _ (b0.append (lo_bt _ _)) (lo_bt _ _), List.append_assoc]
  rfl
theorem byt_vl (v : Nat) (on : Bool) : ((⟨#[2]⟩ : ByteArray) ++ mk (lo 1 (1 - onN on))) ++ mk (lo 2 v) = vlanB v on := by
  have b0 : Bt [2] := fun x hx => by rw [List.mem_singleton.1 hx]; decide
  rw [show (⟨#[2]⟩ : ByteArray) = mk [2] from rfl, mk_append _ _ b0 (lo_bt _ _), mk_append _ _ (b0.append (lo_bt _ _)) (lo_bt _ _), List.append_assoc]
  cases on <;> rfl
theorem byt_pr (p : Nat) : (⟨#[4, 0]⟩ : ByteArray) ++ mk (lo 2 p) = pairsB p := by
  have b0 : Bt [4, 0] := fun x hx => by
    rcases List.mem_cons.1 hx with rfl | hx
    · decide
    · rw [List.mem_singleton.1 hx]; decide
  rw [show (⟨#[4, 0]⟩ : ByteArray) = mk [4, 0] from rfl, mk_append _ _ b0 (lo_bt _ _)]
  rfl
theorem byt_mc (m : ByteArray) : (⟨#[1, 1]⟩ : ByteArray) ++ m = macB m := by
  have b0 : Bt [1, 1] := fun x hx => by
    rcases List.mem_cons.1 hx with rfl | hx
    · decide
    · rw [List.mem_singleton.1 hx]; decide
  rw [show (⟨#[1, 1]⟩ : ByteArray) ++ m = mk [1, 1] ++ mk (B m) from by rw [mk_B]; rfl, mk_append _ _ b0 (B_bt _)]
  rfl
set_option maxHeartbeats 16000000 in
set_option maxRecDepth 100000 in
theorem bytes_c (O : Cm) (T : SlM) (w : World) (ho : MV w O T) (hz : (cat (O.us.take 20)).size + (cat (O.ms.take 20)).size + 8 ≤ 140737488355328) (hmz : O.m.size ≤ 140737488351232) :
    Calls Try.prog 8 #[.agg (cellsM O T)] w fun e w' => e = .returned (.bool true) ∧ Below w.heap.size w w' := by
  have HO := Aside0.mk ho
  have HZ := Aside0.mk hz
  have HMZ := Aside0.mk hmz
  obtain ⟨i9, j9, z9, s9, _⟩ := info_parts P.info9
  have h4 := ho.r4.2.1
  have h5 := ho.r5.2.1
  have t4 := (print_take_of (P := Try.prog) Value.string ByteArray.empty 22 9 .i64 Try.underlying22 j9 s9 T.A4 T.c4 O.us (min (O.us.length : Int) 20) (by omega) (by omega) ho.l4).1
  have t5 := (print_take_of (P := Try.prog) Value.string ByteArray.empty 22 9 .i64 Try.underlying22 j9 s9 T.A5 T.c5 O.ms (min (O.ms.length : Int) 20) (by omega) (by omega) ho.l5).1
  rw [show O.us.take (min (O.us.length : Int) 20).toNat = O.us.take 20 from take_min _ 20] at t4
  rw [show O.ms.take (min (O.ms.length : Int) 20).toNat = O.ms.take 20 from take_min _ 20] at t5
  obtain ⟨us, hus⟩ : ∃ l, O.us.take 20 = l := ⟨_, rfl⟩
  obtain ⟨ms, hms⟩ : ∃ l, O.ms.take 20 = l := ⟨_, rfl⟩
  have HU : Aside0 (ReadsOf Value.string ByteArray.empty w T.A4 us.length us ∧ us.length ≤ T.c4 ∧ us.length ≤ 20) := ⟨by
    rw [← hus]
    exact ⟨take_len ho.r4 20, by have := ho.l4; rw [List.length_take]; omega, by rw [List.length_take]; omega⟩⟩
  have HM : Aside0 (ReadsOf Value.string ByteArray.empty w T.A5 ms.length ms ∧ ms.length ≤ T.c5 ∧ ms.length ≤ 20) := ⟨by
    rw [← hms]
    exact ⟨take_len ho.r5 20, by have := ho.l5; rw [List.length_take]; omega, by rw [List.length_take]; omega⟩⟩
  have HCZ : Aside0 ((cat us).size + (cat ms).size + 8 ≤ 140737488355328) := ⟨by rw [← hus, ← hms]; exact hz⟩
  rw [hus] at t4
  rw [hms] at t5
  obtain ⟨kn, hkn, lkn⟩ := and_nat O.kn 32 (by decide)
  obtain ⟨df, hdf, ldf⟩ := and_nat O.df 16 (by decide)
  obtain ⟨n7, hn, ln⟩ := and_nat O.n 16 (by decide)
  obtain ⟨v7, hv, lv⟩ := and_nat O.v 24 (by decide)
  obtain ⟨p7, hp, lp⟩ := and_nat O.p 24 (by decide)
  have lkn : kn < 4294967296 := lkn
  have ldf : df < 65536 := ldf
  have ln : n7 < 65536 := ln
  have lv : v7 < 16777216 := lv
  have lp : p7 < 16777216 := lp
  have hkn' : Go.bits .and .i64 O.kn 4294967295 = (kn : Int) := hkn
  have hdf' : Go.bits .and .i64 O.df 65535 = (df : Int) := hdf
  have hn' : Go.bits .and .i64 O.n 65535 = (n7 : Int) := hn
  have hv' : Go.bits .and .i64 O.v 16777215 = (v7 : Int) := hv
  have hp' : Go.bits .and .i64 O.p 16777215 = (p7 : Int) := hp
  have HB5 := Aside0.mk (And.intro hn' (And.intro hv' hp'))
  obtain ⟨kz, hkz⟩ : ∃ kz, min O.key.size 60 = kz := ⟨_, rfl⟩
  have y1 : min (O.key.size : Int) 60 = (kz : Int) := by omega
  have y2 : min O.key.size 60 = kz := hkz
  have y4 : decide ((kz : Int) ≤ (O.key.size : Int)) = true := decide_eq_true (by omega)
  have y5 : ((kz : Int) ≤ (O.key.size : Int)) = True := eq_true (by omega)
  have y6 : (kz ≤ O.key.size) = True := eq_true (by omega)
  obtain ⟨key, hkey⟩ : ∃ k, O.key.extract 0 kz = k := ⟨_, rfl⟩
  have lkey : key.size ≤ 60 := by rw [← hkey]; simp; omega
  obtain ⟨tn, htn⟩ : ∃ l, lowT 65536 O.tab = l := ⟨_, rfl⟩
  have ltn : tn.length = min O.tab.length 130 := by rw [← htn]; exact lowT_len 65536 O.tab
  have gtn : ∀ i (h : i < tn.length) (h2 : i < O.tab.length), ((tn[i] : Nat) : Int) = O.tab[i] % 65536 := by
    subst htn
    exact fun i h h2 => lowT_get 65536 (by decide) O.tab i h h2
  have btn : ∀ q ∈ tn, q < 65536 := by rw [← htn]; exact lowT_lt 65536 (by decide) O.tab
  have GTN := Aside0.mk gtn
  have BTN := Aside0.mk btn
  have LTN := Aside0.mk ltn
  have LL := Aside0.mk (And.intro lkn (And.intro ldf (And.intro ln (And.intro lv (And.intro lp lkey)))))
  have Y := Aside0.mk (And.intro y1 (And.intro y2 (And.intro y4 (And.intro y5 y6))))
  have HK := Aside0.mk (And.intro hkn' (And.intro hdf' hkey))
  clear ho hz hmz j9 z9 s9 h4 h5 hus hms hkn hdf hn hv hp lkn ldf ln lv lp hkz lkey htn ltn gtn btn y1 y2 y4 y5 y6 hkn' hdf' hn' hv' hp' hkey
  have hu25 := Try.underlying25
  have hu27 := Try.underlying27
  have hu37 := Try.underlying37
  go_enter Try.func8, Try.ntmps8
  have hu22 := Try.underlying22
  have hu23 := Try.underlying23
  go_upto_region 1 with (fail)
  obtain ⟨w_1, hw_go⟩ : ∃ w_, w.alloc (.cells #[.int .i64 O.n, .int .i64 O.v, .int .i64 O.p, .bool O.on, .slice T.A4 O.us.length T.c4, .slice T.A5 O.ms.length T.c5, .string O.m, .int .i64 O.kn, .slice T.A8 O.tab.length T.c8, .string O.key, .int .i64 O.df] 37) = w_ := ⟨_, rfl⟩
  rw [hw_go]
  have z_go : w_1.heap.size = w.heap.size + 1 := by rw [← hw_go]; simp
  have ha_ : Below w.heap.size w w_1 := by rw [← hw_go]; exact below_alloc (Below.refl _ _) _
  have BX1 : Aside0 (w_1.heap[w.heap.size]? = some (.cells #[.int .i64 O.n, .int .i64 O.v, .int .i64 O.p, .bool O.on, .slice T.A4 O.us.length T.c4, .slice T.A5 O.ms.length T.c5, .string O.m, .int .i64 O.kn, .slice T.A8 O.tab.length T.c8, .string O.key, .int .i64 O.df] 37 (0, 0))) := ⟨by rw [← hw_go]; exact blk_new w _⟩
  have hgB : w.heap.size ≤ w.heap.size := ((Below.refl w.heap.size w)).size
  clear hw_go
  obtain ⟨go, hg_⟩ : ∃ g_, w.heap.size = g_ := ⟨_, rfl⟩
  have G_go : Aside0 (w.heap.size ≤ go) := ⟨Nat.le_trans hgB (Nat.le_of_eq hg_)⟩
  rw [hg_] at BX1 z_go
  (try rw [hg_])
  clear hgB
  clear hg_
  have B2 := Aside0.mk (below_step (Below.refl w.heap.size w) ha_)
  clear ha_ 

  refine start_ (n := 16) (S := fun w' => w'.cell? ⟨go, 4, none⟩ = some (.slice T.A4 O.us.length T.c4) ∧ w'.cell? ⟨go, 5, none⟩ = some (.slice T.A5 O.ms.length T.c5) ∧ Below w_1.heap.size w_1 w') (ds := []) (bsq 16 0) (by kernel_rfl) rfl rfl ⟨(blk_cell BX1.out 4).trans rfl, (blk_cell BX1.out 5).trans rfl, below_drew1 (Below.refl _ _)⟩ (fun hHeld => ?_)
  refine pure_ (i := 0) (N := some 12) (v := ?_) (a' := ?_) (bsq 16 1) rfl rfl (by kernel_rfl) (fun _ _ _ h => h) (Or.inl ⟨by rfl, ?_⟩) ?_ ?_
  rotate_left
  · intro w'
    go_simp
    with_reducible rfl
  rotate_left
  · simp only [Act.put, bq1, bq2, bq3, i64_w, i32_w]
    rfl
  refine pure_ (i := 2) (N := some 14) (v := ?_) (a' := ?_) (bsq 16 5) rfl rfl (by kernel_rfl) (fun _ _ _ h => h) (Or.inl ⟨by rfl, ?_⟩) ?_ ?_
  rotate_left
  · intro w'
    go_simp
    with_reducible rfl
  rotate_left
  · simp only [Act.put, bq1, bq2, bq3, i64_w, i32_w]
    rfl
  refine pure_ (i := 7) (N := some 19) (v := ?_) (a' := ?_) (bsq 16 133) rfl rfl (by kernel_rfl) (fun _ _ _ h => h) (Or.inl ⟨by rfl, ?_⟩) ?_ ?_
  rotate_left
  · intro w'
    go_simp
    with_reducible rfl
  rotate_left
  · simp only [Act.put, bq1, bq2, bq3, i64_w, i32_w]
    rfl
  refine pure_ (i := 9) (N := some 21) (v := ?_) (a' := ?_) (bsq 16 645) rfl rfl (by kernel_rfl) (fun _ _ _ h => h) (Or.inl ⟨by rfl, ?_⟩) ?_ ?_
  rotate_left
  · intro w'
    go_simp
    with_reducible rfl
  rotate_left
  · simp only [Act.put, bq1, bq2, bq3, i64_w, i32_w]
    rfl
  refine take_ (i := 1) (N := some 13) (v := ?_) (a' := ?_) (bsq 16 647) rfl rfl (by kernel_rfl) (fun _ _ _ h => h) (Or.inl ⟨by rfl, ?_⟩) hHeld ?_ ?_
  rotate_left
  · rintro w' ⟨s0, s1, s2⟩
    go_simp
    with_reducible rfl
  rotate_left
  · simp only [Act.put, bq1, bq2, bq3, i64_w, i32_w]
    rfl
  refine take_ (i := 3) (N := some 15) (v := ?_) (a' := ?_) (bsq 16 655) rfl rfl (by kernel_rfl) (fun _ _ _ h => h) (Or.inl ⟨by rfl, ?_⟩) hHeld ?_ ?_
  rotate_left
  · rintro w' ⟨s0, s1, s2⟩
    go_simp
    with_reducible rfl
  rotate_left
  · simp only [Act.put, bq1, bq2, bq3, i64_w, i32_w]
    rfl
  refine pure_ (i := 4) (N := some 16) (v := ?_) (a' := ?_) (bsq 16 671) rfl rfl (by kernel_rfl) (fun _ _ _ h => h) (Or.inl ⟨by rfl, ?_⟩) ?_ ?_
  rotate_left
  · intro w'
    go_simp
    with_reducible rfl
  rotate_left
  · simp only [Act.put, bq1, bq2, bq3, i64_w, i32_w]
    rfl
  refine pure_ (i := 5) (N := some 17) (v := ?_) (a' := ?_) (bsq 16 703) rfl rfl (by kernel_rfl) (fun _ _ _ h => h) (Or.inl ⟨by rfl, ?_⟩) ?_ ?_
  rotate_left
  · intro w'
    go_simp
    with_reducible rfl
  rotate_left
  · simp only [Act.put, bq1, bq2, bq3, i64_w, i32_w]
    rfl
  refine pure_ (i := 6) (N := some 18) (v := ?_) (a' := ?_) (bsq 16 767) rfl rfl (by kernel_rfl) (fun _ _ _ h => h) (Or.inl ⟨by rfl, ?_⟩) ?_ ?_
  rotate_left
  · intro w'
    go_simp
    with_reducible rfl
  rotate_left
  · simp only [Act.put, bq1, bq2, bq3, i64_w, i32_w]
    rfl
  refine pure_ (i := 14) (N := some 3) (v := ?_) (a' := ?_) (bsq 16 17151) rfl rfl (by kernel_rfl) (fun _ _ _ h => h) (Or.inl ⟨by rfl, ?_⟩) ?_ ?_
  rotate_left
  · intro w'
    go_simp
    with_reducible rfl
  rotate_left
  · simp only [Act.put, bq1, bq2, bq3, i64_w, i32_w]
    rfl
  refine take_ (i := 8) (N := some 20) (v := ?_) (a' := ?_) (bsq 16 17407) rfl rfl (by kernel_rfl) (fun _ _ _ h => h) (Or.inl ⟨by rfl, ?_⟩) hHeld ?_ ?_
  rotate_left
  · rintro w' ⟨s0, s1, s2⟩
    go_simp
    with_reducible rfl
  rotate_left
  · simp only [Act.put, bq1, bq2, bq3, i64_w, i32_w]
    rfl
  refine take_ (i := 10) (N := some 22) (v := ?_) (a' := ?_) (bsq 16 18431) rfl rfl (by kernel_rfl) (fun _ _ _ h => h) (Or.inl ⟨by rfl, ?_⟩) hHeld ?_ ?_
  rotate_left
  · rintro w' ⟨s0, s1, s2⟩
    go_simp
    with_reducible rfl
  rotate_left
  · simp only [Act.put, bq1, bq2, bq3, i64_w, i32_w]
    rfl
  refine pure_ (i := 11) (N := some 23) (v := ?_) (a' := ?_) (bsq 16 20479) rfl rfl (by kernel_rfl) (fun _ _ _ h => h) (Or.inl ⟨by rfl, ?_⟩) ?_ ?_
  rotate_left
  · intro w'
    go_simp
    with_reducible rfl
  rotate_left
  · simp only [Act.put, bq1, bq2, bq3, i64_w, i32_w]
    rfl
  refine pure_ (i := 12) (N := some 24) (v := ?_) (a' := ?_) (bsq 16 24575) rfl rfl (by kernel_rfl) (fun _ _ _ h => h) (Or.inl ⟨by rfl, ?_⟩) ?_ ?_
  rotate_left
  · intro w'
    go_simp
    with_reducible rfl
  rotate_left
  · simp only [Act.put, bq1, bq2, bq3, i64_w, i32_w]
    rfl
  refine pure_ (i := 13) (N := some 25) (v := ?_) (a' := ?_) (bsq 16 32767) rfl rfl (by kernel_rfl) (fun _ _ _ h => h) (Or.inl ⟨by rfl, ?_⟩) ?_ ?_
  rotate_left
  · intro w'
    go_simp
    with_reducible rfl
  rotate_left
  · simp only [Act.put, bq1, bq2, bq3, i64_w, i32_w]
    rfl
  refine pure_ (i := 15) (N := some 4) (v := ?_) (a' := ?_) (bsq 16 65535) rfl rfl (by kernel_rfl) (fun _ _ _ h => h) (Or.inl ⟨by rfl, ?_⟩) ?_ ?_
  rotate_left
  · intro w'
    go_simp
    with_reducible rfl
  rotate_left
  · simp only [Act.put, bq1, bq2, bq3, i64_w, i32_w]
    rfl
  refine done_ (by kernel_rfl) ?_
  have hb_ := below_drew1 (Below.refl w_1.heap.size w_1)
  obtain ⟨w_3, hw_⟩ : ∃ x, w_1.drew = x := ⟨_, rfl⟩
  rw [hw_] at hb_ ⊢
  clear hw_
  have B4 := Aside0.mk (below_step B2.out hb_)
  have K4_go := Aside0.mk (blk_below BX1.out hb_)
  clear hb_ B2 BX1
  clear t4 t5
  obtain ⟨y1, y2, y4, y5, y6⟩ := Y.out
  obtain ⟨hkn', hdf', hkey⟩ := HK.out
  go_upto_region 2 with fail
  refine start_ (n := 20) (S := fun w' => w'.cell? ⟨go, 7, none⟩ = some (.int .i64 O.kn) ∧ w'.cell? ⟨go, 10, none⟩ = some (.int .i64 O.df) ∧ w'.cell? ⟨go, 9, none⟩ = some (.string O.key) ∧ Below w_3.heap.size w_3 w') (ds := [19]) (bsq 20 0) (by kernel_rfl) rfl rfl ⟨(blk_cell K4_go.out 7).trans rfl, (blk_cell K4_go.out 10).trans rfl, (blk_cell K4_go.out 9).trans rfl, below_drew1 (Below.refl _ _)⟩ (fun hHeld => ?_)
  refine pure_ (i := 0) (N := some 26) (v := ?_) (a' := ?_) (bsq 20 1) rfl rfl (by kernel_rfl) (fun _ _ _ h => h) (Or.inl ⟨by rfl, ?_⟩) ?_ ?_
  rotate_left
  · intro w'
    go_simp
    with_reducible rfl
  rotate_left
  · simp only [Act.put, bq1, bq2, bq3, i64_w, i32_w]
    rfl
  refine pure_ (i := 1) (N := some 27) (v := ?_) (a' := ?_) (bsq 20 3) rfl rfl (by kernel_rfl) (fun _ _ _ h => h) (Or.inl ⟨by rfl, ?_⟩) ?_ ?_
  rotate_left
  · intro w'
    go_simp
    with_reducible rfl
  rotate_left
  · simp only [Act.put, bq1, bq2, bq3, i64_w, i32_w]
    rfl
  refine pure_ (i := 4) (N := some 30) (v := ?_) (a' := ?_) (bsq 20 19) rfl rfl (by kernel_rfl) (fun _ _ _ h => h) (Or.inl ⟨by rfl, ?_⟩) ?_ ?_
  rotate_left
  · intro w'
    go_simp
    with_reducible rfl
  rotate_left
  · simp only [Act.put, bq1, bq2, bq3, i64_w, i32_w]
    rfl
  refine pure_ (i := 5) (N := some 31) (v := ?_) (a' := ?_) (bsq 20 51) rfl rfl (by kernel_rfl) (fun _ _ _ h => h) (Or.inl ⟨by rfl, ?_⟩) ?_ ?_
  rotate_left
  · intro w'
    go_simp
    with_reducible rfl
  rotate_left
  · simp only [Act.put, bq1, bq2, bq3, i64_w, i32_w]
    rfl
  refine pure_ (i := 8) (N := some 34) (v := ?_) (a' := ?_) (bsq 20 307) rfl rfl (by kernel_rfl) (fun _ _ _ h => h) (Or.inl ⟨by rfl, ?_⟩) ?_ ?_
  rotate_left
  · intro w'
    go_simp
    with_reducible rfl
  rotate_left
  · simp only [Act.put, bq1, bq2, bq3, i64_w, i32_w]
    rfl
  refine pure_ (i := 9) (N := some 35) (v := ?_) (a' := ?_) (bsq 20 819) rfl rfl (by kernel_rfl) (fun _ _ _ h => h) (Or.inl ⟨by rfl, ?_⟩) ?_ ?_
  rotate_left
  · intro w'
    go_simp
    with_reducible rfl
  rotate_left
  · simp only [Act.put, bq1, bq2, bq3, i64_w, i32_w]
    rfl
  refine pure_ (i := 11) (N := some 37) (v := ?_) (a' := ?_) (bsq 20 2867) rfl rfl (by kernel_rfl) (fun _ _ _ h => h) (Or.inl ⟨by rfl, ?_⟩) ?_ ?_
  rotate_left
  · intro w'
    go_simp
    with_reducible rfl
  rotate_left
  · simp only [Act.put, bq1, bq2, bq3, i64_w, i32_w]
    rfl
  refine pure_ (i := 12) (N := some 38) (v := ?_) (a' := ?_) (bsq 20 6963) rfl rfl (by kernel_rfl) (fun _ _ _ h => h) (Or.inl ⟨by rfl, ?_⟩) ?_ ?_
  rotate_left
  · intro w'
    go_simp
    with_reducible rfl
  rotate_left
  · simp only [Act.put, bq1, bq2, bq3, i64_w, i32_w]
    rfl
  refine take_ (i := 2) (N := some 28) (v := ?_) (a' := ?_) (bsq 20 6967) rfl rfl (by kernel_rfl) (fun _ _ _ h => h) (Or.inl ⟨by rfl, ?_⟩) hHeld ?_ ?_
  rotate_left
  · rintro w' ⟨s0, s1, s2, s3⟩
    go_simp
    with_reducible rfl
  rotate_left
  · simp only [Act.put, bq1, bq2, bq3, i64_w, i32_w]
    rfl
  refine pure_ (i := 3) (N := some 29) (v := ?_) (a' := ?_) (bsq 20 6975) rfl rfl (by kernel_rfl) (fun _ _ _ h => h) (Or.inl ⟨by rfl, ?_⟩) ?_ ?_
  rotate_left
  · intro w'
    go_simp
    with_reducible rfl
  rotate_left
  · simp only [Act.put, bq1, bq2, bq3, i64_w, i32_w]
    rfl
  refine take_ (i := 6) (N := some 32) (v := ?_) (a' := ?_) (bsq 20 7039) rfl rfl (by kernel_rfl) (fun _ _ _ h => h) (Or.inl ⟨by rfl, ?_⟩) hHeld ?_ ?_
  rotate_left
  · rintro w' ⟨s0, s1, s2, s3⟩
    go_simp
    with_reducible rfl
  rotate_left
  · simp only [Act.put, bq1, bq2, bq3, i64_w, i32_w]
    rfl
  refine pure_ (i := 7) (N := some 33) (v := ?_) (a' := ?_) (bsq 20 7167) rfl rfl (by kernel_rfl) (fun _ _ _ h => h) (Or.inl ⟨by rfl, ?_⟩) ?_ ?_
  rotate_left
  · intro w'
    go_simp
    with_reducible rfl
  rotate_left
  · simp only [Act.put, bq1, bq2, bq3, i64_w, i32_w]
    rfl
  refine take_ (i := 10) (N := some 36) (v := ?_) (a' := ?_) (bsq 20 8191) rfl rfl (by kernel_rfl) (fun _ _ _ h => h) (Or.inl ⟨by rfl, ?_⟩) hHeld ?_ ?_
  rotate_left
  · rintro w' ⟨s0, s1, s2, s3⟩
    go_simp
    with_reducible rfl
  rotate_left
  · simp only [Act.put, bq1, bq2, bq3, i64_w, i32_w]
    rfl
  refine take_ (i := 13) (N := some 39) (v := ?_) (a' := ?_) (bsq 20 16383) rfl rfl (by kernel_rfl) (fun _ _ _ h => h) (Or.inl ⟨by rfl, ?_⟩) hHeld ?_ ?_
  rotate_left
  · rintro w' ⟨s0, s1, s2, s3⟩
    go_simp
    with_reducible rfl
  rotate_left
  · simp only [Act.put, bq1, bq2, bq3, i64_w, i32_w]
    rfl
  refine pure_ (i := 14) (N := some 40) (v := ?_) (a' := ?_) (bsq 20 32767) rfl rfl (by kernel_rfl) (fun _ _ _ h => h) (Or.inl ⟨by rfl, ?_⟩) ?_ ?_
  rotate_left
  · intro w'
    go_simp
    with_reducible rfl
  rotate_left
  · simp only [Act.put, bq1, bq2, bq3, i64_w, i32_w]
    rfl
  refine pure_ (i := 15) (N := some 41) (v := ?_) (a' := ?_) (bsq 20 65535) rfl rfl (by kernel_rfl) (fun _ _ _ h => h) (Or.inl ⟨by rfl, ?_⟩) ?_ ?_
  rotate_left
  · intro w'
    go_simp
    with_reducible rfl
  rotate_left
  · simp only [Act.put, bq1, bq2, bq3, i64_w, i32_w]
    rfl
  refine pure_ (i := 16) (N := some 42) (v := ?_) (a' := ?_) (bsq 20 131071) rfl rfl (by kernel_rfl) (fun _ _ _ h => h) (Or.inl ⟨by rfl, ?_⟩) ?_ ?_
  rotate_left
  · intro w'
    go_simp
    with_reducible rfl
  rotate_left
  · simp only [Act.put, bq1, bq2, bq3, i64_w, i32_w]
    rfl
  refine pure_ (i := 17) (N := some 43) (v := ?_) (a' := ?_) (bsq 20 262143) rfl rfl (by kernel_rfl) (fun _ _ _ h => h) (Or.inl ⟨by rfl, ?_⟩) ?_ ?_
  rotate_left
  · intro w'
    go_simp
    with_reducible rfl
  rotate_left
  · simp only [Act.put, bq1, bq2, bq3, i64_w, i32_w]
    rfl
  refine one_ (i := 18) (N := some 5) (bsq 20 524287) rfl rfl (by kernel_rfl) (by decide) (fun K hK => ?_)
  refine value_ (w1 := ?_) (v := ?_) (by rfl) rfl ?_ ?_
  rotate_left 2
  · go_simp
    constructor
    · rfl
    · rfl
  have KA := Aside0.mk (blk_new (w_3.drew) (.cells #[.int .i64 0, .slice none 0 0, .string ⟨#[]⟩, .int .i64 0] 27))
  have GA : Aside0 (w_3.heap.size ≤ w_3.drew.heap.size) := ⟨(hHeld.2.2.2).size⟩
  have BA := Aside0.mk (below_step (hHeld.2.2.2) (below_alloc (Below.refl _ _) (.cells #[.int .i64 0, .slice none 0 0, .string ⟨#[]⟩, .int .i64 0] 27)))
  refine hK.out _ _ ⟨pw_cell_below (below_alloc (Below.refl _ _) (.cells #[.int .i64 0, .slice none 0 0, .string ⟨#[]⟩, .int .i64 0] 27)) hHeld.1, pw_cell_below (below_alloc (Below.refl _ _) (.cells #[.int .i64 0, .slice none 0 0, .string ⟨#[]⟩, .int .i64 0] 27)) hHeld.2.1, pw_cell_below (below_alloc (Below.refl _ _) (.cells #[.int .i64 0, .slice none 0 0, .string ⟨#[]⟩, .int .i64 0] 27)) hHeld.2.2.1, below_step hHeld.2.2.2 (below_alloc (Below.refl _ _) (.cells #[.int .i64 0, .slice none 0 0, .string ⟨#[]⟩, .int .i64 0] 27))⟩ (fun hHeld => ?_)
  clear hK K
  refine norm_ (a' := ?_) ?_ ?_
  rotate_left
  · show Act.put _ (some 5) _ = _
    simp only [Act.put, bq1, bq2, bq3, i64_w, i32_w]
    rfl
  refine last_ (i := 19) (N := none) (bsq 20 1048575) rfl rfl (by kernel_rfl) (by decide) (fun K hK => ?_)
  refine skip_ (w1 := ?_) (by rfl) rfl ?_ ?_
  rotate_left
  · refine exec_store_part 27 (.tmp 5) (.tmp 43) ?_ w_3.heap.size 0 #[.int .i64 (kn : Int), .slice none 0 0, .string key, .int .i64 (df : Int)] ?_ ?_ 27 _ #[.int .i64 (kn : Int), .slice none 0 0, .string key, .int .i64 (df : Int)] KA.out (by kernel_rfl) (Nat.le_of_ble_eq_true rfl) (by kernel_rfl) rfl
    · rfl
    · rfl
    · rfl
  refine hK.out _ _ ?_
  clear hK K
  refine done_ (by kernel_rfl) ?_
  clear hkn' hdf' y1 y2 y4 y5 y6 hkey
  have hb_ := BA.out
  have hblk_ := KA.out
  have hge_ := GA.out
  clear BA KA GA
  obtain ⟨wx, hw_⟩ : ∃ x, w_3.drew.alloc (.cells #[.int .i64 0, .slice none 0 0, .string ⟨#[]⟩, .int .i64 0] 27) = x := ⟨_, rfl⟩
  rw [hw_] at hb_ hblk_ ⊢
  obtain ⟨gx, hg_⟩ : ∃ x, w_3.heap.size = x := ⟨_, rfl⟩
  have hq_ : w_3.drew.heap.size = gx := hg_
  rw [hq_] at hblk_ hge_
  rw [hg_]
  clear hw_ hg_ hq_
  have E_go_gx := Aside0.mk (Nat.lt_of_lt_of_le (blk_lt K4_go.out) hge_)
  have G_gx := Aside0.mk (Nat.le_trans (B4.out).size hge_)
  have BX_gx := Aside0.mk hblk_
  have B5 := Aside0.mk (below_step B4.out hb_)
  have K5_go := Aside0.mk (blk_below K4_go.out hb_)
  clear hb_ B4 K4_go
  clear hblk_ hge_
  obtain ⟨w_6, hw_⟩ : ∃ w_, wx.setRow gx #[.int .i64 (kn : Int), .slice none 0 0, .string key, .int .i64 (df : Int)] = w_ := ⟨_, rfl⟩
  have hu_ : Upd wx w_6 (fun k => k = gx) := by rw [← hw_]; exact Upd.setRow (Upd.refl wx (fun k => k = gx)) (.inl rfl) _
  have kf_ : w_6.heap[gx]? = some (.cells #[.int .i64 (kn : Int), .slice none 0 0, .string key, .int .i64 (df : Int)] 27 (0, 0)) := by rw [← hw_]; exact setRow_heap wx gx _ #[.int .i64 (kn : Int), .slice none 0 0, .string key, .int .i64 (df : Int)] 27 (0, 0) BX_gx.out
  rw [hw_]
  clear hw_
  have K7_gx := Aside0.mk (kf_)
  have B7 := Aside0.mk (B5.out.trans (hu_.toBelow (B := w.heap.size) (fun k hk => by rw [hk]; exact G_gx.out) (B5.out).size))
  have K7_go := Aside0.mk (hu_.blk K5_go.out (by have := E_go_gx.out; omega))
  clear hu_ B5 K5_go BX_gx
  clear kf_
  obtain ⟨Nn, hNn⟩ : ∃ n, tn.length = n := ⟨_, rfl⟩
  have HNN := Aside0.mk hNn
  have hN2 : Nn = min O.tab.length 130 := by rw [← hNn]; exact LTN.out
  have HN2 := Aside0.mk hN2
  clear hNn hN2
  go_upto_block 0 with fail
  go_cut [6] (fun v6 w' => ∃ (Ax : Option Addr) (cx : Nat), v6 = .int .i64 (Nn : Int) ∧ Aside0 (w'.heap[go]? = some (.cells #[.int .i64 O.n, .int .i64 O.v, .int .i64 O.p, .bool O.on, .slice T.A4 O.us.length T.c4, .slice T.A5 O.ms.length T.c5, .string O.m, .int .i64 O.kn, .slice T.A8 O.tab.length T.c8, .string O.key, .int .i64 O.df] 37 (0, 0))) ∧ Aside0 (w'.heap[gx]? = some (.cells #[.int .i64 (kn : Int), .slice Ax Nn cx, .string key, .int .i64 (df : Int)] 27 (0, 0))) ∧ Aside0 (OR w.heap.size w' 3 Ax Nn cx (encs (Value.int .i64) (intsOf tn))) ∧ Aside0 (Below w.heap.size w w'))
  case rest =>
    revert wc
    intro wq hcut
    obtain ⟨Ax, cx, rfl, LG, LX, LO, LB⟩ := hcut
    have hNn := HNN.out
    clear HN2
    subst hNn
    have l130 : tn.length ≤ 130 := by have := LTN.out; omega
    have L130 := Aside0.mk l130
    clear l130
    obtain ⟨on, hon⟩ : ∃ n, onN O.on = n := ⟨_, rfl⟩
    have HON := Aside0.mk hon
    clear hon
    have pc3 : wq.cell? ⟨go, 3, none⟩ = some (.bool O.on) := (blk_cell LG.out 3).trans rfl
    go_upto_if 69 with fail
    go_cut [7] (fun v w' => v = .int .i64 (on : Int) ∧ w' = wq)
    case first =>
      cases hO : O.on
      · have e : on = 0 := by rw [← HON.out, hO]; rfl
        rw [hO] at *
        go_wp2_with fail
        go_meet
        case rel => exact ⟨by rw [e]; rfl, rfl⟩
      · have e : on = 1 := by rw [← HON.out, hO]; rfl
        rw [hO] at *
        go_wp2_with fail
        go_meet
        case rel => exact ⟨by rw [e]; rfl, rfl⟩
    case rest =>
      obtain ⟨rfl, hw_⟩ := hcut
      rw [hw_]
      clear hw_ pc3
      obtain ⟨hn', hv', hp'⟩ := HB5.out
      go_upto_region 10 with fail
      refine start_ (n := 12) (S := fun w' => w'.cell? ⟨go, 0, none⟩ = some (.int .i64 O.n) ∧ w'.cell? ⟨go, 1, none⟩ = some (.int .i64 O.v) ∧ w'.cell? ⟨go, 2, none⟩ = some (.int .i64 O.p) ∧ Below wq.heap.size wq w') (ds := []) (bsq 12 0) (by kernel_rfl) rfl rfl ⟨(blk_cell LG.out 0).trans rfl, (blk_cell LG.out 1).trans rfl, (blk_cell LG.out 2).trans rfl, below_drew1 (Below.refl _ _)⟩ (fun hHeld => ?_)
      refine pure_ (i := 0) (N := some 70) (v := ?_) (a' := ?_) (bsq 12 1) rfl rfl (by kernel_rfl) (fun _ _ _ h => h) (Or.inl ⟨by rfl, ?_⟩) ?_ ?_
      rotate_left
      · intro w'
        go_simp
        with_reducible rfl
      rotate_left
      · simp only [Act.put, bq1, bq2, bq3, i64_w, i32_w]
        rfl
      refine pure_ (i := 3) (N := some 73) (v := ?_) (a' := ?_) (bsq 12 9) rfl rfl (by kernel_rfl) (fun _ _ _ h => h) (Or.inl ⟨by rfl, ?_⟩) ?_ ?_
      rotate_left
      · intro w'
        go_simp
        with_reducible rfl
      rotate_left
      · simp only [Act.put, bq1, bq2, bq3, i64_w, i32_w]
        rfl
      refine pure_ (i := 6) (N := some 76) (v := ?_) (a' := ?_) (bsq 12 73) rfl rfl (by kernel_rfl) (fun _ _ _ h => h) (Or.inl ⟨by rfl, ?_⟩) ?_ ?_
      rotate_left
      · intro w'
        go_simp
        with_reducible rfl
      rotate_left
      · simp only [Act.put, bq1, bq2, bq3, i64_w, i32_w]
        rfl
      refine take_ (i := 1) (N := some 71) (v := ?_) (a' := ?_) (bsq 12 75) rfl rfl (by kernel_rfl) (fun _ _ _ h => h) (Or.inl ⟨by rfl, ?_⟩) hHeld ?_ ?_
      rotate_left
      · rintro w' ⟨s0, s1, s2, s3⟩
        go_simp
        with_reducible rfl
      rotate_left
      · simp only [Act.put, bq1, bq2, bq3, i64_w, i32_w]
        rfl
      refine pure_ (i := 2) (N := some 72) (v := ?_) (a' := ?_) (bsq 12 79) rfl rfl (by kernel_rfl) (fun _ _ _ h => h) (Or.inl ⟨by rfl, ?_⟩) ?_ ?_
      rotate_left
      · intro w'
        go_simp
        with_reducible rfl
      rotate_left
      · simp only [Act.put, bq1, bq2, bq3, i64_w, i32_w]
        rfl
      refine pure_ (i := 9) (N := some 8) (v := ?_) (a' := ?_) (bsq 12 591) rfl rfl (by kernel_rfl) (fun _ _ _ h => h) (Or.inl ⟨by rfl, ?_⟩) ?_ ?_
      rotate_left
      · intro w'
        go_simp
        with_reducible rfl
      rotate_left
      · simp only [Act.put, bq1, bq2, bq3, i64_w, i32_w]
        rfl
      refine take_ (i := 4) (N := some 74) (v := ?_) (a' := ?_) (bsq 12 607) rfl rfl (by kernel_rfl) (fun _ _ _ h => h) (Or.inl ⟨by rfl, ?_⟩) hHeld ?_ ?_
      rotate_left
      · rintro w' ⟨s0, s1, s2, s3⟩
        go_simp
        with_reducible rfl
      rotate_left
      · simp only [Act.put, bq1, bq2, bq3, i64_w, i32_w]
        rfl
      refine pure_ (i := 5) (N := some 75) (v := ?_) (a' := ?_) (bsq 12 639) rfl rfl (by kernel_rfl) (fun _ _ _ h => h) (Or.inl ⟨by rfl, ?_⟩) ?_ ?_
      rotate_left
      · intro w'
        go_simp
        with_reducible rfl
      rotate_left
      · simp only [Act.put, bq1, bq2, bq3, i64_w, i32_w]
        rfl
      refine pure_ (i := 10) (N := some 9) (v := ?_) (a' := ?_) (bsq 12 1663) rfl rfl (by kernel_rfl) (fun _ _ _ h => h) (Or.inl ⟨by rfl, ?_⟩) ?_ ?_
      rotate_left
      · intro w'
        go_simp
        with_reducible rfl
      rotate_left
      · simp only [Act.put, bq1, bq2, bq3, i64_w, i32_w]
        rfl
      refine take_ (i := 7) (N := some 77) (v := ?_) (a' := ?_) (bsq 12 1791) rfl rfl (by kernel_rfl) (fun _ _ _ h => h) (Or.inl ⟨by rfl, ?_⟩) hHeld ?_ ?_
      rotate_left
      · rintro w' ⟨s0, s1, s2, s3⟩
        go_simp
        with_reducible rfl
      rotate_left
      · simp only [Act.put, bq1, bq2, bq3, i64_w, i32_w]
        rfl
      refine pure_ (i := 8) (N := some 78) (v := ?_) (a' := ?_) (bsq 12 2047) rfl rfl (by kernel_rfl) (fun _ _ _ h => h) (Or.inl ⟨by rfl, ?_⟩) ?_ ?_
      rotate_left
      · intro w'
        go_simp
        with_reducible rfl
      rotate_left
      · simp only [Act.put, bq1, bq2, bq3, i64_w, i32_w]
        rfl
      refine pure_ (i := 11) (N := some 10) (v := ?_) (a' := ?_) (bsq 12 4095) rfl rfl (by kernel_rfl) (fun _ _ _ h => h) (Or.inl ⟨by rfl, ?_⟩) ?_ ?_
      rotate_left
      · intro w'
        go_simp
        with_reducible rfl
      rotate_left
      · simp only [Act.put, bq1, bq2, bq3, i64_w, i32_w]
        rfl
      refine done_ (by kernel_rfl) ?_
      have hb_ := below_drew1 (Below.refl wq.heap.size wq)
      obtain ⟨w_1, hw_⟩ : ∃ x, wq.drew = x := ⟨_, rfl⟩
      rw [hw_] at hb_ ⊢
      clear hw_
      have B2 := Aside0.mk (below_step LB.out hb_)
      have K2_go := Aside0.mk (blk_below LG.out hb_)
      have K2_gx := Aside0.mk (blk_below LX.out hb_)
      have O2_X := Aside0.mk (LO.out.below hb_)
      clear hb_ LB LG LX LO
      clear hn' hv' hp'
      obtain ⟨s0, hs0⟩ : ∃ x, rxB n7 O.on = x := ⟨_, rfl⟩
      obtain ⟨t1, ht1⟩ : ∃ x, mk (lo 1 n7) = x := ⟨_, rfl⟩
      obtain ⟨t2, ht2⟩ : ∃ x, mk (lo 1 on) = x := ⟨_, rfl⟩
      obtain ⟨u1, hu1⟩ : ∃ x, (⟨#[0]⟩ : ByteArray) ++ t1 = x := ⟨_, rfl⟩
      have a1 : u1 ++ t2 = s0 := by rw [← hu1, ← ht1, ← ht2, ← hs0, ← HON.out]; exact byt_rx n7 O.on
      have z1 : t1.size = 1 := by rw [← ht1, mk_size, lo_length]
      have z2 : t2.size = 1 := by rw [← ht2, mk_size, lo_length]
      have z3 : u1.size = 2 := by rw [← hu1, ByteArray.size_append, z1]; rfl
      obtain ⟨sT, hsT⟩ : ∃ x, tableB us ms = x := ⟨_, rfl⟩
      obtain ⟨sM, hsM⟩ : ∃ x, macB O.m = x := ⟨_, rfl⟩
      have a2 : (⟨#[1, 1]⟩ : ByteArray) ++ O.m = sM := by rw [← hsM]; exact byt_mc O.m
      have z4 : (9223372036854775807 < 2 + O.m.size) = False := eq_false (by have := HMZ.out; omega)
      have z5 : (9223372036854775807 < u1.size + t2.size) = False := eq_false (by omega)
      have z6 : (9223372036854775807 < 1 + t1.size) = False := eq_false (by omega)
      have hon1 : on ≤ 1 := by rw [← HON.out]; cases O.on <;> decide
      have HON1 := Aside0.mk hon1
      have NRX : ∀ w, Calls Try.prog 14 #[.int .i64 (n7 : Int), .bool O.on] w fun e w' => e = .returned (.string s0) ∧ Below w.heap.size w w' := fun w => by
        rw [← hs0]
        exact rx_cmd n7 O.on w (by have := LL.out; omega)
      have NL1 : ∀ w, Calls Try.prog 26 #[.int .i64 (n7 : Int), .int .i64 1] w fun e w' => e = .returned (.string t1) ∧ Below w.heap.size w w' := fun w => by
        rw [← ht1]
        exact rlow_c n7 1 (by decide) (by have := LL.out; omega) w
      have NL2 : ∀ w, Calls Try.prog 26 #[.int .i64 (on : Int), .int .i64 1] w fun e w' => e = .returned (.string t2) ∧ Below w.heap.size w w' := fun w => by
        rw [← ht2]
        exact rlow_c on 1 (by decide) (by omega) w
      have NTB : ∀ w', Below w.heap.size w w' → Calls Try.prog 20 #[.slice T.A4 us.length T.c4, .slice T.A5 ms.length T.c5] w' fun e w'' => e = .returned (.string sT) ∧ Below w'.heap.size w' w'' := fun w' hb => by
        obtain ⟨r1, r2, r3⟩ := HU.out
        obtain ⟨q1, q2, q3⟩ := HM.out
        rw [← hsT]
        exact table_cmd T.A4 T.c4 us T.A5 T.c5 ms w' (r1.below hb) r2 (q1.below hb) q2 HCZ.out (by omega) (by omega)
      have NRT : ∀ w', Below w.heap.size w w' → Calls Try.prog 27 #[.slice T.A4 us.length T.c4, .slice T.A5 ms.length T.c5] w' fun e w'' => e = .returned (.string sT) ∧ Below w'.heap.size w' w'' := fun w' hb => by
        obtain ⟨r1, r2, r3⟩ := HU.out
        obtain ⟨q1, q2, q3⟩ := HM.out
        rw [← hsT]
        exact rtable_c T.A4 T.c4 us T.A5 T.c5 ms w' (r1.below hb) r2 (q1.below hb) q2 HCZ.out (by omega) (by omega)
      have NMC : ∀ w', Calls Try.prog 21 #[.string O.m] w' fun e w'' => e = .returned (.string sM) ∧ Below w'.heap.size w' w'' := fun w' => by
        rw [← hsM]
        exact mac_cmd O.m (by have := HMZ.out; omega) w'
      clear hs0 ht1 ht2 hsT hsM hon1
      go_upto_region 11 with fail
      refine start_ (n := 30) (S := fun w' => w'.cell? ⟨go, 3, none⟩ = some (.bool O.on) ∧ w'.cell? ⟨go, 6, none⟩ = some (.string O.m) ∧ Below w_1.heap.size w_1 w') (ds := []) (bsq 30 0) (by kernel_rfl) rfl rfl ⟨(blk_cell K2_go.out 3).trans rfl, (blk_cell K2_go.out 6).trans rfl, below_drew1 (Below.refl _ _)⟩ (fun hHeld => ?_)
      refine pure_ (i := 0) (N := some 79) (v := ?_) (a' := ?_) (bsq 30 1) rfl rfl (by kernel_rfl) (fun _ _ _ h => h) (Or.inl ⟨by rfl, ?_⟩) ?_ ?_
      rotate_left
      · intro w'
        go_simp
        with_reducible rfl
      rotate_left
      · simp only [Act.put, bq1, bq2, bq3, i64_w, i32_w]
        rfl
      refine pure_ (i := 1) (N := some 80) (v := ?_) (a' := ?_) (bsq 30 3) rfl rfl (by kernel_rfl) (fun _ _ _ h => h) (Or.inl ⟨by rfl, ?_⟩) ?_ ?_
      rotate_left
      · intro w'
        go_simp
        with_reducible rfl
      rotate_left
      · simp only [Act.put, bq1, bq2, bq3, i64_w, i32_w]
        rfl
      refine pure_ (i := 4) (N := some 83) (v := ?_) (a' := ?_) (bsq 30 19) rfl rfl (by kernel_rfl) (fun _ _ _ h => h) (Or.inl ⟨by rfl, ?_⟩) ?_ ?_
      rotate_left
      · intro w'
        go_simp
        with_reducible rfl
      rotate_left
      · simp only [Act.put, bq1, bq2, bq3, i64_w, i32_w]
        rfl
      refine pure_ (i := 7) (N := some 86) (v := ?_) (a' := ?_) (bsq 30 147) rfl rfl (by kernel_rfl) (fun _ _ _ h => h) (Or.inl ⟨by rfl, ?_⟩) ?_ ?_
      rotate_left
      · intro w'
        go_simp
        with_reducible rfl
      rotate_left
      · simp only [Act.put, bq1, bq2, bq3, i64_w, i32_w]
        rfl
      refine take_ (i := 2) (N := some 81) (v := ?_) (a' := ?_) (bsq 30 151) rfl rfl (by kernel_rfl) (fun _ _ _ h => h) (Or.inl ⟨by rfl, ?_⟩) hHeld ?_ ?_
      rotate_left
      · rintro w' ⟨s0, s1, s2⟩
        go_simp
        with_reducible rfl
      rotate_left
      · simp only [Act.put, bq1, bq2, bq3, i64_w, i32_w]
        rfl
      refine one_ (i := 3) (N := some 82) (bsq 30 159) rfl rfl (by kernel_rfl) (by decide) (fun K hK => ?_)
      refine goes_ Try.func14 (by kernel_rfl) rfl #[.int .i64 (n7 : Int), .bool O.on] (by rfl) rfl rfl (by simp only [List.map_toArray, List.map_cons, List.map_nil]; rfl) ?_
      with_reducible refine (NRX _).mono ?_
      rintro e x0 ⟨rfl, hc⟩
      refine ⟨_, rfl, ?_⟩
      have Hx0 := Aside0.mk hc
      clear hc
      refine hK.out _ _ ⟨pw_cell_below Hx0.out hHeld.1, pw_cell_below Hx0.out hHeld.2.1, below_step hHeld.2.2 Hx0.out⟩ (fun hHeld => ?_)
      clear hK K
      refine norm_ (a' := ?_) ?_ ?_
      rotate_left
      · show Act.put _ (some 82) _ = _
        simp only [Act.put, bq1, bq2, bq3, i64_w, i32_w]
        rfl
      refine one_ (i := 5) (N := some 84) (bsq 30 191) rfl rfl (by kernel_rfl) (by decide) (fun K hK => ?_)
      refine goes_ Try.func26 (by kernel_rfl) rfl #[.int .i64 (n7 : Int), .int .i64 1] (by rfl) rfl rfl (by simp only [List.map_toArray, List.map_cons, List.map_nil]; rfl) ?_
      with_reducible refine (NL1 _).mono ?_
      rintro e x1 ⟨rfl, hc⟩
      refine ⟨_, rfl, ?_⟩
      have Hx1 := Aside0.mk hc
      clear hc
      refine hK.out _ _ ⟨pw_cell_below Hx1.out hHeld.1, pw_cell_below Hx1.out hHeld.2.1, below_step hHeld.2.2 Hx1.out⟩ (fun hHeld => ?_)
      clear hK K
      refine norm_ (a' := ?_) ?_ ?_
      rotate_left
      · show Act.put _ (some 84) _ = _
        simp only [Act.put, bq1, bq2, bq3, i64_w, i32_w]
        rfl
      refine pure_ (i := 6) (N := some 85) (v := ?_) (a' := ?_) (bsq 30 255) rfl rfl (by kernel_rfl) (fun _ _ _ h => h) (Or.inl ⟨by rfl, ?_⟩) ?_ ?_
      rotate_left
      · intro w'
        go_simp
        with_reducible rfl
      rotate_left
      · simp only [Act.put, bq1, bq2, bq3, i64_w, i32_w]
        rfl
      refine one_ (i := 8) (N := some 87) (bsq 30 511) rfl rfl (by kernel_rfl) (by decide) (fun K hK => ?_)
      refine goes_ Try.func26 (by kernel_rfl) rfl #[.int .i64 (on : Int), .int .i64 1] (by rfl) rfl rfl (by simp only [List.map_toArray, List.map_cons, List.map_nil]; rfl) ?_
      with_reducible refine (NL2 _).mono ?_
      rintro e x2 ⟨rfl, hc⟩
      refine ⟨_, rfl, ?_⟩
      have Hx2 := Aside0.mk hc
      clear hc
      refine hK.out _ _ ⟨pw_cell_below Hx2.out hHeld.1, pw_cell_below Hx2.out hHeld.2.1, below_step hHeld.2.2 Hx2.out⟩ (fun hHeld => ?_)
      clear hK K
      refine norm_ (a' := ?_) ?_ ?_
      rotate_left
      · show Act.put _ (some 87) _ = _
        simp only [Act.put, bq1, bq2, bq3, i64_w, i32_w]
        rfl
      refine pure_ (i := 9) (N := some 88) (v := ?_) (a' := ?_) (bsq 30 1023) rfl rfl (by kernel_rfl) (fun _ _ _ h => h) (Or.inl ⟨by rfl, ?_⟩) ?_ ?_
      rotate_left
      · intro w'
        go_simp
        with_reducible rfl
      rotate_left
      · simp only [Act.put, bq1, bq2, bq3, i64_w, i32_w]
        rfl
      refine pure_ (i := 10) (N := some 89) (v := ?_) (a' := ?_) (bsq 30 2047) rfl rfl (by kernel_rfl) (fun _ _ _ h => h) (Or.inl ⟨by rfl, ?_⟩) ?_ ?_
      rotate_left
      · intro w'
        go_simp
        with_reducible rfl
      rotate_left
      · simp only [Act.put, bq1, bq2, bq3, i64_w, i32_w]
        rfl
      refine pure_ (i := 11) (N := some 90) (v := ?_) (a' := ?_) (bsq 30 4095) rfl rfl (by kernel_rfl) (fun _ _ _ h => h) (Or.inl ⟨by rfl, ?_⟩) ?_ ?_
      rotate_left
      · intro w'
        go_simp
        with_reducible rfl
      rotate_left
      · simp only [Act.put, bq1, bq2, bq3, i64_w, i32_w]
        rfl
      refine pure_ (i := 12) (N := some 91) (v := ?_) (a' := ?_) (bsq 30 8191) rfl rfl (by kernel_rfl) (fun _ _ _ h => h) (Or.inl ⟨by rfl, ?_⟩) ?_ ?_
      rotate_left
      · intro w'
        go_simp
        with_reducible rfl
      rotate_left
      · simp only [Act.put, bq1, bq2, bq3, i64_w, i32_w]
        rfl
      refine pure_ (i := 13) (N := some 92) (v := ?_) (a' := ?_) (bsq 30 16383) rfl rfl (by kernel_rfl) (fun _ _ _ h => h) (Or.inl ⟨by rfl, ?_⟩) ?_ ?_
      rotate_left
      · intro w'
        go_simp
        with_reducible rfl
      rotate_left
      · simp only [Act.put, bq1, bq2, bq3, i64_w, i32_w]
        rfl
      refine pure_ (i := 15) (N := some 94) (v := ?_) (a' := ?_) (bsq 30 49151) rfl rfl (by kernel_rfl) (fun _ _ _ h => h) (Or.inl ⟨by rfl, ?_⟩) ?_ ?_
      rotate_left
      · intro w'
        go_simp
        with_reducible rfl
      rotate_left
      · simp only [Act.put, bq1, bq2, bq3, i64_w, i32_w]
        rfl
      refine pure_ (i := 16) (N := some 95) (v := ?_) (a' := ?_) (bsq 30 114687) rfl rfl (by kernel_rfl) (fun _ _ _ h => h) (Or.inl ⟨by rfl, ?_⟩) ?_ ?_
      rotate_left
      · intro w'
        go_simp
        with_reducible rfl
      rotate_left
      · simp only [Act.put, bq1, bq2, bq3, i64_w, i32_w]
        rfl
      refine one_ (i := 14) (N := some 93) (bsq 30 131071) rfl rfl (by kernel_rfl) (by decide) (fun K hK => ?_)
      refine goes_ Try.func20 (by kernel_rfl) rfl #[.slice T.A4 us.length T.c4, .slice T.A5 ms.length T.c5] (by rfl) rfl rfl (by simp only [List.map_toArray, List.map_cons, List.map_nil]; rfl) ?_
      with_reducible refine (NTB _ (below_step B2.out (hHeld.2.2))).mono ?_
      rintro e x3 ⟨rfl, hc⟩
      refine ⟨_, rfl, ?_⟩
      have Hx3 := Aside0.mk hc
      clear hc
      refine hK.out _ _ ⟨pw_cell_below Hx3.out hHeld.1, pw_cell_below Hx3.out hHeld.2.1, below_step hHeld.2.2 Hx3.out⟩ (fun hHeld => ?_)
      clear hK K
      refine norm_ (a' := ?_) ?_ ?_
      rotate_left
      · show Act.put _ (some 93) _ = _
        simp only [Act.put, bq1, bq2, bq3, i64_w, i32_w]
        rfl
      refine one_ (i := 17) (N := some 96) (bsq 30 262143) rfl rfl (by kernel_rfl) (by decide) (fun K hK => ?_)
      refine goes_ Try.func27 (by kernel_rfl) rfl #[.slice T.A4 us.length T.c4, .slice T.A5 ms.length T.c5] (by rfl) rfl rfl (by simp only [List.map_toArray, List.map_cons, List.map_nil]; rfl) ?_
      with_reducible refine (NRT _ (below_step B2.out (hHeld.2.2))).mono ?_
      rintro e x4 ⟨rfl, hc⟩
      refine ⟨_, rfl, ?_⟩
      have Hx4 := Aside0.mk hc
      clear hc
      refine hK.out _ _ ⟨pw_cell_below Hx4.out hHeld.1, pw_cell_below Hx4.out hHeld.2.1, below_step hHeld.2.2 Hx4.out⟩ (fun hHeld => ?_)
      clear hK K
      refine norm_ (a' := ?_) ?_ ?_
      rotate_left
      · show Act.put _ (some 96) _ = _
        simp only [Act.put, bq1, bq2, bq3, i64_w, i32_w]
        rfl
      refine pure_ (i := 18) (N := some 97) (v := ?_) (a' := ?_) (bsq 30 524287) rfl rfl (by kernel_rfl) (fun _ _ _ h => h) (Or.inl ⟨by rfl, ?_⟩) ?_ ?_
      rotate_left
      · intro w'
        go_simp
        with_reducible rfl
      rotate_left
      · simp only [Act.put, bq1, bq2, bq3, i64_w, i32_w]
        rfl
      refine pure_ (i := 19) (N := some 98) (v := ?_) (a' := ?_) (bsq 30 1048575) rfl rfl (by kernel_rfl) (fun _ _ _ h => h) (Or.inl ⟨by rfl, ?_⟩) ?_ ?_
      rotate_left
      · intro w'
        go_simp
        with_reducible rfl
      rotate_left
      · simp only [Act.put, bq1, bq2, bq3, i64_w, i32_w]
        rfl
      refine pure_ (i := 20) (N := some 99) (v := ?_) (a' := ?_) (bsq 30 2097151) rfl rfl (by kernel_rfl) (fun _ _ _ h => h) (Or.inl ⟨by rfl, ?_⟩) ?_ ?_
      rotate_left
      · intro w'
        go_simp
        with_reducible rfl
      rotate_left
      · simp only [Act.put, bq1, bq2, bq3, i64_w, i32_w]
        rfl
      refine pure_ (i := 21) (N := some 100) (v := ?_) (a' := ?_) (bsq 30 4194303) rfl rfl (by kernel_rfl) (fun _ _ _ h => h) (Or.inl ⟨by rfl, ?_⟩) ?_ ?_
      rotate_left
      · intro w'
        go_simp
        with_reducible rfl
      rotate_left
      · simp only [Act.put, bq1, bq2, bq3, i64_w, i32_w]
        rfl
      refine pure_ (i := 24) (N := some 103) (v := ?_) (a' := ?_) (bsq 30 20971519) rfl rfl (by kernel_rfl) (fun _ _ _ h => h) (Or.inl ⟨by rfl, ?_⟩) ?_ ?_
      rotate_left
      · intro w'
        go_simp
        with_reducible rfl
      rotate_left
      · simp only [Act.put, bq1, bq2, bq3, i64_w, i32_w]
        rfl
      refine take_ (i := 22) (N := some 101) (v := ?_) (a' := ?_) (bsq 30 25165823) rfl rfl (by kernel_rfl) (fun _ _ _ h => h) (Or.inl ⟨by rfl, ?_⟩) hHeld ?_ ?_
      rotate_left
      · rintro w' ⟨s0, s1, s2⟩
        go_simp
        with_reducible rfl
      rotate_left
      · simp only [Act.put, bq1, bq2, bq3, i64_w, i32_w]
        rfl
      refine take_ (i := 25) (N := some 104) (v := ?_) (a' := ?_) (bsq 30 58720255) rfl rfl (by kernel_rfl) (fun _ _ _ h => h) (Or.inl ⟨by rfl, ?_⟩) hHeld ?_ ?_
      rotate_left
      · rintro w' ⟨s0, s1, s2⟩
        go_simp
        with_reducible rfl
      rotate_left
      · simp only [Act.put, bq1, bq2, bq3, i64_w, i32_w]
        rfl
      refine pure_ (i := 26) (N := some 105) (v := ?_) (a' := ?_) (bsq 30 125829119) rfl rfl (by kernel_rfl) (fun _ _ _ h => h) (Or.inl ⟨by rfl, ?_⟩) ?_ ?_
      rotate_left
      · intro w'
        go_simp
        with_reducible rfl
      rotate_left
      · simp only [Act.put, bq1, bq2, bq3, i64_w, i32_w]
        rfl
      refine one_ (i := 23) (N := some 102) (bsq 30 134217727) rfl rfl (by kernel_rfl) (by decide) (fun K hK => ?_)
      refine goes_ Try.func21 (by kernel_rfl) rfl #[.string O.m] (by rfl) rfl rfl (by simp only [List.map_toArray, List.map_cons, List.map_nil]; rfl) ?_
      with_reducible refine (NMC _).mono ?_
      rintro e x5 ⟨rfl, hc⟩
      refine ⟨_, rfl, ?_⟩
      have Hx5 := Aside0.mk hc
      clear hc
      have HBX := Aside0.mk (below_step (hHeld.2.2) Hx5.out)
      refine hK.out _ _ ⟨pw_cell_below Hx5.out hHeld.1, pw_cell_below Hx5.out hHeld.2.1, below_step hHeld.2.2 Hx5.out⟩ (fun hHeld => ?_)
      clear hK K
      refine norm_ (a' := ?_) ?_ ?_
      rotate_left
      · show Act.put _ (some 102) _ = _
        simp only [Act.put, bq1, bq2, bq3, i64_w, i32_w]
        rfl
      refine pure_ (i := 27) (N := some 106) (v := ?_) (a' := ?_) (bsq 30 268435455) rfl rfl (by kernel_rfl) (fun _ _ _ h => h) (Or.inl ⟨by rfl, ?_⟩) ?_ ?_
      rotate_left
      · intro w'
        go_simp
        with_reducible rfl
      rotate_left
      · simp only [Act.put, bq1, bq2, bq3, i64_w, i32_w]
        rfl
      refine pure_ (i := 28) (N := some 107) (v := ?_) (a' := ?_) (bsq 30 536870911) rfl rfl (by kernel_rfl) (fun _ _ _ h => h) (Or.inl ⟨by rfl, ?_⟩) ?_ ?_
      rotate_left
      · intro w'
        go_simp
        with_reducible rfl
      rotate_left
      · simp only [Act.put, bq1, bq2, bq3, i64_w, i32_w]
        rfl
      refine pure_ (i := 29) (N := some 11) (v := ?_) (a' := ?_) (bsq 30 1073741823) rfl rfl (by kernel_rfl) (fun _ _ _ h => h) (Or.inl ⟨by rfl, ?_⟩) ?_ ?_
      rotate_left
      · intro w'
        go_simp
        with_reducible rfl
      rotate_left
      · simp only [Act.put, bq1, bq2, bq3, i64_w, i32_w]
        rfl
      refine done_ (by kernel_rfl) ?_
      clear Hx0 Hx1 Hx2 Hx3 Hx4 Hx5 NRX NL1 NL2 NTB NRT NMC a1 a2 z1 z2 z3 z4 z5 z6 hu1
      have hb_ := HBX.out
      clear HBX
      have B3 := Aside0.mk (below_step B2.out hb_)
      have K3_go := Aside0.mk (blk_below K2_go.out hb_)
      have K3_gx := Aside0.mk (blk_below K2_gx.out hb_)
      have O3_X := Aside0.mk (O2_X.out.below hb_)
      clear hb_ B2 K2_go K2_gx O2_X
      as_aux_lemma =>
        obtain ⟨sV, hsV⟩ : ∃ x, vlanB v7 O.on = x := ⟨_, rfl⟩
        obtain ⟨t3, ht3⟩ : ∃ x, mk (lo 1 (1 - on)) = x := ⟨_, rfl⟩
        obtain ⟨t4, ht4⟩ : ∃ x, mk (lo 2 v7) = x := ⟨_, rfl⟩
        obtain ⟨u2, hu2⟩ : ∃ x, (⟨#[2]⟩ : ByteArray) ++ t3 = x := ⟨_, rfl⟩
        have a1 : u2 ++ t4 = sV := by rw [← hu2, ← ht3, ← ht4, ← hsV, ← HON.out]; exact byt_vl v7 O.on
        obtain ⟨sP, hsP⟩ : ∃ x, pairsB p7 = x := ⟨_, rfl⟩
        obtain ⟨t5, ht5⟩ : ∃ x, mk (lo 2 p7) = x := ⟨_, rfl⟩
        have a2 : (⟨#[4, 0]⟩ : ByteArray) ++ t5 = sP := by rw [← ht5, ← hsP]; exact byt_pr p7
        have z1 : t3.size = 1 := by rw [← ht3, mk_size, lo_length]
        have z2 : t4.size = 2 := by rw [← ht4, mk_size, lo_length]
        have z3 : u2.size = 2 := by rw [← hu2, ByteArray.size_append, z1]; rfl
        have z4 : t5.size = 2 := by rw [← ht5, mk_size, lo_length]
        have z5 : (9223372036854775807 < u2.size + t4.size) = False := eq_false (by omega)
        have z6 : (9223372036854775807 < 1 + t3.size) = False := eq_false (by omega)
        have z7 : (9223372036854775807 < 2 + t5.size) = False := eq_false (by omega)
        obtain ⟨sR, hsR⟩ : ∃ x, ruleB kn tn key df p7 = x := ⟨_, rfl⟩
        obtain ⟨on2, hon2⟩ : ∃ n, 1 - on = n := ⟨_, rfl⟩
        have hsub : IntKind.i64.wrap (1 - (on : Int)) = (on2 : Int) := by
          rw [IntKind.wrap_i64]
          have := HON1.out
          omega
        have NVL : ∀ w, Calls Try.prog 15 #[.int .i64 (v7 : Int), .bool O.on] w fun e w' => e = .returned (.string sV) ∧ Below w.heap.size w w' := fun w => by
          rw [← hsV]
          exact vlan_cmd v7 O.on w (by have := LL.out; omega)
        have NL3 : ∀ w, Calls Try.prog 26 #[.int .i64 (on2 : Int), .int .i64 1] w fun e w' => e = .returned (.string t3) ∧ Below w.heap.size w w' := fun w => by
          rw [← ht3, hon2]
          exact rlow_c on2 1 (by decide) (by omega) w
        have NL4 : ∀ w, Calls Try.prog 26 #[.int .i64 (v7 : Int), .int .i64 2] w fun e w' => e = .returned (.string t4) ∧ Below w.heap.size w w' := fun w => by
          rw [← ht4]
          exact rlow_c v7 2 (by decide) (by have := LL.out; omega) w
        have NPR : ∀ w, Calls Try.prog 17 #[.int .i64 (p7 : Int)] w fun e w' => e = .returned (.string sP) ∧ Below w.heap.size w w' := fun w => by
          rw [← hsP]
          exact pairs_cmd p7 w (by have := LL.out; omega)
        have NL5 : ∀ w, Calls Try.prog 26 #[.int .i64 (p7 : Int), .int .i64 2] w fun e w' => e = .returned (.string t5) ∧ Below w.heap.size w w' := fun w => by
          rw [← ht5]
          exact rlow_c p7 2 (by decide) (by have := LL.out; omega) w
        have NRL : ∀ w', ReadsOf (Value.int .i64) 0 w' Ax tn.length (intsOf tn) → tn.length ≤ cx → Calls Try.prog 23 #[.agg #[.int .i64 (kn : Int), .slice Ax tn.length cx, .string key, .int .i64 (df : Int)], .int .i64 (p7 : Int)] w' fun e w'' => e = .returned (.string sR) ∧ Below w'.heap.size w' w'' := fun w' h1 h2 => by
          rw [← hsR]
          exact rules_cmd kn Ax cx tn key df p7 w' (by have := LL.out; omega) (by have := LL.out; omega) (by have := LL.out; omega) (fun q hq => by have := BTN.out q hq; omega) (by have := L130.out; omega) (by have := LL.out; omega) h1 h2
        have NRR : ∀ w', ReadsOf (Value.int .i64) 0 w' Ax tn.length (intsOf tn) → tn.length ≤ cx → Calls Try.prog 28 #[.agg #[.int .i64 (kn : Int), .slice Ax tn.length cx, .string key, .int .i64 (df : Int)], .int .i64 (p7 : Int)] w' fun e w'' => e = .returned (.string sR) ∧ Below w'.heap.size w' w'' := fun w' h1 h2 => by
          rw [← hsR]
          exact rrules_c kn Ax cx tn key df p7 w' (by have := LL.out; omega) (by have := LL.out; omega) (by have := LL.out; omega) (fun q hq => by have := BTN.out q hq; omega) (by have := L130.out; omega) (by have := LL.out; omega) h1 h2
        clear hsV ht3 ht4 hsP ht5 hsR hon2
        go_upto_region 12 with fail
        refine start_ (n := 33) (S := fun w' => w'.heap[gx]? = some (.cells #[.int .i64 (kn : Int), .slice Ax tn.length cx, .string key, .int .i64 (df : Int)] 27 (0, 0)) ∧ w'.cell? ⟨go, 3, none⟩ = some (.bool O.on) ∧ Below x5.heap.size x5 w') (ds := []) (bsq 33 0) (by kernel_rfl) rfl rfl ⟨(blk_below K3_gx.out (below_drew1 (Below.refl _ _))), (blk_cell K3_go.out 3).trans rfl, below_drew1 (Below.refl _ _)⟩ (fun hHeld => ?_)
        refine pure_ (i := 0) (N := some 108) (v := ?_) (a' := ?_) (bsq 33 1) rfl rfl (by kernel_rfl) (fun _ _ _ h => h) (Or.inl ⟨by rfl, ?_⟩) ?_ ?_
        rotate_left
        · intro w'
          go_simp
          with_reducible rfl
        rotate_left
        · simp only [Act.put, bq1, bq2, bq3, i64_w, i32_w]
          rfl
        refine pure_ (i := 1) (N := some 109) (v := ?_) (a' := ?_) (bsq 33 3) rfl rfl (by kernel_rfl) (fun _ _ _ h => h) (Or.inl ⟨by rfl, ?_⟩) ?_ ?_
        rotate_left
        · intro w'
          go_simp
          with_reducible rfl
        rotate_left
        · simp only [Act.put, bq1, bq2, bq3, i64_w, i32_w]
          rfl
        refine pure_ (i := 2) (N := some 110) (v := ?_) (a' := ?_) (bsq 33 7) rfl rfl (by kernel_rfl) (fun _ _ _ h => h) (Or.inl ⟨by rfl, ?_⟩) ?_ ?_
        rotate_left
        · intro w'
          go_simp
          with_reducible rfl
        rotate_left
        · simp only [Act.put, bq1, bq2, bq3, i64_w, i32_w]
          rfl
        refine pure_ (i := 3) (N := some 111) (v := ?_) (a' := ?_) (bsq 33 15) rfl rfl (by kernel_rfl) (fun _ _ _ h => h) (Or.inl ⟨by rfl, ?_⟩) ?_ ?_
        rotate_left
        · intro w'
          go_simp
          with_reducible rfl
        rotate_left
        · simp only [Act.put, bq1, bq2, bq3, i64_w, i32_w]
          rfl
        refine pure_ (i := 6) (N := some 114) (v := ?_) (a' := ?_) (bsq 33 79) rfl rfl (by kernel_rfl) (fun _ _ _ h => h) (Or.inl ⟨by rfl, ?_⟩) ?_ ?_
        rotate_left
        · intro w'
          go_simp
          with_reducible rfl
        rotate_left
        · simp only [Act.put, bq1, bq2, bq3, i64_w, i32_w]
          rfl
        refine pure_ (i := 7) (N := some 115) (v := ?_) (a' := ?_) (bsq 33 207) rfl rfl (by kernel_rfl) (fun _ _ _ h => h) (Or.inl ⟨by rfl, ?_⟩) ?_ ?_
        rotate_left
        · intro w'
          go_simp
          with_reducible rfl
        rotate_left
        · simp only [Act.put, bq1, bq2, bq3, i64_w, i32_w]
          rfl
        refine pure_ (i := 10) (N := some 118) (v := ?_) (a' := ?_) (bsq 33 1231) rfl rfl (by kernel_rfl) (fun _ _ _ h => h) (Or.inl ⟨by rfl, ?_⟩) ?_ ?_
        rotate_left
        · intro w'
          go_simp
          with_reducible rfl
        rotate_left
        · simp only [Act.put, bq1, bq2, bq3, i64_w, i32_w]
          rfl
        refine take_ (i := 4) (N := some 112) (v := ?_) (a' := ?_) (bsq 33 1247) rfl rfl (by kernel_rfl) (fun _ _ _ h => h) (Or.inl ⟨by rfl, ?_⟩) hHeld ?_ ?_
        rotate_left
        · rintro w' ⟨s0, s1, s2⟩
          go_simp
          with_reducible rfl
        rotate_left
        · simp only [Act.put, bq1, bq2, bq3, i64_w, i32_w]
          rfl
        refine one_ (i := 5) (N := some 113) (bsq 33 1279) rfl rfl (by kernel_rfl) (by decide) (fun K hK => ?_)
        refine goes_ Try.func15 (by kernel_rfl) rfl #[.int .i64 (v7 : Int), .bool O.on] (by rfl) rfl rfl (by simp only [List.map_toArray, List.map_cons, List.map_nil]; rfl) ?_
        with_reducible refine (NVL _).mono ?_
        rintro e x0 ⟨rfl, hc⟩
        refine ⟨_, rfl, ?_⟩
        have Hx0 := Aside0.mk hc
        clear hc
        refine hK.out _ _ ⟨(blk_below hHeld.1 Hx0.out), pw_cell_below Hx0.out hHeld.2.1, below_step hHeld.2.2 Hx0.out⟩ (fun hHeld => ?_)
        clear hK K
        refine norm_ (a' := ?_) ?_ ?_
        rotate_left
        · show Act.put _ (some 113) _ = _
          simp only [Act.put, bq1, bq2, bq3, i64_w, i32_w]
          rfl
        refine one_ (i := 8) (N := some 116) (bsq 33 1535) rfl rfl (by kernel_rfl) (by decide) (fun K hK => ?_)
        refine goes_ Try.func26 (by kernel_rfl) rfl #[.int .i64 (on2 : Int), .int .i64 1] (by rfl) rfl rfl (by simp only [List.map_toArray, List.map_cons, List.map_nil]; rfl) ?_
        with_reducible refine (NL3 _).mono ?_
        rintro e x1 ⟨rfl, hc⟩
        refine ⟨_, rfl, ?_⟩
        have Hx1 := Aside0.mk hc
        clear hc
        refine hK.out _ _ ⟨(blk_below hHeld.1 Hx1.out), pw_cell_below Hx1.out hHeld.2.1, below_step hHeld.2.2 Hx1.out⟩ (fun hHeld => ?_)
        clear hK K
        refine norm_ (a' := ?_) ?_ ?_
        rotate_left
        · show Act.put _ (some 116) _ = _
          simp only [Act.put, bq1, bq2, bq3, i64_w, i32_w]
          rfl
        refine pure_ (i := 9) (N := some 117) (v := ?_) (a' := ?_) (bsq 33 2047) rfl rfl (by kernel_rfl) (fun _ _ _ h => h) (Or.inl ⟨by rfl, ?_⟩) ?_ ?_
        rotate_left
        · intro w'
          go_simp
          with_reducible rfl
        rotate_left
        · simp only [Act.put, bq1, bq2, bq3, i64_w, i32_w]
          rfl
        refine one_ (i := 11) (N := some 119) (bsq 33 4095) rfl rfl (by kernel_rfl) (by decide) (fun K hK => ?_)
        refine goes_ Try.func26 (by kernel_rfl) rfl #[.int .i64 (v7 : Int), .int .i64 2] (by rfl) rfl rfl (by simp only [List.map_toArray, List.map_cons, List.map_nil]; rfl) ?_
        with_reducible refine (NL4 _).mono ?_
        rintro e x2 ⟨rfl, hc⟩
        refine ⟨_, rfl, ?_⟩
        have Hx2 := Aside0.mk hc
        clear hc
        refine hK.out _ _ ⟨(blk_below hHeld.1 Hx2.out), pw_cell_below Hx2.out hHeld.2.1, below_step hHeld.2.2 Hx2.out⟩ (fun hHeld => ?_)
        clear hK K
        refine norm_ (a' := ?_) ?_ ?_
        rotate_left
        · show Act.put _ (some 119) _ = _
          simp only [Act.put, bq1, bq2, bq3, i64_w, i32_w]
          rfl
        refine pure_ (i := 12) (N := some 120) (v := ?_) (a' := ?_) (bsq 33 8191) rfl rfl (by kernel_rfl) (fun _ _ _ h => h) (Or.inl ⟨by rfl, ?_⟩) ?_ ?_
        rotate_left
        · intro w'
          go_simp
          with_reducible rfl
        rotate_left
        · simp only [Act.put, bq1, bq2, bq3, i64_w, i32_w]
          rfl
        refine pure_ (i := 13) (N := some 121) (v := ?_) (a' := ?_) (bsq 33 16383) rfl rfl (by kernel_rfl) (fun _ _ _ h => h) (Or.inl ⟨by rfl, ?_⟩) ?_ ?_
        rotate_left
        · intro w'
          go_simp
          with_reducible rfl
        rotate_left
        · simp only [Act.put, bq1, bq2, bq3, i64_w, i32_w]
          rfl
        refine pure_ (i := 14) (N := some 122) (v := ?_) (a' := ?_) (bsq 33 32767) rfl rfl (by kernel_rfl) (fun _ _ _ h => h) (Or.inl ⟨by rfl, ?_⟩) ?_ ?_
        rotate_left
        · intro w'
          go_simp
          with_reducible rfl
        rotate_left
        · simp only [Act.put, bq1, bq2, bq3, i64_w, i32_w]
          rfl
        refine pure_ (i := 15) (N := some 123) (v := ?_) (a' := ?_) (bsq 33 65535) rfl rfl (by kernel_rfl) (fun _ _ _ h => h) (Or.inl ⟨by rfl, ?_⟩) ?_ ?_
        rotate_left
        · intro w'
          go_simp
          with_reducible rfl
        rotate_left
        · simp only [Act.put, bq1, bq2, bq3, i64_w, i32_w]
          rfl
        refine pure_ (i := 16) (N := some 124) (v := ?_) (a' := ?_) (bsq 33 131071) rfl rfl (by kernel_rfl) (fun _ _ _ h => h) (Or.inl ⟨by rfl, ?_⟩) ?_ ?_
        rotate_left
        · intro w'
          go_simp
          with_reducible rfl
        rotate_left
        · simp only [Act.put, bq1, bq2, bq3, i64_w, i32_w]
          rfl
        refine pure_ (i := 18) (N := some 126) (v := ?_) (a' := ?_) (bsq 33 393215) rfl rfl (by kernel_rfl) (fun _ _ _ h => h) (Or.inl ⟨by rfl, ?_⟩) ?_ ?_
        rotate_left
        · intro w'
          go_simp
          with_reducible rfl
        rotate_left
        · simp only [Act.put, bq1, bq2, bq3, i64_w, i32_w]
          rfl
        refine one_ (i := 17) (N := some 125) (bsq 33 524287) rfl rfl (by kernel_rfl) (by decide) (fun K hK => ?_)
        refine goes_ Try.func17 (by kernel_rfl) rfl #[.int .i64 (p7 : Int)] (by rfl) rfl rfl (by simp only [List.map_toArray, List.map_cons, List.map_nil]; rfl) ?_
        with_reducible refine (NPR _).mono ?_
        rintro e x3 ⟨rfl, hc⟩
        refine ⟨_, rfl, ?_⟩
        have Hx3 := Aside0.mk hc
        clear hc
        refine hK.out _ _ ⟨(blk_below hHeld.1 Hx3.out), pw_cell_below Hx3.out hHeld.2.1, below_step hHeld.2.2 Hx3.out⟩ (fun hHeld => ?_)
        clear hK K
        refine norm_ (a' := ?_) ?_ ?_
        rotate_left
        · show Act.put _ (some 125) _ = _
          simp only [Act.put, bq1, bq2, bq3, i64_w, i32_w]
          rfl
        refine one_ (i := 19) (N := some 127) (bsq 33 1048575) rfl rfl (by kernel_rfl) (by decide) (fun K hK => ?_)
        refine goes_ Try.func26 (by kernel_rfl) rfl #[.int .i64 (p7 : Int), .int .i64 2] (by rfl) rfl rfl (by simp only [List.map_toArray, List.map_cons, List.map_nil]; rfl) ?_
        with_reducible refine (NL5 _).mono ?_
        rintro e x4 ⟨rfl, hc⟩
        refine ⟨_, rfl, ?_⟩
        have Hx4 := Aside0.mk hc
        clear hc
        refine hK.out _ _ ⟨(blk_below hHeld.1 Hx4.out), pw_cell_below Hx4.out hHeld.2.1, below_step hHeld.2.2 Hx4.out⟩ (fun hHeld => ?_)
        clear hK K
        refine norm_ (a' := ?_) ?_ ?_
        rotate_left
        · show Act.put _ (some 127) _ = _
          simp only [Act.put, bq1, bq2, bq3, i64_w, i32_w]
          rfl
        refine pure_ (i := 20) (N := some 128) (v := ?_) (a' := ?_) (bsq 33 2097151) rfl rfl (by kernel_rfl) (fun _ _ _ h => h) (Or.inl ⟨by rfl, ?_⟩) ?_ ?_
        rotate_left
        · intro w'
          go_simp
          with_reducible rfl
        rotate_left
        · simp only [Act.put, bq1, bq2, bq3, i64_w, i32_w]
          rfl
        refine pure_ (i := 21) (N := some 129) (v := ?_) (a' := ?_) (bsq 33 4194303) rfl rfl (by kernel_rfl) (fun _ _ _ h => h) (Or.inl ⟨by rfl, ?_⟩) ?_ ?_
        rotate_left
        · intro w'
          go_simp
          with_reducible rfl
        rotate_left
        · simp only [Act.put, bq1, bq2, bq3, i64_w, i32_w]
          rfl
        refine pure_ (i := 22) (N := some 130) (v := ?_) (a' := ?_) (bsq 33 8388607) rfl rfl (by kernel_rfl) (fun _ _ _ h => h) (Or.inl ⟨by rfl, ?_⟩) ?_ ?_
        rotate_left
        · intro w'
          go_simp
          with_reducible rfl
        rotate_left
        · simp only [Act.put, bq1, bq2, bq3, i64_w, i32_w]
          rfl
        refine pure_ (i := 23) (N := some 131) (v := ?_) (a' := ?_) (bsq 33 16777215) rfl rfl (by kernel_rfl) (fun _ _ _ h => h) (Or.inl ⟨by rfl, ?_⟩) ?_ ?_
        rotate_left
        · intro w'
          go_simp
          with_reducible rfl
        rotate_left
        · simp only [Act.put, bq1, bq2, bq3, i64_w, i32_w]
          rfl
        refine pure_ (i := 25) (N := some 133) (v := ?_) (a' := ?_) (bsq 33 50331647) rfl rfl (by kernel_rfl) (fun _ _ _ h => h) (Or.inl ⟨by rfl, ?_⟩) ?_ ?_
        rotate_left
        · intro w'
          go_simp
          with_reducible rfl
        rotate_left
        · simp only [Act.put, bq1, bq2, bq3, i64_w, i32_w]
          rfl
        refine pure_ (i := 28) (N := some 136) (v := ?_) (a' := ?_) (bsq 33 318767103) rfl rfl (by kernel_rfl) (fun _ _ _ h => h) (Or.inl ⟨by rfl, ?_⟩) ?_ ?_
        rotate_left
        · intro w'
          go_simp
          with_reducible rfl
        rotate_left
        · simp only [Act.put, bq1, bq2, bq3, i64_w, i32_w]
          rfl
        refine take_ (i := 24) (N := some 132) (v := ?_) (a' := ?_) (bsq 33 335544319) rfl rfl (by kernel_rfl) (fun _ _ _ h => h) (Or.inl ⟨by rfl, ?_⟩) hHeld ?_ ?_
        rotate_left
        · rintro w' ⟨s0, s1, s2⟩
          refine exec_load_part 27 (.tmp 5) ?_ gx 0 ?_ 27 #[.int .i64 (kn : Int), .slice Ax tn.length cx, .string key, .int .i64 (df : Int)] (#[.int .i64 (kn : Int), .slice Ax tn.length cx, .string key, .int .i64 (df : Int)]) (0, 0) _ s0 Try.underlying27 rfl (by kernel_rfl) rfl
          · rfl
          · rfl
        rotate_left
        · simp only [Act.put, bq1, bq2, bq3, i64_w, i32_w]
          rfl
        refine take_ (i := 27) (N := some 135) (v := ?_) (a' := ?_) (bsq 33 469762047) rfl rfl (by kernel_rfl) (fun _ _ _ h => h) (Or.inl ⟨by rfl, ?_⟩) hHeld ?_ ?_
        rotate_left
        · rintro w' ⟨s0, s1, s2⟩
          refine exec_load_part 27 (.tmp 5) ?_ gx 0 ?_ 27 #[.int .i64 (kn : Int), .slice Ax tn.length cx, .string key, .int .i64 (df : Int)] (#[.int .i64 (kn : Int), .slice Ax tn.length cx, .string key, .int .i64 (df : Int)]) (0, 0) _ s0 Try.underlying27 rfl (by kernel_rfl) rfl
          · rfl
          · rfl
        rotate_left
        · simp only [Act.put, bq1, bq2, bq3, i64_w, i32_w]
          rfl
        refine one_ (i := 26) (N := some 134) (bsq 33 536870911) rfl rfl (by kernel_rfl) (by decide) (fun K hK => ?_)
        refine goes_ Try.func23 (by kernel_rfl) rfl #[.agg #[.int .i64 (kn : Int), .slice Ax tn.length cx, .string key, .int .i64 (df : Int)], .int .i64 (p7 : Int)] (by rfl) rfl rfl (by simp only [List.map_toArray, List.map_cons, List.map_nil]; rfl) ?_
        with_reducible refine (NRL _ (own_reads_of' (O3_X.out.below (hHeld.2.2)).h) (own_cap O3_X.out.h)).mono ?_
        rintro e x6 ⟨rfl, hc⟩
        refine ⟨_, rfl, ?_⟩
        have Hx6 := Aside0.mk hc
        clear hc
        refine hK.out _ _ ⟨(blk_below hHeld.1 Hx6.out), pw_cell_below Hx6.out hHeld.2.1, below_step hHeld.2.2 Hx6.out⟩ (fun hHeld => ?_)
        clear hK K
        refine norm_ (a' := ?_) ?_ ?_
        rotate_left
        · show Act.put _ (some 134) _ = _
          simp only [Act.put, bq1, bq2, bq3, i64_w, i32_w]
          rfl
        refine one_ (i := 29) (N := some 137) (bsq 33 1073741823) rfl rfl (by kernel_rfl) (by decide) (fun K hK => ?_)
        refine goes_ Try.func28 (by kernel_rfl) rfl #[.agg #[.int .i64 (kn : Int), .slice Ax tn.length cx, .string key, .int .i64 (df : Int)], .int .i64 (p7 : Int)] (by rfl) rfl rfl (by simp only [List.map_toArray, List.map_cons, List.map_nil]; rfl) ?_
        with_reducible refine (NRR _ (own_reads_of' (O3_X.out.below (hHeld.2.2)).h) (own_cap O3_X.out.h)).mono ?_
        rintro e x7 ⟨rfl, hc⟩
        refine ⟨_, rfl, ?_⟩
        have Hx7 := Aside0.mk hc
        clear hc
        have HBX := Aside0.mk (below_step (hHeld.2.2) Hx7.out)
        refine hK.out _ _ ⟨(blk_below hHeld.1 Hx7.out), pw_cell_below Hx7.out hHeld.2.1, below_step hHeld.2.2 Hx7.out⟩ (fun hHeld => ?_)
        clear hK K
        refine norm_ (a' := ?_) ?_ ?_
        rotate_left
        · show Act.put _ (some 137) _ = _
          simp only [Act.put, bq1, bq2, bq3, i64_w, i32_w]
          rfl
        refine pure_ (i := 30) (N := some 138) (v := ?_) (a' := ?_) (bsq 33 2147483647) rfl rfl (by kernel_rfl) (fun _ _ _ h => h) (Or.inl ⟨by rfl, ?_⟩) ?_ ?_
        rotate_left
        · intro w'
          go_simp
          with_reducible rfl
        rotate_left
        · simp only [Act.put, bq1, bq2, bq3, i64_w, i32_w]
          rfl
        refine pure_ (i := 31) (N := some 139) (v := ?_) (a' := ?_) (bsq 33 4294967295) rfl rfl (by kernel_rfl) (fun _ _ _ h => h) (Or.inl ⟨by rfl, ?_⟩) ?_ ?_
        rotate_left
        · intro w'
          go_simp
          with_reducible rfl
        rotate_left
        · simp only [Act.put, bq1, bq2, bq3, i64_w, i32_w]
          rfl
        refine pure_ (i := 32) (N := some 11) (v := ?_) (a' := ?_) (bsq 33 8589934591) rfl rfl (by kernel_rfl) (fun _ _ _ h => h) (Or.inl ⟨by rfl, ?_⟩) ?_ ?_
        rotate_left
        · intro w'
          go_simp
          with_reducible rfl
        rotate_left
        · simp only [Act.put, bq1, bq2, bq3, i64_w, i32_w]
          rfl
        refine done_ (by kernel_rfl) ?_
        clear Hx0 Hx1 Hx2 Hx3 Hx4 Hx6 Hx7 NVL NL3 NL4 NPR NL5 NRL NRR a1 a2 z1 z2 z3 z4 z5 z6 z7 hu2 hsub
        have hb_ := HBX.out
        clear HBX
        have B4 := Aside0.mk (below_step B3.out hb_)
        have K4_go := Aside0.mk (blk_below K3_go.out hb_)
        have K4_gx := Aside0.mk (blk_below K3_gx.out hb_)
        have O4_X := Aside0.mk (O3_X.out.below hb_)
        clear hb_ B3 K3_go K3_gx O3_X
        go_wp2_with fail
        refine (fixed_c _).mono ?_
        rintro e w_5 ⟨rfl, hb_⟩
        go_wp2_with fail
        go_ret
        exact ⟨rfl, below_step B4.out hb_⟩
  go_wp2_with fail
  go_loopg [6] Nn (fun gk v6 w' => ∃ (i : Nat) (Ax : Option Addr) (cx : Nat), v6 = .int .i64 (i : Int) ∧ Aside0 (i + gk = Nn) ∧ Aside0 (w'.heap[go]? = some (.cells #[.int .i64 O.n, .int .i64 O.v, .int .i64 O.p, .bool O.on, .slice T.A4 O.us.length T.c4, .slice T.A5 O.ms.length T.c5, .string O.m, .int .i64 O.kn, .slice T.A8 O.tab.length T.c8, .string O.key, .int .i64 O.df] 37 (0, 0))) ∧ Aside0 (w'.heap[gx]? = some (.cells #[.int .i64 (kn : Int), .slice Ax i cx, .string key, .int .i64 (df : Int)] 27 (0, 0))) ∧ Aside0 (OR w.heap.size w' 3 Ax i cx (encs (Value.int .i64) (intsOf (tn.take i)))) ∧ Aside0 (Below w.heap.size w w'))
  case atStart => exact ⟨0, none, 0, rfl, ⟨by omega⟩, K7_go, K7_gx, ⟨⟨by rw [List.take_zero]; exact own_nil _ _ _ _, .inr rfl⟩⟩, B7⟩
  case round =>
    obtain ⟨i, Ax, cx, rfl, hk, LG, LX, LO, LB⟩ := hrel
    have hkk := hk.out
    have hn2 := HN2.out
    have wi : IntKind.i64.wrap ((i : Int) + 1) = ((i + 1 : Nat) : Int) := by rw [IntKind.wrap_i64]; omega
    by_cases hc : i < Nn
    · skip
      have c1 : decide ((i : Int) < (O.tab.length : Int)) = true := decide_eq_true (by omega)
      have c2 : decide ((i : Int) < 130) = true := decide_eq_true (by omega)
      have c3 : decide (0 ≤ (i : Int)) = true := decide_eq_true (by omega)
      have c4 : ((i : Int) < (O.tab.length : Int)) = True := eq_true (by omega)
      have c5 : (i < O.tab.length) = True := eq_true (by omega)
      have c6 : (0 ≤ (i : Int)) = True := eq_true (by omega)
      obtain ⟨ki, rfl⟩ : ∃ m, gk = m + 1 := ⟨gk - 1, by omega⟩
      have htab : i < O.tab.length := by omega
      have hit : i < tn.length := by rw [HNN.out]; exact hc
      obtain ⟨ad, had, hcell⟩ := (HO.out.r8.below LB.out).2.2 (by omega)
      have hcl0 := hcell i htab
      obtain ⟨x, hx⟩ : ∃ x, O.tab.getD i 0 = x := ⟨_, rfl⟩
      rw [hx] at hcl0
      obtain ⟨q, hq⟩ : ∃ q, tn[i] = q := ⟨_, rfl⟩
      have hbits : Go.bits .and .i64 x 65535 = (q : Int) := by
        rw [show Go.bits .and .i64 x 65535 = x % 65536 from and_i64 x 16 (by decide), ← hq, GTN.out i hit htab, ← hx, List.getD_eq_getElem?_getD, List.getElem?_eq_getElem htab]
        rfl
      have HQ := Aside0.mk hq
      have HIT := Aside0.mk hit
      have HWI := Aside0.mk wi
      have hk2 := hk.out
      have LI : Aside0 (i < 130) := ⟨by omega⟩
      have LG_ := LG.out
      rw [had] at LG_
      have LGA := Aside0.mk LG_
      have HAD := Aside0.mk had
      clear LG_ hx hq hcell hkk hn2 hk2 hc htab
      have pc8 : wr.cell? ⟨go, 8, none⟩ = some (.slice (some ad) O.tab.length T.c8) := (blk_cell LGA.out 8).trans rfl
      go_upto_region 6 with fail
      clear pc8 had
      refine start_ (n := 13) (S := fun w' => w'.cell? ⟨gx, 1, none⟩ = some (.slice Ax i cx) ∧ w'.cell? ⟨go, 8, none⟩ = some (.slice (some ad) O.tab.length T.c8) ∧ w'.cell? (ad.add i) = some (.int .i64 x) ∧ Below wr.heap.size wr w') (ds := [10, 12]) (bsq 13 0) (by kernel_rfl) rfl rfl ⟨(blk_cell LX.out 1).trans rfl, (blk_cell LGA.out 8).trans rfl, hcl0, below_drew1 (Below.refl _ _)⟩ (fun hHeld => ?_)
      refine pure_ (i := 0) (N := some 56) (v := ?_) (a' := ?_) (bsq 13 1) rfl rfl (by kernel_rfl) (fun _ _ _ h => h) (Or.inl ⟨by rfl, ?_⟩) ?_ ?_
      rotate_left
      · intro w'
        go_simp
        with_reducible rfl
      rotate_left
      · simp only [Act.put, bq1, bq2, bq3, i64_w, i32_w]
        rfl
      refine pure_ (i := 2) (N := some 58) (v := ?_) (a' := ?_) (bsq 13 5) rfl rfl (by kernel_rfl) (fun _ _ _ h => h) (Or.inl ⟨by rfl, ?_⟩) ?_ ?_
      rotate_left
      · intro w'
        go_simp
        with_reducible rfl
      rotate_left
      · simp only [Act.put, bq1, bq2, bq3, i64_w, i32_w]
        rfl
      refine pure_ (i := 3) (N := some 59) (v := ?_) (a' := ?_) (bsq 13 13) rfl rfl (by kernel_rfl) (fun _ _ _ h => h) (Or.inl ⟨by rfl, ?_⟩) ?_ ?_
      rotate_left
      · intro w'
        go_simp
        with_reducible rfl
      rotate_left
      · simp only [Act.put, bq1, bq2, bq3, i64_w, i32_w]
        rfl
      refine pure_ (i := 5) (N := some 61) (v := ?_) (a' := ?_) (bsq 13 45) rfl rfl (by kernel_rfl) (fun _ _ _ h => h) (Or.inl ⟨by rfl, ?_⟩) ?_ ?_
      rotate_left
      · intro w'
        go_simp
        with_reducible rfl
      rotate_left
      · simp only [Act.put, bq1, bq2, bq3, i64_w, i32_w]
        rfl
      refine take_ (i := 1) (N := some 57) (v := ?_) (a' := ?_) (bsq 13 47) rfl rfl (by kernel_rfl) (fun _ _ _ h => h) (Or.inl ⟨by rfl, ?_⟩) hHeld ?_ ?_
      rotate_left
      · rintro w' ⟨s0, s1, s2, s3⟩
        go_simp
        with_reducible rfl
      rotate_left
      · simp only [Act.put, bq1, bq2, bq3, i64_w, i32_w]
        rfl
      refine take_ (i := 4) (N := some 60) (v := ?_) (a' := ?_) (bsq 13 63) rfl rfl (by kernel_rfl) (fun _ _ _ h => h) (Or.inl ⟨by rfl, ?_⟩) hHeld ?_ ?_
      rotate_left
      · rintro w' ⟨s0, s1, s2, s3⟩
        go_simp
        with_reducible rfl
      rotate_left
      · simp only [Act.put, bq1, bq2, bq3, i64_w, i32_w]
        rfl
      refine pure_ (i := 6) (N := some 62) (v := ?_) (a' := ?_) (bsq 13 127) rfl rfl (by kernel_rfl) (fun _ _ _ h => h) (Or.inl ⟨by rfl, ?_⟩) ?_ ?_
      rotate_left
      · intro w'
        go_simp
        with_reducible rfl
      rotate_left
      · simp only [Act.put, bq1, bq2, bq3, i64_w, i32_w]
        rfl
      refine take_ (i := 7) (N := some 63) (v := ?_) (a' := ?_) (bsq 13 255) rfl rfl (by kernel_rfl) (fun _ _ _ h => h) (Or.inl ⟨by rfl, ?_⟩) hHeld ?_ ?_
      rotate_left
      · rintro w' ⟨s0, s1, s2, s3⟩
        go_simp
        with_reducible rfl
      rotate_left
      · simp only [Act.put, bq1, bq2, bq3, i64_w, i32_w]
        rfl
      refine pure_ (i := 8) (N := some 64) (v := ?_) (a' := ?_) (bsq 13 511) rfl rfl (by kernel_rfl) (fun _ _ _ h => h) (Or.inl ⟨by rfl, ?_⟩) ?_ ?_
      rotate_left
      · intro w'
        go_simp
        with_reducible rfl
      rotate_left
      · simp only [Act.put, bq1, bq2, bq3, i64_w, i32_w]
        rfl
      refine one_ (i := 9) (N := some 65) (bsq 13 1023) rfl rfl (by kernel_rfl) (by decide) (fun K hK => ?_)
      refine value_ (w1 := ?_) (v := ?_) (by rfl) rfl ?_ ?_
      rotate_left 2
      · go_simp
        constructor
        · rfl
        · rfl
      have BA := Aside0.mk (hHeld.2.2.2)
      refine hK.out _ _ ⟨pw_cell_below (below_alloc (Below.refl _ _) (.cells #[.int .i64 (q : Int)] 3)) hHeld.1, pw_cell_below (below_alloc (Below.refl _ _) (.cells #[.int .i64 (q : Int)] 3)) hHeld.2.1, pw_cell_below (below_alloc (Below.refl _ _) (.cells #[.int .i64 (q : Int)] 3)) hHeld.2.2.1, below_step hHeld.2.2.2 (below_alloc (Below.refl _ _) (.cells #[.int .i64 (q : Int)] 3))⟩ (fun hHeld => ?_)
      clear hK K
      refine norm_ (a' := ?_) ?_ ?_
      rotate_left
      · show Act.put _ (some 65) _ = _
        simp only [Act.put, bq1, bq2, bq3, i64_w, i32_w]
        rfl
      refine last_ (i := 10) (N := some 66) (bsq 13 2047) rfl rfl (by kernel_rfl) (by decide) (fun K hK => ?_)
      have KG0 := blk_below LGA.out BA.out
      have KX0 := blk_below LX.out BA.out
      have LO0 := LO.out.below BA.out
      refine step_append_cells (W := wr.drew) (w0 := w) w.heap.size (by rfl) (.tmp 57) (.tmp 65) 23 3 (.int .i64 0) 1 8 rfl Try.underlying23 info3 rfl (by decide) (by decide) (.slice Ax i cx) i (encs (Value.int .i64) (intsOf (tn.take i))) [.int .i64 (q : Int)] rfl rfl rfl (by simp [Value.oneCell']) LO0.h (below_step LB.out BA.out) (Nat.le_trans LB.out.size BA.out.size) (by have := LI.out; omega) ?_
      intro v1 wa ho1 hb1 hg1 hat1
      obtain ⟨A1, c1_, rfl⟩ := own_slice ho1
      have HO1 : Aside0 (OR w.heap.size wa 3 A1 (i + 1) c1_ (encs (Value.int .i64) (intsOf (tn.take i)) ++ [.int .i64 (q : Int)])) := ⟨⟨ho1, .inr rfl⟩⟩
      have HB1 := Aside0.mk hb1
      have KG1 := Aside0.mk (blk_grown KG0 hg1 (own_ne LO0.h KG0 (by decide)))
      have KX1 := Aside0.mk (blk_grown KX0 hg1 (own_ne LO0.h KX0 (by decide)))
      have xc1 : wa.cell? ⟨gx, 1, none⟩ = some (.slice Ax i cx) := (blk_cell KX1.out 1).trans rfl
      have xf1 := blk_frozen KX1.out 1
      clear ho1 hb1 hg1 hat1 KG0 KX0 LO0
      refine hK.out _ _ ?_
      clear hK K
      refine norm_ (a' := ?_) ?_ ?_
      rotate_left
      · show Act.put _ (some 66) _ = _
        simp only [Act.put, bq1, bq2, bq3, i64_w, i32_w]
        rfl
      refine pure_ (i := 11) (N := some 67) (v := ?_) (a' := ?_) (bsq 13 4095) rfl rfl (by kernel_rfl) (fun _ _ _ h => h) (Or.inl ⟨by rfl, ?_⟩) ?_ ?_
      rotate_left
      · intro w'
        go_simp
        with_reducible rfl
      rotate_left
      · simp only [Act.put, bq1, bq2, bq3, i64_w, i32_w]
        rfl
      refine last_ (i := 12) (N := none) (bsq 13 8191) rfl rfl (by kernel_rfl) (by decide) (fun K hK => ?_)
      refine skip_ (w1 := ?_) (by rfl) rfl ?_ ?_
      rotate_left
      · go_simp
        rfl
      refine hK.out _ _ ?_
      clear hK K
      refine done_ (by kernel_rfl) ?_
      clear xc1 xf1 hcl0 hbits LG LGA LX LO LB BA
      obtain ⟨w_1, hw_⟩ : ∃ w_, (wa.setCell ⟨gx, 1, none⟩ (.slice A1 (i + 1) c1_)) = w_ := ⟨_, rfl⟩
      have hu_ : Upd wa w_1 (fun k => k = gx) := by rw [← hw_]; exact (Upd.refl wa (fun k => k = gx)).set (p := ⟨gx, 1, none⟩) (.inl rfl) _
      have kf_ : w_1.heap[gx]? = some (.cells #[.int .i64 (kn : Int), .slice A1 (i + 1) c1_, .string key, .int .i64 (df : Int)] 27 (0, 0)) := by rw [← hw_]; exact (blk_put (cs := #[.int .i64 (kn : Int), .slice Ax i cx, .string key, .int .i64 (df : Int)]) KX1.out 1 _ rfl)
      rw [hw_]
      clear hw_
      have K2_gx := Aside0.mk (kf_)
      have B2 := Aside0.mk (HB1.out.trans (hu_.toBelow (B := w.heap.size) (fun k hk => by rw [hk]; exact G_gx.out) (HB1.out).size))
      have K2_go := Aside0.mk (hu_.blk KG1.out (by have := E_go_gx.out; omega))
      have O2_X := Aside0.mk (HO1.out.boxT KX1.out (by decide) (by decide) hu_)
      clear hu_ HB1 KG1 HO1 KX1
      clear kf_
      have HE : Aside0 (OR w.heap.size w_1 3 A1 (i + 1) c1_ (encs (Value.int .i64) (intsOf (tn.take (i + 1))))) := ⟨by
        rw [intsOf_snoc tn i HIT.out, encs_snoc, HQ.out]
        exact O2_X.out⟩
      clear O2_X
      have KGB : Aside0 (w_1.heap[go]? = some (.cells #[.int .i64 O.n, .int .i64 O.v, .int .i64 O.p, .bool O.on, .slice T.A4 O.us.length T.c4, .slice T.A5 O.ms.length T.c5, .string O.m, .int .i64 O.kn, .slice T.A8 O.tab.length T.c8, .string O.key, .int .i64 O.df] 37 (0, 0))) := ⟨by rw [HAD.out]; exact K2_go.out⟩
      clear wi
      have wi := HWI.out
      go_wp2_with fail
      try rw [wi]
      go_roundg ki
      case measure => omega
      case rel => exact ⟨i + 1, A1, c1_, rfl, ⟨by have := hk.out; omega⟩, KGB, K2_gx, HE, B2⟩
    · obtain rfl : i = Nn := by omega
      have etn : tn.take i = tn := List.take_of_length_le (Nat.le_of_eq HNN.out)
      rw [etn] at LO
      clear etn
      by_cases hl : i < O.tab.length
      · have c1 : decide ((i : Int) < (O.tab.length : Int)) = true := decide_eq_true (by omega)
        have c2 : decide ((i : Int) < 130) = false := decide_eq_false (by omega)
        have xr := (blk_cell LG.out 8).trans rfl
        clear hn2 hkk hc
        go_wp2_with fail
        go_meet
        case rel => exact ⟨Ax, cx, rfl, LG, LX, LO, LB⟩
      · have c1 : decide ((i : Int) < (O.tab.length : Int)) = false := decide_eq_false (by omega)
        have xr := (blk_cell LG.out 8).trans rfl
        clear hn2 hkk hc
        go_wp2_with fail
        go_meet
        case rel => exact ⟨Ax, cx, rfl, LG, LX, LO, LB⟩
end Go.Proofs.Ytkgbhlcbjflnlaa.Fl
