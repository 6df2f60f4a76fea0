/- Filters: contracts by hand, and the laws over them. -/
import Derived.Test.YtnckogdplcijiaaOwn
import Derived.Test.YtnckogdplcijiaaFAd
import Derived.Test.YtnckogdplcijiaaAdd
namespace Go.Proofs.Ytnckogdplcijiaa.Fl
open Go Go.RowKit Go.Proofs.YtnckogdplcijiaaW.PrintWords Go.Proofs.YtnckogdplcijiaaW.PrintLast Go.Proofs.YtnckogdplcijiaaW.PrintMore Go.Proofs.Ytnckogdplcijiaa.Mth Go.Proofs.Ytnckogdplcijiaa.P Go.Proofs.Ytnckogdplcijiaa.Own Go.Proofs
set_option linter.unusedVariables false
set_option linter.unusedSimpArgs false
/-! ### Filters as data -/
structure Flt where
  m : ByteArray
  b1 : Bool
  b2 : Bool
  b3 : Bool
  b4 : Bool
  b5 : Bool
  b6 : Bool
  us : List ByteArray
  ms : List ByteArray
  b9 : Bool
  vs : List Int
/-- Where its lists lie, and their room. -/
structure Sl where
  A7 : Option Addr
  c7 : Nat
  A8 : Option Addr
  c8 : Nat
  A10 : Option Addr
  c10 : Nat
abbrev cellsF (F : Flt) (S : Sl) : Array Value := #[.string F.m, .bool F.b1, .bool F.b2, .bool F.b3, .bool F.b4, .bool F.b5, .bool F.b6, .slice S.A7 F.us.length S.c7, .slice S.A8 F.ms.length S.c8, .bool F.b9, .slice S.A10 F.vs.length S.c10]
abbrev zeroF : Array Value := #[.string ⟨#[]⟩, .bool false, .bool false, .bool false, .bool false, .bool false, .bool false, .slice none 0 0, .slice none 0 0, .bool false, .slice none 0 0]
structure FV (w : World) (F : Flt) (S : Sl) : Prop where
  r7 : ReadsOf Value.string ByteArray.empty w S.A7 F.us.length F.us
  r8 : ReadsOf Value.string ByteArray.empty w S.A8 F.ms.length F.ms
  r10 : ReadsOf (Value.int .i64) 0 w S.A10 F.vs.length F.vs
  l7 : F.us.length ≤ S.c7
  l8 : F.ms.length ≤ S.c8
  l10 : F.vs.length ≤ S.c10
theorem FV.below {w w' : World} {F : Flt} {S : Sl} (h : FV w F S) (hb : Below w.heap.size w w') : FV w' F S := ⟨h.r7.below hb, h.r8.below hb, h.r10.below hb, h.l7, h.l8, h.l10⟩
/-- A filter with lists of its own. -/
structure OV (base : Nat) (w : World) (F : Flt) (S : Sl) : Prop where
  o7 : w.ownsRow base 9 1 (.slice S.A7 F.us.length S.c7) F.us.length (encs Value.string F.us)
  o8 : w.ownsRow base 9 1 (.slice S.A8 F.ms.length S.c8) F.ms.length (encs Value.string F.ms)
  o10 : w.ownsRow base 3 1 (.slice S.A10 F.vs.length S.c10) F.vs.length (encs (Value.int .i64) F.vs)
theorem OV.fv {base : Nat} {w : World} {F : Flt} {S : Sl} (h : OV base w F S) : FV w F S := ⟨own_reads_of' h.o7, own_reads_of' h.o8, own_reads_of' h.o10, own_cap h.o7, own_cap h.o8, own_cap h.o10⟩
theorem OV.below {base : Nat} {w w' : World} {F : Flt} {S : Sl} (h : OV base w F S) (hb : Below w.heap.size w w') : OV base w' F S := ⟨pw_own_below h.o7 hb, pw_own_below h.o8 hb, pw_own_below h.o10 hb⟩
theorem OV.weaken {base base' : Nat} {w : World} {F : Flt} {S : Sl} (h : OV base w F S) (hb : base' ≤ base) : OV base' w F S := ⟨own_weaken h.o7 hb, own_weaken h.o8 hb, own_weaken h.o10 hb⟩
/-- A struct's block has been written. -/
theorem OV.box {base g : Nat} {w w' : World} {F : Flt} {S : Sl} {cs : Array Value} (h : OV base w F S) (hg : w.heap[g]? = some (.cells cs 25 (0, 0))) (u : Upd w w' (fun k => k = g)) : OV base w' F S :=
  ⟨u.own h.o7 (fun k hk e => own_ne h.o7 hg (by decide) (by rw [hk, ← e])), u.own h.o8 (fun k hk e => own_ne h.o8 hg (by decide) (by rw [hk, ← e])), u.own h.o10 (fun k hk e => own_ne h.o10 hg (by decide) (by rw [hk, ← e]))⟩
def Small (F : Flt) : Prop := F.us.length ≤ 100000 ∧ F.ms.length ≤ 100000 ∧ F.vs.length ≤ 100000
theorem check_f (F : Flt) (S : Sl) (w : World) (h : FV w F S) : Calls Try.prog 11 #[.agg (cellsF F S)] w fun e w' => e = .returned (.int .i64 (checkS F.m F.us F.ms F.vs)) ∧ Below w.heap.size w w' :=
  check_calls F.m F.b1 F.b2 F.b3 F.b4 F.b5 F.b6 S.A7 S.c7 F.us S.A8 S.c8 F.ms F.b9 S.A10 S.c10 F.vs w h.r7 h.r8 h.r10
def adm (F : Flt) (s : ByteArray) : Bool := admitsS F.m F.b1 F.b2 F.b3 F.b4 F.b5 F.b6 F.us F.ms F.b9 F.vs s
theorem adm_f (F : Flt) (S : Sl) (s : ByteArray) (w : World) (h : FV w F S) (hs : Small F) : Calls Try.prog 13 #[.agg (cellsF F S), .string s] w fun e w' => e = .returned (.bool (adm F s)) ∧ Below w.heap.size w w' :=
  filter_Admits.calls (F.us.length + F.ms.length + F.vs.length + 9) F.m F.b1 F.b2 F.b3 F.b4 F.b5 F.b6 S.A7 S.c7 F.us S.A8 S.c8 F.ms F.b9 S.A10 S.c10 F.vs s _ w (Kd.C_of_reads h.r7) h.l7 (Kd.C_of_reads h.r8) h.l8 (Kd.C_of_reads h.r10) h.l10
    (admE _ _ _ _ _ _ _ _ _ _ _ (by have := hs.1; omega) (by have := hs.2.1; omega) (by have := hs.2.2; omega) s _ (by omega))
theorem add_f (F : Flt) (S : Sl) (n : Int) (w : World) (h : FV w F S) (hs : Small F) (ha : argS F.vs n = true) :
    Calls Try.prog 16 #[.agg (cellsF F S), .int .i64 n] w fun e w' => ∃ S', e = .returned (.tuple #[.agg (cellsF { F with vs := insS n F.vs } S'), .int .i64 0]) ∧ OV w.heap.size w' { F with vs := insS n F.vs } S' ∧ Below w.heap.size w w' := by
  unfold argS at ha
  simp only [Bool.and_eq_true, decide_eq_true_eq] at ha
  refine (add_ok F.m F.b1 F.b2 F.b3 F.b4 F.b5 F.b6 S.A7 S.c7 F.us S.A8 S.c8 F.ms F.b9 S.A10 S.c10 F.vs n w h.r7 h.r8 h.r10 hs.1 hs.2.1 hs.2.2 ha.1.1 ha.1.2 ha.2).mono ?_
  rintro e w' ⟨X7, y7, X8, y8, X, y, rfl, l7, l8, l10, o7, o8, o10, hb⟩
  exact ⟨⟨X7, y7, X8, y8, X, y⟩, rfl, ⟨o7, o8, o10⟩, hb⟩
theorem add_no (F : Flt) (S : Sl) (n : Int) (w : World) (h : FV w F S) (ha : argS F.vs n = false) :
    Calls Try.prog 16 #[.agg (cellsF F S), .int .i64 n] w fun e w' => e = .returned (.tuple #[.agg zeroF, .int .i64 1]) ∧ Below w.heap.size w w' := by
  unfold argS at ha
  by_cases h0 : n < 0
  · exact add_n1 F.m F.b1 F.b2 F.b3 F.b4 F.b5 F.b6 S.A7 S.c7 F.us S.A8 S.c8 F.ms F.b9 S.A10 S.c10 F.vs n w h.r7 h.r8 h.r10 h0
  · by_cases h1 : 4094 < n
    · exact add_n2 F.m F.b1 F.b2 F.b3 F.b4 F.b5 F.b6 S.A7 S.c7 F.us S.A8 S.c8 F.ms F.b9 S.A10 S.c10 F.vs n w h.r7 h.r8 h.r10 (by omega) h1
    · rw [decide_eq_true (by omega), decide_eq_true (by omega)] at ha
      exact add_n3 F.m F.b1 F.b2 F.b3 F.b4 F.b5 F.b6 S.A7 S.c7 F.us S.A8 S.c8 F.ms F.b9 S.A10 S.c10 F.vs n w h.r7 h.r8 h.r10 (by omega) (by omega) (by simpa using ha)
theorem del_f (F : Flt) (S : Sl) (n : Int) (w : World) (h : FV w F S) (hs : Small F) (ha : argS F.vs n = true) :
    Calls Try.prog 18 #[.agg (cellsF F S), .int .i64 n] w fun e w' => ∃ S', e = .returned (.tuple #[.agg (cellsF { F with vs := delS n F.vs } S'), .int .i64 0]) ∧ OV w.heap.size w' { F with vs := delS n F.vs } S' ∧ Below w.heap.size w w' := by
  unfold argS at ha
  simp only [Bool.and_eq_true, decide_eq_true_eq] at ha
  refine (del_ok F.m F.b1 F.b2 F.b3 F.b4 F.b5 F.b6 S.A7 S.c7 F.us S.A8 S.c8 F.ms F.b9 S.A10 S.c10 F.vs n w h.r7 h.r8 h.r10 hs.1 hs.2.1 hs.2.2 ha.1.1 ha.1.2 ha.2).mono ?_
  rintro e w' ⟨X7, y7, X8, y8, X, y, rfl, l7, l8, l10, o7, o8, o10, hb⟩
  exact ⟨⟨X7, y7, X8, y8, X, y⟩, rfl, ⟨o7, o8, o10⟩, hb⟩
theorem del_no (F : Flt) (S : Sl) (n : Int) (w : World) (h : FV w F S) (ha : argS F.vs n = false) :
    Calls Try.prog 18 #[.agg (cellsF F S), .int .i64 n] w fun e w' => e = .returned (.tuple #[.agg zeroF, .int .i64 1]) ∧ Below w.heap.size w w' := by
  unfold argS at ha
  by_cases h0 : n < 0
  · exact del_n1 F.m F.b1 F.b2 F.b3 F.b4 F.b5 F.b6 S.A7 S.c7 F.us S.A8 S.c8 F.ms F.b9 S.A10 S.c10 F.vs n w h.r7 h.r8 h.r10 h0
  · by_cases h1 : 4094 < n
    · exact del_n2 F.m F.b1 F.b2 F.b3 F.b4 F.b5 F.b6 S.A7 S.c7 F.us S.A8 S.c8 F.ms F.b9 S.A10 S.c10 F.vs n w h.r7 h.r8 h.r10 (by omega) h1
    · rw [decide_eq_true (by omega), decide_eq_true (by omega)] at ha
      exact del_n3 F.m F.b1 F.b2 F.b3 F.b4 F.b5 F.b6 S.A7 S.c7 F.us S.A8 S.c8 F.ms F.b9 S.A10 S.c10 F.vs n w h.r7 h.r8 h.r10 (by omega) (by omega) (by simpa using ha)
theorem flt_results9 (tmps : Array Value) (w : World) (g : Nat) (c0 c1 c2 c3 c4 c5 c6 c7 c8 c9 c10 : Value) (hp : tmps.getD 2 undef = .pointer (some ⟨g, 0, none⟩)) (hg : w.heap[g]? = some (.cells #[c0, c1, c2, c3, c4, c5, c6, c7, c8, c9, c10] 25 (0, 0))) :
    (results Try.f9 tmps).run Try.prog w = .ok (.agg #[c0, c1, c2, c3, c4, c5, c6, c7, c8, c9, c10]) w := by
  have h1 : tmps[2]?.getD undef = .pointer (some ⟨g, 0, none⟩) := by simpa using hp
  have a0 : w.cell? ⟨g, 0, none⟩ = some c0 := (blk_cell hg 0).trans rfl
  have a1 : w.cell? ⟨g, 1, none⟩ = some c1 := (blk_cell hg 1).trans rfl
  have a2 : w.cell? ⟨g, 2, none⟩ = some c2 := (blk_cell hg 2).trans rfl
  have a3 : w.cell? ⟨g, 3, none⟩ = some c3 := (blk_cell hg 3).trans rfl
  have a4 : w.cell? ⟨g, 4, none⟩ = some c4 := (blk_cell hg 4).trans rfl
  have a5 : w.cell? ⟨g, 5, none⟩ = some c5 := (blk_cell hg 5).trans rfl
  have a6 : w.cell? ⟨g, 6, none⟩ = some c6 := (blk_cell hg 6).trans rfl
  have a7 : w.cell? ⟨g, 7, none⟩ = some c7 := (blk_cell hg 7).trans rfl
  have a8 : w.cell? ⟨g, 8, none⟩ = some c8 := (blk_cell hg 8).trans rfl
  have a9 : w.cell? ⟨g, 9, none⟩ = some c9 := (blk_cell hg 9).trans rfl
  have a10 : w.cell? ⟨g, 10, none⟩ = some c10 := (blk_cell hg 10).trans rfl
  have hu := Try.underlying25
  simp [results, Try.results9, h1, asAddr, go_sem, a0, a1, a2, a3, a4, a5, a6, a7, a8, a9, a10]
theorem flt_results17 (tmps : Array Value) (w : World) (g : Nat) (c0 c1 c2 c3 c4 c5 c6 c7 c8 c9 c10 r : Value) (hp : tmps.getD 6 undef = .pointer (some ⟨g, 0, none⟩)) (hr : tmps.getD 7 undef = r) (hg : w.heap[g]? = some (.cells #[c0, c1, c2, c3, c4, c5, c6, c7, c8, c9, c10] 25 (0, 0))) :
    (results Try.f17 tmps).run Try.prog w = .ok (.tuple #[.agg #[c0, c1, c2, c3, c4, c5, c6, c7, c8, c9, c10], r]) w := by
  have h1 : tmps[6]?.getD undef = .pointer (some ⟨g, 0, none⟩) := by simpa using hp
  have h2 : tmps[7]?.getD undef = r := by simpa using hr
  have a0 : w.cell? ⟨g, 0, none⟩ = some c0 := (blk_cell hg 0).trans rfl
  have a1 : w.cell? ⟨g, 1, none⟩ = some c1 := (blk_cell hg 1).trans rfl
  have a2 : w.cell? ⟨g, 2, none⟩ = some c2 := (blk_cell hg 2).trans rfl
  have a3 : w.cell? ⟨g, 3, none⟩ = some c3 := (blk_cell hg 3).trans rfl
  have a4 : w.cell? ⟨g, 4, none⟩ = some c4 := (blk_cell hg 4).trans rfl
  have a5 : w.cell? ⟨g, 5, none⟩ = some c5 := (blk_cell hg 5).trans rfl
  have a6 : w.cell? ⟨g, 6, none⟩ = some c6 := (blk_cell hg 6).trans rfl
  have a7 : w.cell? ⟨g, 7, none⟩ = some c7 := (blk_cell hg 7).trans rfl
  have a8 : w.cell? ⟨g, 8, none⟩ = some c8 := (blk_cell hg 8).trans rfl
  have a9 : w.cell? ⟨g, 9, none⟩ = some c9 := (blk_cell hg 9).trans rfl
  have a10 : w.cell? ⟨g, 10, none⟩ = some c10 := (blk_cell hg 10).trans rfl
  have hu := Try.underlying25
  simp [results, Try.results17, h1, h2, asAddr, go_sem, a0, a1, a2, a3, a4, a5, a6, a7, a8, a9, a10]
theorem take_min {α : Type} (l : List α) (k : Nat) : l.take (min (l.length : Int) (k : Int)).toNat = l.take k := by rw [List.take_eq_take_iff]; omega
set_option maxHeartbeats 8000000 in
set_option maxRecDepth 100000 in
theorem bound_calls (m : ByteArray) (b1 b2 b3 b4 b5 b6 : Bool) (A7 : Option Addr) (c7 : Nat) (us : List ByteArray) (A8 : Option Addr) (c8 : Nat) (ms : List ByteArray) (b9 : Bool) (A10 : Option Addr) (c10 : Nat) (vs : List Int) (w : World) (h7 : us.length ≤ 9223372036854775807) (h8 : ms.length ≤ 9223372036854775807) (h10 : vs.length ≤ 9223372036854775807) (k7 : us.length ≤ c7) (k8 : ms.length ≤ c8) (k10 : vs.length ≤ c10) :
    Calls Try.prog 9 #[.agg #[.string m, .bool b1, .bool b2, .bool b3, .bool b4, .bool b5, .bool b6, .slice A7 us.length c7, .slice A8 ms.length c8, .bool b9, .slice A10 vs.length c10]] w fun e w' => e = .returned (.agg #[.string m, .bool b1, .bool b2, .bool b3, .bool b4, .bool b5, .bool b6, .slice A7 (us.take 20).length c7, .slice A8 (ms.take 20).length c8, .bool b9, .slice A10 (vs.take 60).length c10]) ∧ Below w.heap.size w w' := by
  obtain ⟨i9, j9, z9, s9, _⟩ := info_parts P.info9
  obtain ⟨i3, j3, z3, s3, _⟩ := info_parts P.info3
  have t7 := (print_take_of (P := Try.prog) Value.string ByteArray.empty 22 9 .i64 Try.underlying22 j9 s9 A7 c7 us (min (us.length : Int) 20) (by omega) (by omega) k7).1
  have t8 := (print_take_of (P := Try.prog) Value.string ByteArray.empty 22 9 .i64 Try.underlying22 j9 s9 A8 c8 ms (min (ms.length : Int) 20) (by omega) (by omega) k8).1
  have t10 := (print_take_of (P := Try.prog) (Value.int .i64) 0 23 3 .i64 Try.underlying23 j3 s3 A10 c10 vs (min (vs.length : Int) 60) (by omega) (by omega) k10).1
  rw [show us.take (min (us.length : Int) 20).toNat = us.take 20 from take_min us 20] at t7
  rw [show ms.take (min (ms.length : Int) 20).toNat = ms.take 20 from take_min ms 20] at t8
  rw [show vs.take (min (vs.length : Int) 60).toNat = vs.take 60 from take_min vs 60] at t10
  obtain ⟨n7, e7⟩ : ∃ n7, (us.take 20).length = n7 := ⟨_, rfl⟩
  obtain ⟨n8, e8⟩ : ∃ n8, (ms.take 20).length = n8 := ⟨_, rfl⟩
  obtain ⟨n10, e10⟩ : ∃ n10, (vs.take 60).length = n10 := ⟨_, rfl⟩
  rw [e7] at t7
  rw [e8] at t8
  rw [e10] at t10
  rw [e7, e8, e10]
  clear j9 z9 s9 j3 z3 s3 e7 e8 e10 k7 k8 k10
  have hu := Try.underlying25
  go_enter Try.func9, Try.ntmps9
  go_upto_region 1 with (fail)
  obtain ⟨wa, hwa⟩ : ∃ wa, (w.alloc (.cells #[.string m, .bool b1, .bool b2, .bool b3, .bool b4, .bool b5, .bool b6, .slice A7 us.length c7, .slice A8 ms.length c8, .bool b9, .slice A10 vs.length c10] 25)) = wa := ⟨_, rfl⟩
  have za : wa.heap.size = w.heap.size + 1 := by rw [← hwa]; simp
  obtain ⟨w1, hw1⟩ : ∃ w1, wa.alloc (.cells #[.string ⟨#[]⟩, .bool false, .bool false, .bool false, .bool false, .bool false, .bool false, .slice none 0 0, .slice none 0 0, .bool false, .slice none 0 0] 25) = w1 := ⟨_, rfl⟩
  have B1 : Aside0 (Below w.heap.size w w1) := ⟨by rw [← hw1, ← hwa]; exact below_alloc (below_alloc (Below.refl _ _) _) _⟩
  have BK : Aside0 (w1.heap[w.heap.size]? = some (.cells #[.string m, .bool b1, .bool b2, .bool b3, .bool b4, .bool b5, .bool b6, .slice A7 us.length c7, .slice A8 ms.length c8, .bool b9, .slice A10 vs.length c10] 25 (0, 0))) := ⟨by rw [← hw1, ← hwa]; exact blk_alloc (blk_new w _) _⟩
  have BL : Aside0 (w1.heap[w.heap.size + 1]? = some (.cells #[.string ⟨#[]⟩, .bool false, .bool false, .bool false, .bool false, .bool false, .bool false, .slice none 0 0, .slice none 0 0, .bool false, .slice none 0 0] 25 (0, 0))) := ⟨by rw [← hw1]; have q := blk_new wa (.cells #[.string ⟨#[]⟩, .bool false, .bool false, .bool false, .bool false, .bool false, .bool false, .slice none 0 0, .slice none 0 0, .bool false, .slice none 0 0] 25); rw [za] at q; exact q⟩
  rw [hwa, hw1]
  clear hwa za hw1
  obtain ⟨g, hg⟩ : ∃ g, w.heap.size = g := ⟨_, rfl⟩
  have HGG := Aside0.mk (Nat.le_of_eq hg)
  rw [hg] at BK BL
  rw [hg]
  clear hg
  have pc0 : w1.cell? ⟨g, 0, none⟩ = some (.string m) := (blk_cell BK.out 0).trans rfl
  have pf0 := blk_frozen BK.out 0
  have pc1 : w1.cell? ⟨g, 1, none⟩ = some (.bool b1) := (blk_cell BK.out 1).trans rfl
  have pf1 := blk_frozen BK.out 1
  have pc2 : w1.cell? ⟨g, 2, none⟩ = some (.bool b2) := (blk_cell BK.out 2).trans rfl
  have pf2 := blk_frozen BK.out 2
  have pc3 : w1.cell? ⟨g, 3, none⟩ = some (.bool b3) := (blk_cell BK.out 3).trans rfl
  have pf3 := blk_frozen BK.out 3
  have pc4 : w1.cell? ⟨g, 4, none⟩ = some (.bool b4) := (blk_cell BK.out 4).trans rfl
  have pf4 := blk_frozen BK.out 4
  have pc5 : w1.cell? ⟨g, 5, none⟩ = some (.bool b5) := (blk_cell BK.out 5).trans rfl
  have pf5 := blk_frozen BK.out 5
  have pc6 : w1.cell? ⟨g, 6, none⟩ = some (.bool b6) := (blk_cell BK.out 6).trans rfl
  have pf6 := blk_frozen BK.out 6
  have pc7 : w1.cell? ⟨g, 7, none⟩ = some (.slice A7 us.length c7) := (blk_cell BK.out 7).trans rfl
  have pf7 := blk_frozen BK.out 7
  have pc8 : w1.cell? ⟨g, 8, none⟩ = some (.slice A8 ms.length c8) := (blk_cell BK.out 8).trans rfl
  have pf8 := blk_frozen BK.out 8
  have pc9 : w1.cell? ⟨g, 9, none⟩ = some (.bool b9) := (blk_cell BK.out 9).trans rfl
  have pf9 := blk_frozen BK.out 9
  have pc10 : w1.cell? ⟨g, 10, none⟩ = some (.slice A10 vs.length c10) := (blk_cell BK.out 10).trans rfl
  have pf10 := blk_frozen BK.out 10
  go_upto_region 4 with (fail)
  clear pc0 pf0 pc1 pf1 pc2 pf2 pc3 pf3 pc4 pf4 pc5 pf5 pc6 pf6 pc7 pf7 pc8 pf8 pc9 pf9 pc10 pf10
  obtain ⟨w6, hw6⟩ : ∃ w6, ((w1.setCell ⟨g, 7, none⟩ (.slice A7 n7 c7)).setCell ⟨g, 8, none⟩ (.slice A8 n8 c8)).setCell ⟨g, 10, none⟩ (.slice A10 n10 c10) = w6 := ⟨_, rfl⟩
  have U6 : Aside0 (Upd w1 w6 (fun k => k = g)) := ⟨by rw [← hw6]; exact (((Upd.refl w1 (fun k => k = g)).set (p := ⟨g, 7, none⟩) (.inl rfl) _).set (p := ⟨g, 8, none⟩) (.inl rfl) _).set (p := ⟨g, 10, none⟩) (.inl rfl) _⟩
  have BK6 : Aside0 (w6.heap[g]? = some (.cells #[.string m, .bool b1, .bool b2, .bool b3, .bool b4, .bool b5, .bool b6, .slice A7 n7 c7, .slice A8 n8 c8, .bool b9, .slice A10 n10 c10] 25 (0, 0))) := ⟨by rw [← hw6]; exact blk_put (cs := #[.string m, .bool b1, .bool b2, .bool b3, .bool b4, .bool b5, .bool b6, .slice A7 n7 c7, .slice A8 n8 c8, .bool b9, .slice A10 vs.length c10]) (blk_put (cs := #[.string m, .bool b1, .bool b2, .bool b3, .bool b4, .bool b5, .bool b6, .slice A7 n7 c7, .slice A8 ms.length c8, .bool b9, .slice A10 vs.length c10]) (blk_put (cs := #[.string m, .bool b1, .bool b2, .bool b3, .bool b4, .bool b5, .bool b6, .slice A7 us.length c7, .slice A8 ms.length c8, .bool b9, .slice A10 vs.length c10]) BK.out 7 _ rfl) 8 _ rfl) 10 _ rfl⟩
  rw [hw6]
  clear hw6
  have BL6 := Aside0.mk (U6.out.blk BL.out (by omega))
  have B6 := Aside0.mk (B1.out.trans (U6.out.toBelow (B := w.heap.size) (fun k hk => by rw [hk]; exact HGG.out) B1.out.size))
  have pc0 : w6.cell? ⟨g, 0, none⟩ = some (.string m) := (blk_cell BK6.out 0).trans rfl
  have pc1 : w6.cell? ⟨g, 1, none⟩ = some (.bool b1) := (blk_cell BK6.out 1).trans rfl
  have pc2 : w6.cell? ⟨g, 2, none⟩ = some (.bool b2) := (blk_cell BK6.out 2).trans rfl
  have pc3 : w6.cell? ⟨g, 3, none⟩ = some (.bool b3) := (blk_cell BK6.out 3).trans rfl
  have pc4 : w6.cell? ⟨g, 4, none⟩ = some (.bool b4) := (blk_cell BK6.out 4).trans rfl
  have pc5 : w6.cell? ⟨g, 5, none⟩ = some (.bool b5) := (blk_cell BK6.out 5).trans rfl
  have pc6 : w6.cell? ⟨g, 6, none⟩ = some (.bool b6) := (blk_cell BK6.out 6).trans rfl
  have pc7 : w6.cell? ⟨g, 7, none⟩ = some (.slice A7 n7 c7) := (blk_cell BK6.out 7).trans rfl
  have pc8 : w6.cell? ⟨g, 8, none⟩ = some (.slice A8 n8 c8) := (blk_cell BK6.out 8).trans rfl
  have pc9 : w6.cell? ⟨g, 9, none⟩ = some (.bool b9) := (blk_cell BK6.out 9).trans rfl
  have pc10 : w6.cell? ⟨g, 10, none⟩ = some (.slice A10 n10 c10) := (blk_cell BK6.out 10).trans rfl
  have qc0 : w6.cell? ⟨g + 1, 0, none⟩ = some (.string ⟨#[]⟩) := (blk_cell BL6.out 0).trans rfl
  have qf0 := blk_frozen BL6.out 0
  have qc1 : w6.cell? ⟨g + 1, 1, none⟩ = some (.bool false) := (blk_cell BL6.out 1).trans rfl
  have qf1 := blk_frozen BL6.out 1
  have qc2 : w6.cell? ⟨g + 1, 2, none⟩ = some (.bool false) := (blk_cell BL6.out 2).trans rfl
  have qf2 := blk_frozen BL6.out 2
  have qc3 : w6.cell? ⟨g + 1, 3, none⟩ = some (.bool false) := (blk_cell BL6.out 3).trans rfl
  have qf3 := blk_frozen BL6.out 3
  have qc4 : w6.cell? ⟨g + 1, 4, none⟩ = some (.bool false) := (blk_cell BL6.out 4).trans rfl
  have qf4 := blk_frozen BL6.out 4
  have qc5 : w6.cell? ⟨g + 1, 5, none⟩ = some (.bool false) := (blk_cell BL6.out 5).trans rfl
  have qf5 := blk_frozen BL6.out 5
  have qc6 : w6.cell? ⟨g + 1, 6, none⟩ = some (.bool false) := (blk_cell BL6.out 6).trans rfl
  have qf6 := blk_frozen BL6.out 6
  have qc7 : w6.cell? ⟨g + 1, 7, none⟩ = some (.slice none 0 0) := (blk_cell BL6.out 7).trans rfl
  have qf7 := blk_frozen BL6.out 7
  have qc8 : w6.cell? ⟨g + 1, 8, none⟩ = some (.slice none 0 0) := (blk_cell BL6.out 8).trans rfl
  have qf8 := blk_frozen BL6.out 8
  have qc9 : w6.cell? ⟨g + 1, 9, none⟩ = some (.bool false) := (blk_cell BL6.out 9).trans rfl
  have qf9 := blk_frozen BL6.out 9
  have qc10 : w6.cell? ⟨g + 1, 10, none⟩ = some (.slice none 0 0) := (blk_cell BL6.out 10).trans rfl
  have qf10 := blk_frozen BL6.out 10
  go_wp2_with fail
  clear pc0 pc1 pc2 pc3 pc4 pc5 pc6 pc7 pc8 pc9 pc10
  clear qc0 qf0 qc1 qf1 qc2 qf2 qc3 qf3 qc4 qf4 qc5 qf5 qc6 qf6 qc7 qf7 qc8 qf8 qc9 qf9 qc10 qf10
  obtain ⟨w9, hw9, BK9, U9⟩ := flt_stored (g + 1) w6 (.string m) (.bool b1) (.bool b2) (.bool b3) (.bool b4) (.bool b5) (.bool b6) (.slice A7 n7 c7) (.slice A8 n8 c8) (.bool b9) (.slice A10 n10 c10) _ _ _ _ _ _ _ _ _ _ _ BL6.out
  rw [hw9]
  clear hw9
  exact bodyPost_ret (flt_results9 _ w9 (g + 1) _ _ _ _ _ _ _ _ _ _ _ rfl BK9) rfl ⟨rfl, B6.out.trans (U9.toBelow (B := w.heap.size) (fun k hk => by rw [hk]; have := HGG.out; omega) B6.out.size)⟩

def boundF (F : Flt) : Flt := { F with us := F.us.take 20, ms := F.ms.take 20, vs := F.vs.take 60 }
theorem boundF_small (F : Flt) : Small (boundF F) := by
  unfold Small boundF
  simp only [List.length_take]
  omega
theorem take_len {α : Type} {enc : α → Value} {d : α} {w : World} {A : Option Addr} {l : List α} (h : ReadsOf enc d w A l.length l) (k : Nat) : ReadsOf enc d w A (l.take k).length (l.take k) := by
  have q := h.take_ (min k l.length) (by omega)
  have e : l.take (min k l.length) = l.take k := by rw [List.take_eq_take_iff]; omega
  rw [e] at q
  rw [List.length_take]
  exact q
theorem FV.bound {w : World} {F : Flt} {S : Sl} (h : FV w F S) : FV w (boundF F) S :=
  ⟨take_len h.r7 20, take_len h.r8 20, take_len h.r10 60, by have := h.l7; simp only [boundF, List.length_take]; omega, by have := h.l8; simp only [boundF, List.length_take]; omega, by have := h.l10; simp only [boundF, List.length_take]; omega⟩
theorem bound_f (F : Flt) (S : Sl) (w : World) (h : FV w F S) : Calls Try.prog 9 #[.agg (cellsF F S)] w fun e w' => e = .returned (.agg (cellsF (boundF F) S)) ∧ Below w.heap.size w w' :=
  bound_calls F.m F.b1 F.b2 F.b3 F.b4 F.b5 F.b6 S.A7 S.c7 F.us S.A8 S.c8 F.ms F.b9 S.A10 S.c10 F.vs w h.r7.2.1 h.r8.2.1 h.r10.2.1 h.l7 h.l8 h.l10
end Go.Proofs.Ytnckogdplcijiaa.Fl
