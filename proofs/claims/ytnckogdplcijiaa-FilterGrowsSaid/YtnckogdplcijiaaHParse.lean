/- What eth.Parse computes, with its walk by hand (a reader that panics; a deferred closure that recovers). -/
import Derived.Test.YtnckogdplcijiaaPx2
import Derived.Test.YtnckogdplcijiaaPx3
import Derived.Test.YtnckogdplcijiaaMth
import Derived.Test.YtnckogdplcijiaaWdA
import Derived.Defers
import Derived.Recover
import Derived.Laws.Pointers
import Derived.WalkLawsBesides
namespace Go.Proofs.Ytnckogdplcijiaa.P
open Go.RowKit Go.Proofs.YtnckogdplcijiaaW.PrintWords Go.Proofs.YtnckogdplcijiaaW.PrintLast Go.Proofs.YtnckogdplcijiaaW.PrintMore
set_option linter.unusedVariables false
set_option linter.unusedSimpArgs false
abbrev short : PanicEntry := { v := .iface 64 (.agg #[]), recovered := false }
set_option maxHeartbeats 4000000 in
set_option maxRecDepth 100000 in
theorem take_ok (g : Nat) (s : ByteArray) (n : Int) (w : World) (h0 : 0 ≤ n) (hn : n ≤ (s.size : Int)) (hs : s.size ≤ 281474976710656) (hb : w.heap[g]? = some (.cells #[.string s] 67 (0, 0))) :
    Calls Try.prog 43 #[.pointer (some ⟨g, 0, none⟩), .int .i64 n] w fun e w' => e = .returned (.string (s.extract 0 n.toNat)) ∧ w' = w.setCell ⟨g, 0, none⟩ (.string (s.extract n.toNat s.size)) := by
  obtain ⟨n, rfl⟩ := Int.eq_ofNat_of_zero_le h0
  rw [Int.toNat_natCast]
  have hc : w.cell? ⟨g, 0, none⟩ = some (.string s) := (blk_cell hb 0).trans rfl
  have hf := blk_frozen hb 0
  clear hb
  have h1 : ¬ ((s.size : Int) < (n : Int)) := by omega
  have h2 : decide ((s.size : Int) < (n : Int)) = false := decide_eq_false h1
  have h3 : n ≤ s.size := by omega
  have hu := Try.underlying67
  go_enter Try.func43, Try.ntmps43
  go_wp2
  go_ret
  exact ⟨rfl, rfl⟩
set_option maxHeartbeats 4000000 in
set_option maxRecDepth 100000 in
theorem take_no (g : Nat) (s : ByteArray) (n : Int) (w : World) (hn : (s.size : Int) < n) (hb : w.heap[g]? = some (.cells #[.string s] 67 (0, 0))) :
    Calls Try.prog 43 #[.pointer (some ⟨g, 0, none⟩), .int .i64 n] w fun e w' => e = .panicked [short] ∧ w' = w := by
  have hc : w.cell? ⟨g, 0, none⟩ = some (.string s) := (blk_cell hb 0).trans rfl
  clear hb
  have h2 : decide ((s.size : Int) < n) = true := decide_eq_true hn
  have hu := Try.underlying67
  have hu38 := Try.underlying64
  go_enter Try.func43, Try.ntmps43
  go_wp2
  exact ⟨rfl, rfl, rfl⟩
set_option maxHeartbeats 4000000 in
set_option maxRecDepth 100000 in
theorem catch_idle (p q : Addr) (w : World) :
    CallsD Try.prog 42 #[.pointer (some p), .pointer (some q)] .returning w fun e u' w' => e = .returned (.tuple #[]) ∧ u' = .returning ∧ w' = w := by
  refine callsD_of_wpS Try.func42 rfl fun c₀ cs hu => ?_
  apply wpS_seq
  apply wpS_region
  simp [wpOpsS, go_sem, recoverD, hu, Try.ntmps42, Exit.thenS]
  refine wpS_of_wp ?_
  go_wp2
  cases c₀
  simp_all [bodyPostS, results, Try.results42]
set_option maxHeartbeats 4000000 in
set_option maxRecDepth 100000 in
theorem catch_panic (g2 g3 : Nat) (c0 c1 c2 c3 c4 c5 c : Value) (older : List PanicEntry) (w : World) (hne : g2 ≠ g3) (h2 : w.heap[g2]? = some (.cells #[c0, c1, c2, c3, c4, c5] 52 (0, 0))) (h3 : w.heap[g3]? = some (.cells #[c] 28 (0, 0))) :
    CallsD Try.prog 42 #[.pointer (some ⟨g2, 0, none⟩), .pointer (some ⟨g3, 0, none⟩)] (.panicking (short :: older)) w fun e u' w' => e = .returned (.tuple #[]) ∧ u' = .panicking ({ v := .iface 64 (.agg #[]), recovered := true } :: older) ∧
      w'.heap[g2]? = some (.cells #[.string ⟨#[]⟩, .string ⟨#[]⟩, .int .i64 0, .int .i64 0, .int .i64 0, .string ⟨#[]⟩] 52 (0, 0)) ∧ w'.heap[g3]? = some (.cells #[.int .i64 60] 28 (0, 0)) ∧
      ∀ w0, Below w0.heap.size w0 w → w0.heap.size ≤ g2 → w0.heap.size ≤ g3 → Below w0.heap.size w0 w' := by
  have a0 : w.cell? ⟨g2, 0, none⟩ = some c0 := (blk_cell h2 0).trans rfl
  have a1 : w.cell? ⟨g2, 1, none⟩ = some c1 := (blk_cell h2 1).trans rfl
  have a2 : w.cell? ⟨g2, 2, none⟩ = some c2 := (blk_cell h2 2).trans rfl
  have a3 : w.cell? ⟨g2, 3, none⟩ = some c3 := (blk_cell h2 3).trans rfl
  have a4 : w.cell? ⟨g2, 4, none⟩ = some c4 := (blk_cell h2 4).trans rfl
  have a5 : w.cell? ⟨g2, 5, none⟩ = some c5 := (blk_cell h2 5).trans rfl
  have a6 : w.cell? ⟨g3, 0, none⟩ = some c := (blk_cell h3 0).trans rfl
  have f0 := blk_frozen h2 0
  have f1 := blk_frozen h2 1
  have f2 := blk_frozen h2 2
  have f3 := blk_frozen h2 3
  have f4 := blk_frozen h2 4
  have f5 := blk_frozen h2 5
  have f6 := blk_frozen h3 0
  have l2 := blk_lt h2
  have l3 := blk_lt h3
  have H2 := Aside0.mk h2
  have H3 := Aside0.mk h3
  clear h2 h3
  have hu23 := Try.underlying52
  have hu38 := Try.underlying64
  have hta : ∀ (v : Value) (W : World), (Instr.typeAssert (.iface 64 v) 20 64 true).run Try.prog W = .ok (.tuple #[v, .bool true]) W := fun v W => by rfl
  refine callsD_of_wpS Try.func42 rfl fun c₀ cs hu => ?_
  apply wpS_seq
  apply wpS_region
  simp [wpOpsS, go_sem, recoverD, hu, Try.ntmps42, Exit.thenS]
  refine wpS_of_wp ?_
  go_wp2
  refine ⟨rfl, _, rfl, .tuple #[], by simp [results, Try.results42, go_sem], rfl, rfl, ?_, ?_, ?_⟩
  · refine blk_alloc (blk_far ?_ (by simpa using hne) _) _
    refine blk_put (cs := #[.string ⟨#[]⟩, .string ⟨#[]⟩, .int .i64 0, .int .i64 0, .int .i64 0, c5]) ?_ 5 _ rfl
    refine blk_put (cs := #[.string ⟨#[]⟩, .string ⟨#[]⟩, .int .i64 0, .int .i64 0, c4, c5]) ?_ 4 _ rfl
    refine blk_put (cs := #[.string ⟨#[]⟩, .string ⟨#[]⟩, .int .i64 0, c3, c4, c5]) ?_ 3 _ rfl
    refine blk_put (cs := #[.string ⟨#[]⟩, .string ⟨#[]⟩, c2, c3, c4, c5]) ?_ 2 _ rfl
    refine blk_put (cs := #[.string ⟨#[]⟩, c1, c2, c3, c4, c5]) ?_ 1 _ rfl
    exact blk_put (cs := #[c0, c1, c2, c3, c4, c5]) H2.out 0 _ rfl
  · refine blk_alloc (blk_put (cs := #[c]) ?_ 0 _ rfl) _
    have hne' : g3 ≠ g2 := fun h => hne h.symm
    exact blk_far (blk_far (blk_far (blk_far (blk_far (blk_far H3.out (by simpa using hne') _) (by simpa using hne') _) (by simpa using hne') _) (by simpa using hne') _) (by simpa using hne') _) (by simpa using hne') _
  · intro w0 hb b2 b3
    exact below_alloc (below_set (below_set (below_set (below_set (below_set (below_set (below_set hb b2) b2) b2) b2) b2) b2) b3) _
/-- Only block g was written, and new ones were laid. -/
def Step (g : Nat) (w w' : World) : Prop := (∀ i o, i ≠ g → w.heap[i]? = some o → w'.heap[i]? = some o) ∧ ∀ w0 : World, Below w0.heap.size w0 w → w0.heap.size ≤ g → Below w0.heap.size w0 w'
theorem step_set (g : Nat) (w : World) (u : Value) : Step g w (w.setCell ⟨g, 0, none⟩ u) :=
  ⟨fun i o hi h => (Below.heap_setCell w ⟨g, 0, none⟩ u i (by simpa using hi)).trans h, fun w0 hb hg => below_set hb hg⟩
theorem step_below {g : Nat} {w w1 w' : World} (h : Step g w w1) (hb : Below w1.heap.size w1 w') : Step g w w' :=
  ⟨fun i o hi ho => blk_below (h.1 i o hi ho) hb, fun w0 h0 hg => below_step (h.2 w0 h0 hg) hb⟩
set_option maxHeartbeats 4000000 in
set_option maxRecDepth 100000 in
theorem two_ok (g : Nat) (s : ByteArray) (k : Nat) (v : Int) (w : World) (hn : 2 ≤ s.size) (hs : s.size ≤ 281474976710656) (h0 : 0 ≤ v) (h1 : v < 65536) (hb : w.heap[g]? = some (.cells #[.string s] 67 (0, 0))) (hw : words_Get.f k (s.extract 0 2) 0 2 true = some (v, 0)) :
    Calls Try.prog 44 #[.pointer (some ⟨g, 0, none⟩)] w fun e w' => e = .returned (.int .i64 v) ∧ w'.heap[g]? = some (.cells #[.string (s.extract 2 s.size)] 67 (0, 0)) ∧ Step g w w' := by
  have T := take_ok g s 2 w (by omega) (by omega) hs hb
  have C := fun W => words_Get.calls k (s.extract 0 2) 0 2 true v 0 W hw
  have HT := Aside0.mk T
  clear T hw
  have HBK := Aside0.mk hb
  clear hb
  go_enter Try.func44, Try.ntmps44
  go_wp2_with fail
  refine HT.out.mono ?_
  rintro e w1 ⟨rfl, hw1⟩
  have S1 : Step g w w1 := by rw [hw1]; exact step_set _ _ _
  have N1 : w1.heap[g]? = some (.cells #[.string (s.extract 2 s.size)] 67 (0, 0)) := by rw [hw1]; exact blk_put HBK.out 0 _ rfl
  have HS1 := Aside0.mk S1
  have HN1 := Aside0.mk N1
  clear S1 N1 hw1 HT HBK
  go_wp2_with (go_at_call 57; (with_reducible refine (C _).mono ?_); rintro e w2 ⟨rfl, hb⟩; have S2 := Aside0.mk (step_below HS1.out hb); have N2 := Aside0.mk (blk_below HN1.out hb); clear hb)
  go_ret
  exact ⟨rfl, N2.out, S2.out⟩
set_option maxHeartbeats 4000000 in
set_option maxRecDepth 100000 in
theorem two_no (g : Nat) (s : ByteArray) (w : World) (hn : s.size < 2) (hb : w.heap[g]? = some (.cells #[.string s] 67 (0, 0))) :
    Calls Try.prog 44 #[.pointer (some ⟨g, 0, none⟩)] w fun e w' => e = .panicked [short] ∧ w' = w := by
  have T := Aside0.mk (take_no g s 2 w (by omega) hb)
  clear hb
  go_enter Try.func44, Try.ntmps44
  go_wp2_with fail
  refine T.out.mono ?_
  rintro e w1 ⟨rfl, rfl⟩
  go_wp2_with fail
  exact ⟨rfl, rfl, rfl⟩
/-- The results, which lie in memory. -/
theorem results28 (tmps : Array Value) (w : World) (g g' : Nat) (c0 c1 c2 c3 c4 c5 : Value) (c : Int)
    (hp : tmps.getD 2 undef = .pointer (some ⟨g, 0, none⟩)) (hg : w.heap[g]? = some (.cells #[c0, c1, c2, c3, c4, c5] 52 (0, 0)))
    (hp' : tmps.getD 3 undef = .pointer (some ⟨g', 0, none⟩)) (hg' : w.heap[g']? = some (.cells #[.int .i64 c] 28 (0, 0))) :
    (results Try.f28 tmps).run Try.prog w = .ok (.tuple #[.agg #[c0, c1, c2, c3, c4, c5], .int .i64 c]) w := by
  have h1 : tmps[2]?.getD undef = .pointer (some ⟨g, 0, none⟩) := by simpa using hp
  have h2 : tmps[3]?.getD undef = .pointer (some ⟨g', 0, none⟩) := by simpa using hp'
  have hc : w.cell? ⟨g', 0, none⟩ = some (.int .i64 c) := (blk_cell hg' 0).trans rfl
  have a0 : w.cell? ⟨g, 0, none⟩ = some c0 := (blk_cell hg 0).trans rfl
  have a1 : w.cell? ⟨g, 1, none⟩ = some c1 := (blk_cell hg 1).trans rfl
  have a2 : w.cell? ⟨g, 2, none⟩ = some c2 := (blk_cell hg 2).trans rfl
  have a3 : w.cell? ⟨g, 3, none⟩ = some c3 := (blk_cell hg 3).trans rfl
  have a4 : w.cell? ⟨g, 4, none⟩ = some c4 := (blk_cell hg 4).trans rfl
  have a5 : w.cell? ⟨g, 5, none⟩ = some c5 := (blk_cell hg 5).trans rfl
  have hu23 := Try.underlying52
  simp [results, Try.results28, h1, h2, asAddr, go_sem, hc, a0, a1, a2, a3, a4, a5]
set_option maxHeartbeats 8000000 in
set_option maxRecDepth 100000 in
theorem parse_long (s : ByteArray) (w : World) (h : (s.size : Int) > 1518) :
    Calls Try.prog 28 #[.string s] w fun e w' => e = .returned (.tuple #[.agg #[.string ⟨#[]⟩, .string ⟨#[]⟩, .int .i64 0, .int .i64 0, .int .i64 0, .string ⟨#[]⟩], .int .i64 61]) ∧ Below w.heap.size w w' := by
  have h1 : decide ((1518 : Int) < (s.size : Int)) = true := decide_eq_true h
  have h2 : decide (1518 < s.size) = true := decide_eq_true (by omega)
  have hu23 := Try.underlying52
  clear h
  go_enter_defers Try.func28, Try.ntmps28
  go_wp2_with (first | ((with_reducible refine gate_dst (N := 2) rfl ?_); refine box_event ?hg (N := 2) ?hd (cs := #[.string ⟨#[]⟩, .string ⟨#[]⟩, .int .i64 0, .int .i64 0, .int .i64 0, .string ⟨#[]⟩]) (t := 52) ?hr ?_; (case hd => rfl); (case hg => rfl); (case hr => first | (go_simp; done) | (go_simp; rfl)); intro g1 hg w1 hbox hb; have N1 := Aside0.mk hbox; have B1 := Aside0.mk hb; have G1 := Aside0.mk (Nat.le_of_eq hg.symm); clear hg hbox hb) | ((with_reducible refine gate_dst (N := 3) rfl ?_); refine box_event ?hg (N := 3) ?hd (cs := #[.int .i64 0]) (t := 28) ?hr ?_; (case hd => rfl); (case hg => rfl); (case hr => first | (go_simp; done) | (go_simp; rfl)); intro g2 hg w2 hbox hb; have N2 := Aside0.mk hbox; have M1 := Aside0.mk (blk_below N1.out hb); have B2 := Aside0.mk (below_step B1.out hb); have G2 := Aside0.mk (Nat.le_trans B1.out.size (Nat.le_of_eq hg.symm)); have E12 := Aside0.mk (blk_ne M1.out N2.out (by decide)); clear hg hbox hb; clear N1 B1; have hcz0 : w2.cell? ⟨g1, 0, none⟩ = some (.string ⟨#[]⟩) := (blk_cell M1.out 0).trans rfl; have hcz1 : w2.cell? ⟨g1, 1, none⟩ = some (.string ⟨#[]⟩) := (blk_cell M1.out 1).trans rfl; have hcz2 : w2.cell? ⟨g1, 2, none⟩ = some (.int .i64 0) := (blk_cell M1.out 2).trans rfl; have hcz3 : w2.cell? ⟨g1, 3, none⟩ = some (.int .i64 0) := (blk_cell M1.out 3).trans rfl; have hcz4 : w2.cell? ⟨g1, 4, none⟩ = some (.int .i64 0) := (blk_cell M1.out 4).trans rfl; have hcz5 : w2.cell? ⟨g1, 5, none⟩ = some (.string ⟨#[]⟩) := (blk_cell M1.out 5).trans rfl; have hfz0 := blk_frozen M1.out 0; have hfz1 := blk_frozen M1.out 1; have hfz2 := blk_frozen M1.out 2; have hfz3 := blk_frozen M1.out 3; have hfz4 := blk_frozen M1.out 4; have hfz5 := blk_frozen M1.out 5; have hcy : w2.cell? ⟨g2, 0, none⟩ = some (.int .i64 0) := (blk_cell N2.out 0).trans rfl; have hfy := blk_frozen N2.out 0; have hne := E12.out; have hne' : g2 ≠ g1 := fun h => hne h.symm))
  refine ⟨_, results28 _ _ g1 g2 _ _ _ _ _ _ 61 rfl ?_ rfl ?_, rfl, ?_⟩
  · refine blk_far ?_ (by simpa using hne) _
    refine blk_put (cs := #[.string ⟨#[]⟩, .string ⟨#[]⟩, .int .i64 0, .int .i64 0, .int .i64 0, .string ⟨#[]⟩]) ?_ 5 _ rfl
    refine blk_put (cs := #[.string ⟨#[]⟩, .string ⟨#[]⟩, .int .i64 0, .int .i64 0, .int .i64 0, .string ⟨#[]⟩]) ?_ 4 _ rfl
    refine blk_put (cs := #[.string ⟨#[]⟩, .string ⟨#[]⟩, .int .i64 0, .int .i64 0, .int .i64 0, .string ⟨#[]⟩]) ?_ 3 _ rfl
    refine blk_put (cs := #[.string ⟨#[]⟩, .string ⟨#[]⟩, .int .i64 0, .int .i64 0, .int .i64 0, .string ⟨#[]⟩]) ?_ 2 _ rfl
    refine blk_put (cs := #[.string ⟨#[]⟩, .string ⟨#[]⟩, .int .i64 0, .int .i64 0, .int .i64 0, .string ⟨#[]⟩]) ?_ 1 _ rfl
    exact blk_put (cs := #[.string ⟨#[]⟩, .string ⟨#[]⟩, .int .i64 0, .int .i64 0, .int .i64 0, .string ⟨#[]⟩]) M1.out 0 _ rfl
  · refine blk_put (cs := #[.int .i64 0]) ?_ 0 _ rfl
    exact blk_far (blk_far (blk_far (blk_far (blk_far (blk_far N2.out (by simpa using hne') _) (by simpa using hne') _) (by simpa using hne') _) (by simpa using hne') _) (by simpa using hne') _) (by simpa using hne') _
  · exact below_set (below_set (below_set (below_set (below_set (below_set (below_set B2.out G1.out) G1.out) G1.out) G1.out) G1.out) G1.out) G2.out
set_option maxHeartbeats 8000000 in
set_option maxRecDepth 100000 in
theorem parse_short1 (s : ByteArray) (w : World) (h : s.size < 6) :
    Calls Try.prog 28 #[.string s] w fun e w' => e = .returned (.tuple #[.agg #[.string ⟨#[]⟩, .string ⟨#[]⟩, .int .i64 0, .int .i64 0, .int .i64 0, .string ⟨#[]⟩], .int .i64 60]) ∧ Below w.heap.size w w' := by
  have h1 : decide ((1518 : Int) < (s.size : Int)) = false := decide_eq_false (by omega)
  have h2 : decide (1518 < s.size) = false := decide_eq_false (by omega)
  have hs : s.size ≤ 281474976710656 := by omega
  have hmf : ∀ (fn : Fn) (first cap : Array Value) (w : World), (Instr.makeFunc fn first cap).run Try.prog w = .ok (.func fn first cap) w := fun _ _ _ _ => rfl
  have hu23 := Try.underlying52
  have hu41 := Try.underlying67
  go_enter_defers Try.func28, Try.ntmps28
  go_wp2_with (first | ((with_reducible refine gate_dst (N := 2) rfl ?_); refine box_event ?hg (N := 2) ?hd (cs := #[.string ⟨#[]⟩, .string ⟨#[]⟩, .int .i64 0, .int .i64 0, .int .i64 0, .string ⟨#[]⟩]) (t := 52) ?hr ?_; (case hd => rfl); (case hg => rfl); (case hr => first | (go_simp; done) | (go_simp; rfl)); intro g1 hg w1 hbox hb; have M0 := Aside0.mk hbox; have B1 := Aside0.mk hb; have G1 := Aside0.mk (Nat.le_of_eq hg.symm); clear hg hbox hb) | ((with_reducible refine gate_dst (N := 3) rfl ?_); refine box_event ?hg (N := 3) ?hd (cs := #[.int .i64 0]) (t := 28) ?hr ?_; (case hd => rfl); (case hg => rfl); (case hr => first | (go_simp; done) | (go_simp; rfl)); intro g2 hg w2 hbox hb; have N0 := Aside0.mk hbox; have M1 := Aside0.mk (blk_below M0.out hb); have B2 := Aside0.mk (below_step B1.out hb); have G2 := Aside0.mk (Nat.le_trans B1.out.size (Nat.le_of_eq hg.symm)); have E12 := Aside0.mk (blk_ne M1.out N0.out (by decide)); clear M0; clear B1; clear hg hbox hb) | ((with_reducible refine gate_dst (N := 13) rfl ?_); refine box_event ?hg (N := 13) ?hd (cs := #[.string s]) (t := 67) ?hr ?_; (case hd => rfl); (case hg => rfl); (case hr => first | (go_simp; done) | (go_simp; rfl)); intro g3 hg w3 hbox hb; have R := Aside0.mk hbox; have M := Aside0.mk (blk_below M1.out hb); have NN := Aside0.mk (blk_below N0.out hb); have HB := Aside0.mk (below_step B2.out hb); have G3 := Aside0.mk (Nat.le_trans B2.out.size (Nat.le_of_eq hg.symm)); have E13 := Aside0.mk (blk_ne M.out R.out (by decide)); have E23 := Aside0.mk (blk_ne NN.out R.out (by decide)); clear M1; clear N0; clear B2; clear hg hbox hb))
  refine (take_no g3 s 6 _ (by omega) R.out).mono ?_
  rintro e w4 ⟨rfl, rfl⟩
  go_wp2_with fail
  refine leaves_cons (f := 42) (args := #[.pointer (some ⟨g1, 0, none⟩), .pointer (some ⟨g2, 0, none⟩)]) (by simp) (by simp [go_sem]) ?_
  refine (catch_panic g1 g2 _ _ _ _ _ _ _ [] _ E12.out M.out NN.out).mono ?_
  rintro e u' w9 ⟨rfl, rfl, k1, k2, kb⟩
  exact ⟨_, results28 _ _ g1 g2 _ _ _ _ _ _ 60 rfl k1 rfl k2, rfl, kb w HB.out G1.out G2.out⟩
theorem size6 (s : ByteArray) : (s.extract 6 s.size).size = s.size - 6 := by rw [ByteArray.size_extract]; omega
theorem ext_ext (s : ByteArray) (a b : Nat) : (s.extract a s.size).extract b (s.extract a s.size).size = s.extract (a + b) s.size := by
  apply Mth.B_inj
  rw [Mth.B_extract, Mth.B_extract, Mth.B_extract, ByteArray.size_extract, List.take_of_length_le (l := Mth.B s) (by rw [Mth.B_length]; exact Nat.le_refl _), List.take_of_length_le (by rw [List.length_drop, Mth.B_length]; omega), List.drop_drop]
theorem ext6 (s : ByteArray) : (s.extract 6 s.size).extract 6 (s.extract 6 s.size).size = s.extract 12 s.size := ext_ext s 6 6
theorem sizeX (s : ByteArray) (a : Nat) : (s.extract a s.size).size = s.size - a := by rw [ByteArray.size_extract]; omega
set_option maxHeartbeats 8000000 in
set_option maxRecDepth 100000 in
theorem parse_short2 (s : ByteArray) (w : World) (h0 : 6 ≤ s.size) (h : s.size < 12) :
    Calls Try.prog 28 #[.string s] w fun e w' => e = .returned (.tuple #[.agg #[.string ⟨#[]⟩, .string ⟨#[]⟩, .int .i64 0, .int .i64 0, .int .i64 0, .string ⟨#[]⟩], .int .i64 60]) ∧ Below w.heap.size w w' := by
  have h1 : decide ((1518 : Int) < (s.size : Int)) = false := decide_eq_false (by omega)
  have h2 : decide (1518 < s.size) = false := decide_eq_false (by omega)
  have hs : s.size ≤ 281474976710656 := by omega
  have hmf : ∀ (fn : Fn) (first cap : Array Value) (w : World), (Instr.makeFunc fn first cap).run Try.prog w = .ok (.func fn first cap) w := fun _ _ _ _ => rfl
  have hu23 := Try.underlying52
  have hu41 := Try.underlying67
  go_enter_defers Try.func28, Try.ntmps28
  go_wp2_with (first | ((with_reducible refine gate_dst (N := 2) rfl ?_); refine box_event ?hg (N := 2) ?hd (cs := #[.string ⟨#[]⟩, .string ⟨#[]⟩, .int .i64 0, .int .i64 0, .int .i64 0, .string ⟨#[]⟩]) (t := 52) ?hr ?_; (case hd => rfl); (case hg => rfl); (case hr => first | (go_simp; done) | (go_simp; rfl)); intro g1 hg w1 hbox hb; have M0 := Aside0.mk hbox; have B1 := Aside0.mk hb; have G1 := Aside0.mk (Nat.le_of_eq hg.symm); clear hg hbox hb) | ((with_reducible refine gate_dst (N := 3) rfl ?_); refine box_event ?hg (N := 3) ?hd (cs := #[.int .i64 0]) (t := 28) ?hr ?_; (case hd => rfl); (case hg => rfl); (case hr => first | (go_simp; done) | (go_simp; rfl)); intro g2 hg w2 hbox hb; have N0 := Aside0.mk hbox; have M1 := Aside0.mk (blk_below M0.out hb); have B2 := Aside0.mk (below_step B1.out hb); have G2 := Aside0.mk (Nat.le_trans B1.out.size (Nat.le_of_eq hg.symm)); have E12 := Aside0.mk (blk_ne M1.out N0.out (by decide)); clear M0; clear B1; clear hg hbox hb) | ((with_reducible refine gate_dst (N := 13) rfl ?_); refine box_event ?hg (N := 13) ?hd (cs := #[.string s]) (t := 67) ?hr ?_; (case hd => rfl); (case hg => rfl); (case hr => first | (go_simp; done) | (go_simp; rfl)); intro g3 hg w3 hbox hb; have R := Aside0.mk hbox; have M := Aside0.mk (blk_below M1.out hb); have NN := Aside0.mk (blk_below N0.out hb); have HB := Aside0.mk (below_step B2.out hb); have G3 := Aside0.mk (Nat.le_trans B2.out.size (Nat.le_of_eq hg.symm)); have E13 := Aside0.mk (blk_ne M.out R.out (by decide)); have E23 := Aside0.mk (blk_ne NN.out R.out (by decide)); clear M1; clear N0; clear B2; clear hg hbox hb))
  refine (take_ok g3 s 6 _ (by omega) (by omega) hs R.out).mono ?_
  rintro e w4 ⟨rfl, hw_⟩
  have hst : Step g3 w3 w4 := by rw [hw_]; exact step_set _ _ _
  have hrd : w4.heap[g3]? = some (.cells #[.string (s.extract 6 s.size)] 67 (0, 0)) := by rw [hw_]; exact blk_put R.out 0 _ rfl
  clear hw_
  have M_ := Aside0.mk (hst.1 g1 _ E13.out M.out)
  have NN_ := Aside0.mk (hst.1 g2 _ E23.out NN.out)
  have HB_ := Aside0.mk (hst.2 w HB.out G3.out)
  clear M NN HB R hst
  have M := M_
  have NN := NN_
  have HB := HB_
  have R := Aside0.mk hrd
  clear M_ NN_ HB_ hrd
  go_wp2_with fail
  refine (take_no g3 (s.extract 6 s.size) 6 _ (by rw [size6 s]; omega) R.out).mono ?_
  rintro e w5 ⟨rfl, rfl⟩
  go_wp2_with fail
  refine leaves_cons (f := 42) (args := #[.pointer (some ⟨g1, 0, none⟩), .pointer (some ⟨g2, 0, none⟩)]) (by simp) (by simp [go_sem]) ?_
  refine (catch_panic g1 g2 _ _ _ _ _ _ _ [] _ E12.out M.out NN.out).mono ?_
  rintro e u' w9 ⟨rfl, rfl, k1, k2, kb⟩
  exact ⟨_, results28 _ _ g1 g2 _ _ _ _ _ _ 60 rfl k1 rfl k2, rfl, kb w HB.out G1.out G2.out⟩
set_option maxHeartbeats 8000000 in
set_option maxRecDepth 100000 in
theorem parse_short3 (s : ByteArray) (w : World) (h0 : 12 ≤ s.size) (h : s.size < 14) :
    Calls Try.prog 28 #[.string s] w fun e w' => e = .returned (.tuple #[.agg #[.string ⟨#[]⟩, .string ⟨#[]⟩, .int .i64 0, .int .i64 0, .int .i64 0, .string ⟨#[]⟩], .int .i64 60]) ∧ Below w.heap.size w w' := by
  have h1 : decide ((1518 : Int) < (s.size : Int)) = false := decide_eq_false (by omega)
  have h2 : decide (1518 < s.size) = false := decide_eq_false (by omega)
  have hs : s.size ≤ 281474976710656 := by omega
  have hmf : ∀ (fn : Fn) (first cap : Array Value) (w : World), (Instr.makeFunc fn first cap).run Try.prog w = .ok (.func fn first cap) w := fun _ _ _ _ => rfl
  have hu23 := Try.underlying52
  have hu41 := Try.underlying67
  go_enter_defers Try.func28, Try.ntmps28
  go_wp2_with (first | ((with_reducible refine gate_dst (N := 2) rfl ?_); refine box_event ?hg (N := 2) ?hd (cs := #[.string ⟨#[]⟩, .string ⟨#[]⟩, .int .i64 0, .int .i64 0, .int .i64 0, .string ⟨#[]⟩]) (t := 52) ?hr ?_; (case hd => rfl); (case hg => rfl); (case hr => first | (go_simp; done) | (go_simp; rfl)); intro g1 hg w1 hbox hb; have M0 := Aside0.mk hbox; have B1 := Aside0.mk hb; have G1 := Aside0.mk (Nat.le_of_eq hg.symm); clear hg hbox hb) | ((with_reducible refine gate_dst (N := 3) rfl ?_); refine box_event ?hg (N := 3) ?hd (cs := #[.int .i64 0]) (t := 28) ?hr ?_; (case hd => rfl); (case hg => rfl); (case hr => first | (go_simp; done) | (go_simp; rfl)); intro g2 hg w2 hbox hb; have N0 := Aside0.mk hbox; have M1 := Aside0.mk (blk_below M0.out hb); have B2 := Aside0.mk (below_step B1.out hb); have G2 := Aside0.mk (Nat.le_trans B1.out.size (Nat.le_of_eq hg.symm)); have E12 := Aside0.mk (blk_ne M1.out N0.out (by decide)); clear M0; clear B1; clear hg hbox hb) | ((with_reducible refine gate_dst (N := 13) rfl ?_); refine box_event ?hg (N := 13) ?hd (cs := #[.string s]) (t := 67) ?hr ?_; (case hd => rfl); (case hg => rfl); (case hr => first | (go_simp; done) | (go_simp; rfl)); intro g3 hg w3 hbox hb; have R := Aside0.mk hbox; have M := Aside0.mk (blk_below M1.out hb); have NN := Aside0.mk (blk_below N0.out hb); have HB := Aside0.mk (below_step B2.out hb); have G3 := Aside0.mk (Nat.le_trans B2.out.size (Nat.le_of_eq hg.symm)); have E13 := Aside0.mk (blk_ne M.out R.out (by decide)); have E23 := Aside0.mk (blk_ne NN.out R.out (by decide)); clear M1; clear N0; clear B2; clear hg hbox hb))
  refine (take_ok g3 s 6 _ (by omega) (by omega) hs R.out).mono ?_
  rintro e w4 ⟨rfl, hw_⟩
  have hst : Step g3 w3 w4 := by rw [hw_]; exact step_set _ _ _
  have hrd : w4.heap[g3]? = some (.cells #[.string (s.extract 6 s.size)] 67 (0, 0)) := by rw [hw_]; exact blk_put R.out 0 _ rfl
  clear hw_
  have M_ := Aside0.mk (hst.1 g1 _ E13.out M.out)
  have NN_ := Aside0.mk (hst.1 g2 _ E23.out NN.out)
  have HB_ := Aside0.mk (hst.2 w HB.out G3.out)
  clear M NN HB R hst
  have M := M_
  have NN := NN_
  have HB := HB_
  have R := Aside0.mk hrd
  clear M_ NN_ HB_ hrd
  go_wp2_with fail
  refine (take_ok g3 (s.extract 6 s.size) 6 _ (by omega) (by rw [size6 s]; omega) (by rw [size6 s]; omega) R.out).mono ?_
  rintro e w5 ⟨rfl, hw_⟩
  have hst : Step g3 w4 w5 := by rw [hw_]; exact step_set _ _ _
  have hrd : w5.heap[g3]? = some (.cells #[.string (s.extract 12 s.size)] 67 (0, 0)) := by rw [hw_]; exact blk_put R.out 0 _ (by rw [show (6 : Int).toNat = 6 from rfl, ext6 s]; rfl)
  clear hw_
  have M_ := Aside0.mk (hst.1 g1 _ E13.out M.out)
  have NN_ := Aside0.mk (hst.1 g2 _ E23.out NN.out)
  have HB_ := Aside0.mk (hst.2 w HB.out G3.out)
  clear M NN HB R hst
  have M := M_
  have NN := NN_
  have HB := HB_
  have R := Aside0.mk hrd
  clear M_ NN_ HB_ hrd
  go_wp2_with fail
  refine (two_no g3 (s.extract 12 s.size) _ (by rw [sizeX]; omega) R.out).mono ?_
  rintro e w6 ⟨rfl, rfl⟩
  go_wp2_with fail
  refine leaves_cons (f := 42) (args := #[.pointer (some ⟨g1, 0, none⟩), .pointer (some ⟨g2, 0, none⟩)]) (by simp) (by simp [go_sem]) ?_
  refine (catch_panic g1 g2 _ _ _ _ _ _ _ [] _ E12.out M.out NN.out).mono ?_
  rintro e u' w9 ⟨rfl, rfl, k1, k2, kb⟩
  exact ⟨_, results28 _ _ g1 g2 _ _ _ _ _ _ 60 rfl k1 rfl k2, rfl, kb w HB.out G1.out G2.out⟩
theorem ext_in (s : ByteArray) : (s.extract 6 s.size).extract 0 6 = s.extract 6 12 := by
  apply Mth.B_inj
  rw [Mth.B_extract, Mth.B_extract, Mth.B_extract, List.take_of_length_le (l := Mth.B s) (by rw [Mth.B_length]; exact Nat.le_refl _), List.drop_zero, List.drop_take]
/-- A struct that was stored, its world under a name. -/
theorem stored6 (g1 g2 g3 : Nat) (w0 w : World) (u0 u1 u2 u3 u4 u5 c0 c1 c2 c3 c4 c5 d r : Value) (h1 : w.heap[g1]? = some (.cells #[c0, c1, c2, c3, c4, c5] 52 (0, 0))) (h2 : w.heap[g2]? = some (.cells #[d] 28 (0, 0))) (h3 : w.heap[g3]? = some (.cells #[r] 67 (0, 0)))
    (n2 : g2 ≠ g1) (n3 : g3 ≠ g1) (hb : Below w0.heap.size w0 w) (hg : w0.heap.size ≤ g1) :
    ∃ w', w' = (((((w.setCell ⟨g1, 0, none⟩ u0).setCell ⟨g1, 1, none⟩ u1).setCell ⟨g1, 2, none⟩ u2).setCell ⟨g1, 3, none⟩ u3).setCell ⟨g1, 4, none⟩ u4).setCell ⟨g1, 5, none⟩ u5 ∧
      Aside0 (w'.heap[g1]? = some (.cells #[u0, u1, u2, u3, u4, u5] 52 (0, 0))) ∧ Aside0 (w'.heap[g2]? = some (.cells #[d] 28 (0, 0))) ∧ Aside0 (w'.heap[g3]? = some (.cells #[r] 67 (0, 0))) ∧ Aside0 (Below w0.heap.size w0 w') := by
  refine ⟨_, rfl, ⟨?_⟩, ⟨?_⟩, ⟨?_⟩, ⟨?_⟩⟩
  · refine blk_put (cs := #[u0, u1, u2, u3, u4, c5]) ?_ 5 _ rfl
    refine blk_put (cs := #[u0, u1, u2, u3, c4, c5]) ?_ 4 _ rfl
    refine blk_put (cs := #[u0, u1, u2, c3, c4, c5]) ?_ 3 _ rfl
    refine blk_put (cs := #[u0, u1, c2, c3, c4, c5]) ?_ 2 _ rfl
    refine blk_put (cs := #[u0, c1, c2, c3, c4, c5]) ?_ 1 _ rfl
    exact blk_put (cs := #[c0, c1, c2, c3, c4, c5]) h1 0 _ rfl
  · exact blk_far (blk_far (blk_far (blk_far (blk_far (blk_far h2 n2 _) n2 _) n2 _) n2 _) n2 _) n2 _
  · exact blk_far (blk_far (blk_far (blk_far (blk_far (blk_far h3 n3 _) n3 _) n3 _) n3 _) n3 _) n3 _
  · exact below_set (below_set (below_set (below_set (below_set (below_set hb hg) hg) hg) hg) hg) hg
theorem stored1 (g1 g2 g3 : Nat) (w0 w : World) (u5 c0 c1 c2 c3 c4 c5 d r : Value) (h1 : w.heap[g1]? = some (.cells #[c0, c1, c2, c3, c4, c5] 52 (0, 0))) (h2 : w.heap[g2]? = some (.cells #[d] 28 (0, 0))) (h3 : w.heap[g3]? = some (.cells #[r] 67 (0, 0)))
    (n2 : g2 ≠ g1) (n3 : g3 ≠ g1) (hb : Below w0.heap.size w0 w) (hg : w0.heap.size ≤ g1) :
    ∃ w', w' = w.setCell ⟨g1, 5, none⟩ u5 ∧
      Aside0 (w'.heap[g1]? = some (.cells #[c0, c1, c2, c3, c4, u5] 52 (0, 0))) ∧ Aside0 (w'.heap[g2]? = some (.cells #[d] 28 (0, 0))) ∧ Aside0 (w'.heap[g3]? = some (.cells #[r] 67 (0, 0))) ∧ Aside0 (Below w0.heap.size w0 w') :=
  ⟨_, rfl, ⟨blk_put (cs := #[c0, c1, c2, c3, c4, c5]) h1 5 _ rfl⟩, ⟨blk_far h2 n2 _⟩, ⟨blk_far h3 n3 _⟩, ⟨below_set hb hg⟩⟩
set_option maxHeartbeats 8000000 in
set_option maxRecDepth 100000 in
theorem parse_plain (s : ByteArray) (k : Nat) (v : Int) (w : World) (h0 : 14 ≤ s.size) (h : s.size ≤ 1518) (hv0 : 0 ≤ v) (hv1 : v < 65536) (hw : words_Get.f k ((s.extract 12 s.size).extract 0 2) 0 2 true = some (v, 0)) (ht : ¬ v = 33024) (hm : eth_may.f v = some true) :
    Calls Try.prog 28 #[.string s] w fun e w' => e = .returned (.tuple #[.agg #[.string (s.extract 0 6), .string (s.extract 6 12), .int .i64 (-1), .int .i64 0, .int .i64 v, .string (s.extract 14 s.size)], .int .i64 0]) ∧ Below w.heap.size w w' := by
  have HV := Aside0.mk hw
  have v0 := Aside0.mk hv0
  have v1 := Aside0.mk hv1
  have HM := Aside0.mk hm
  clear hw hv0 hv1 hm
  have ht1 : (v == 33024) = false := beq_eq_false_iff_ne.2 ht
  have hb0 : (Go.bits .and .i64 0 4096 != 0) = false := by decide +kernel
  clear ht
  have h1 : decide ((1518 : Int) < (s.size : Int)) = false := decide_eq_false (by omega)
  have h2 : decide (1518 < s.size) = false := decide_eq_false (by omega)
  have hs : s.size ≤ 281474976710656 := by omega
  have hmf : ∀ (fn : Fn) (first cap : Array Value) (w : World), (Instr.makeFunc fn first cap).run Try.prog w = .ok (.func fn first cap) w := fun _ _ _ _ => rfl
  have hu23 := Try.underlying52
  have hu41 := Try.underlying67
  go_enter_defers Try.func28, Try.ntmps28
  go_wp2_with (first | ((with_reducible refine gate_dst (N := 2) rfl ?_); refine box_event ?hg (N := 2) ?hd (cs := #[.string ⟨#[]⟩, .string ⟨#[]⟩, .int .i64 0, .int .i64 0, .int .i64 0, .string ⟨#[]⟩]) (t := 52) ?hr ?_; (case hd => rfl); (case hg => rfl); (case hr => first | (go_simp; done) | (go_simp; rfl)); intro g1 hg w1 hbox hb; have M0 := Aside0.mk hbox; have B1 := Aside0.mk hb; have G1 := Aside0.mk (Nat.le_of_eq hg.symm); clear hg hbox hb) | ((with_reducible refine gate_dst (N := 3) rfl ?_); refine box_event ?hg (N := 3) ?hd (cs := #[.int .i64 0]) (t := 28) ?hr ?_; (case hd => rfl); (case hg => rfl); (case hr => first | (go_simp; done) | (go_simp; rfl)); intro g2 hg w2 hbox hb; have N0 := Aside0.mk hbox; have M1 := Aside0.mk (blk_below M0.out hb); have B2 := Aside0.mk (below_step B1.out hb); have G2 := Aside0.mk (Nat.le_trans B1.out.size (Nat.le_of_eq hg.symm)); have E12 := Aside0.mk (blk_ne M1.out N0.out (by decide)); clear M0; clear B1; clear hg hbox hb) | ((with_reducible refine gate_dst (N := 13) rfl ?_); refine box_event ?hg (N := 13) ?hd (cs := #[.string s]) (t := 67) ?hr ?_; (case hd => rfl); (case hg => rfl); (case hr => first | (go_simp; done) | (go_simp; rfl)); intro g3 hg w3 hbox hb; have R := Aside0.mk hbox; have M := Aside0.mk (blk_below M1.out hb); have NN := Aside0.mk (blk_below N0.out hb); have HB := Aside0.mk (below_step B2.out hb); have G3 := Aside0.mk (Nat.le_trans B2.out.size (Nat.le_of_eq hg.symm)); have E13 := Aside0.mk (blk_ne M.out R.out (by decide)); have E23 := Aside0.mk (blk_ne NN.out R.out (by decide)); clear M1; clear N0; clear B2; clear hg hbox hb))
  refine (take_ok g3 s 6 _ (by omega) (by omega) hs R.out).mono ?_
  rintro e w4 ⟨rfl, hw_⟩
  have hst : Step g3 w3 w4 := by rw [hw_]; exact step_set _ _ _
  have hrd : w4.heap[g3]? = some (.cells #[.string (s.extract 6 s.size)] 67 (0, 0)) := by rw [hw_]; exact blk_put R.out 0 _ rfl
  clear hw_
  have M_ := Aside0.mk (hst.1 g1 _ E13.out M.out)
  have NN_ := Aside0.mk (hst.1 g2 _ E23.out NN.out)
  have HB_ := Aside0.mk (hst.2 w HB.out G3.out)
  clear M NN HB R hst
  have M := M_
  have NN := NN_
  have HB := HB_
  have R := Aside0.mk hrd
  clear M_ NN_ HB_ hrd
  go_wp2_with fail
  refine (take_ok g3 (s.extract 6 s.size) 6 _ (by omega) (by rw [size6 s]; omega) (by rw [size6 s]; omega) R.out).mono ?_
  rintro e w5 ⟨rfl, hw_⟩
  have hst : Step g3 w4 w5 := by rw [hw_]; exact step_set _ _ _
  have hrd : w5.heap[g3]? = some (.cells #[.string (s.extract 12 s.size)] 67 (0, 0)) := by rw [hw_]; exact blk_put R.out 0 _ (by rw [show (6 : Int).toNat = 6 from rfl, ext6 s]; rfl)
  clear hw_
  have M_ := Aside0.mk (hst.1 g1 _ E13.out M.out)
  have NN_ := Aside0.mk (hst.1 g2 _ E23.out NN.out)
  have HB_ := Aside0.mk (hst.2 w HB.out G3.out)
  clear M NN HB R hst
  have M := M_
  have NN := NN_
  have HB := HB_
  have R := Aside0.mk hrd
  clear M_ NN_ HB_ hrd
  go_wp2_with fail
  refine (two_ok g3 (s.extract 12 s.size) k v _ (by rw [sizeX]; omega) (by rw [sizeX]; omega) v0.out v1.out R.out HV.out).mono ?_
  rintro e w6 ⟨rfl, hrd, hst⟩
  rw [ext_ext s 12 2] at hrd
  have M_ := Aside0.mk (hst.1 g1 _ E13.out M.out)
  have NN_ := Aside0.mk (hst.1 g2 _ E23.out NN.out)
  have HB_ := Aside0.mk (hst.2 w HB.out G3.out)
  clear M NN HB R hst
  have M := M_
  have NN := NN_
  have HB := HB_
  have R := Aside0.mk hrd
  clear M_ NN_ HB_ hrd
  have hcz0 : w6.cell? ⟨g1, 0, none⟩ = some (.string ⟨#[]⟩) := (blk_cell M.out 0).trans rfl
  have hfz0 := blk_frozen M.out 0
  have hcz1 : w6.cell? ⟨g1, 1, none⟩ = some (.string ⟨#[]⟩) := (blk_cell M.out 1).trans rfl
  have hfz1 := blk_frozen M.out 1
  have hcz2 : w6.cell? ⟨g1, 2, none⟩ = some (.int .i64 0) := (blk_cell M.out 2).trans rfl
  have hfz2 := blk_frozen M.out 2
  have hcz3 : w6.cell? ⟨g1, 3, none⟩ = some (.int .i64 0) := (blk_cell M.out 3).trans rfl
  have hfz3 := blk_frozen M.out 3
  have hcz4 : w6.cell? ⟨g1, 4, none⟩ = some (.int .i64 0) := (blk_cell M.out 4).trans rfl
  have hfz4 := blk_frozen M.out 4
  have hcz5 : w6.cell? ⟨g1, 5, none⟩ = some (.string ⟨#[]⟩) := (blk_cell M.out 5).trans rfl
  have hfz5 := blk_frozen M.out 5
  have hcy : w6.cell? ⟨g2, 0, none⟩ = some (.int .i64 0) := (blk_cell NN.out 0).trans rfl
  have hfy := blk_frozen NN.out 0
  have hcr : w6.cell? ⟨g3, 0, none⟩ = some (.string (s.extract 14 s.size)) := (blk_cell R.out 0).trans rfl
  have hfr := blk_frozen R.out 0
  have hne := E12.out
  have hne' : g2 ≠ g1 := fun h => hne h.symm
  have hn3 := E13.out
  have hn3' : g3 ≠ g1 := fun h => hn3 h.symm
  have hn4 := E23.out
  have hn4' : g3 ≠ g2 := fun h => hn4 h.symm
  go_upto_region 10 with (fail)
  rw [show (s.extract 6 s.size).extract 0 6 = s.extract 6 12 from ext_in s]
  obtain ⟨w7, hw7, M7, N7, R7, B7⟩ := stored6 g1 g2 g3 w w6 (.string (s.extract 0 6)) (.string (s.extract 6 12)) (.int .i64 (-1)) (.int .i64 0) (.int .i64 v) (.string ⟨#[]⟩) _ _ _ _ _ _ _ _ M.out NN.out R.out hne' hn3' HB.out G1.out
  rw [← hw7]
  clear hw7 hcz0 hcz1 hcz2 hcz3 hcz4 hcz5 hfz0 hfz1 hfz2 hfz3 hfz4 hfz5 hcy hfy hcr hfr M NN R HB
  have M := M7
  have NN := N7
  have R := R7
  have HB := B7
  clear M7 N7 R7 B7
  have hcz0 : w7.cell? ⟨g1, 0, none⟩ = some (.string (s.extract 0 6)) := (blk_cell M.out 0).trans rfl
  have hfz0 := blk_frozen M.out 0
  have hcz1 : w7.cell? ⟨g1, 1, none⟩ = some (.string (s.extract 6 12)) := (blk_cell M.out 1).trans rfl
  have hfz1 := blk_frozen M.out 1
  have hcz2 : w7.cell? ⟨g1, 2, none⟩ = some (.int .i64 (-1)) := (blk_cell M.out 2).trans rfl
  have hfz2 := blk_frozen M.out 2
  have hcz3 : w7.cell? ⟨g1, 3, none⟩ = some (.int .i64 0) := (blk_cell M.out 3).trans rfl
  have hfz3 := blk_frozen M.out 3
  have hcz4 : w7.cell? ⟨g1, 4, none⟩ = some (.int .i64 v) := (blk_cell M.out 4).trans rfl
  have hfz4 := blk_frozen M.out 4
  have hcz5 : w7.cell? ⟨g1, 5, none⟩ = some (.string ⟨#[]⟩) := (blk_cell M.out 5).trans rfl
  have hfz5 := blk_frozen M.out 5
  have hcy : w7.cell? ⟨g2, 0, none⟩ = some (.int .i64 0) := (blk_cell NN.out 0).trans rfl
  have hfy := blk_frozen NN.out 0
  have hcr : w7.cell? ⟨g3, 0, none⟩ = some (.string (s.extract 14 s.size)) := (blk_cell R.out 0).trans rfl
  have hfr := blk_frozen R.out 0
  go_wp2_with fail
  refine (eth_may.calls v true _ HM.out).mono ?_
  rintro e w8 ⟨rfl, ⟨nd, rfl⟩⟩
  go_upto_region 13 with (fail)
  trace "A"
  obtain ⟨w9, hw9, M9, N9, R9, B9⟩ := stored1 g1 g2 g3 w (w7.drewN nd) (.string (s.extract 14 s.size)) _ _ _ _ _ _ _ _ M.out NN.out R.out hne' hn3' (pw_below_drewN HB.out _) G1.out
  rw [← hw9]
  clear hw9 hcz0 hcz1 hcz2 hcz3 hcz4 hcz5 hfz0 hfz1 hfz2 hfz3 hfz4 hfz5 hcy hfy hcr hfr M NN R HB
  have M := M9
  have NN := N9
  have R := R9
  have HB := B9
  clear M9 N9 R9 B9
  have hcz0 : w9.cell? ⟨g1, 0, none⟩ = some (.string (s.extract 0 6)) := (blk_cell M.out 0).trans rfl
  have hfz0 := blk_frozen M.out 0
  have hcz1 : w9.cell? ⟨g1, 1, none⟩ = some (.string (s.extract 6 12)) := (blk_cell M.out 1).trans rfl
  have hfz1 := blk_frozen M.out 1
  have hcz2 : w9.cell? ⟨g1, 2, none⟩ = some (.int .i64 (-1)) := (blk_cell M.out 2).trans rfl
  have hfz2 := blk_frozen M.out 2
  have hcz3 : w9.cell? ⟨g1, 3, none⟩ = some (.int .i64 0) := (blk_cell M.out 3).trans rfl
  have hfz3 := blk_frozen M.out 3
  have hcz4 : w9.cell? ⟨g1, 4, none⟩ = some (.int .i64 v) := (blk_cell M.out 4).trans rfl
  have hfz4 := blk_frozen M.out 4
  have hcz5 : w9.cell? ⟨g1, 5, none⟩ = some (.string (s.extract 14 s.size)) := (blk_cell M.out 5).trans rfl
  have hfz5 := blk_frozen M.out 5
  have hcy : w9.cell? ⟨g2, 0, none⟩ = some (.int .i64 0) := (blk_cell NN.out 0).trans rfl
  have hfy := blk_frozen NN.out 0
  have hcr : w9.cell? ⟨g3, 0, none⟩ = some (.string (s.extract 14 s.size)) := (blk_cell R.out 0).trans rfl
  have hfr := blk_frozen R.out 0
  go_wp2_with fail
  refine leaves_cons (f := 42) (args := #[.pointer (some ⟨g1, 0, none⟩), .pointer (some ⟨g2, 0, none⟩)]) (by simp) (by simp [go_sem]) ?_
  refine (catch_idle _ _ _).mono ?_
  rintro e u' w10 ⟨rfl, rfl, rfl⟩
  obtain ⟨w11, hw11, M11, N11, R11, B11⟩ := stored6 g1 g2 g3 w w9 (.string (s.extract 0 6)) (.string (s.extract 6 12)) (.int .i64 (-1)) (.int .i64 0) (.int .i64 v) (.string (s.extract 14 s.size)) _ _ _ _ _ _ _ _ M.out NN.out R.out hne' hn3' HB.out G1.out
  rw [← hw11]
  exact ⟨_, results28 _ _ g1 g2 _ _ _ _ _ _ 0 rfl (blk_far M11.out hne _) rfl (blk_put N11.out 0 _ rfl), rfl, below_set B11.out G2.out⟩
set_option maxHeartbeats 8000000 in
set_option maxRecDepth 100000 in
theorem parse_plain_bad (s : ByteArray) (k : Nat) (v : Int) (w : World) (h0 : 14 ≤ s.size) (h : s.size ≤ 1518) (hv0 : 0 ≤ v) (hv1 : v < 65536) (hw : words_Get.f k ((s.extract 12 s.size).extract 0 2) 0 2 true = some (v, 0)) (ht : ¬ v = 33024) (hm : eth_may.f v = some false) :
    Calls Try.prog 28 #[.string s] w fun e w' => e = .returned (.tuple #[.agg #[.string ⟨#[]⟩, .string ⟨#[]⟩, .int .i64 0, .int .i64 0, .int .i64 0, .string ⟨#[]⟩], .int .i64 61]) ∧ Below w.heap.size w w' := by
  have HV := Aside0.mk hw
  have v0 := Aside0.mk hv0
  have v1 := Aside0.mk hv1
  have HM := Aside0.mk hm
  clear hw hv0 hv1 hm
  have ht1 : (v == 33024) = false := beq_eq_false_iff_ne.2 ht
  have hb0 : (Go.bits .and .i64 0 4096 != 0) = false := by decide +kernel
  clear ht
  have h1 : decide ((1518 : Int) < (s.size : Int)) = false := decide_eq_false (by omega)
  have h2 : decide (1518 < s.size) = false := decide_eq_false (by omega)
  have hs : s.size ≤ 281474976710656 := by omega
  have hmf : ∀ (fn : Fn) (first cap : Array Value) (w : World), (Instr.makeFunc fn first cap).run Try.prog w = .ok (.func fn first cap) w := fun _ _ _ _ => rfl
  have hu23 := Try.underlying52
  have hu41 := Try.underlying67
  go_enter_defers Try.func28, Try.ntmps28
  go_wp2_with (first | ((with_reducible refine gate_dst (N := 2) rfl ?_); refine box_event ?hg (N := 2) ?hd (cs := #[.string ⟨#[]⟩, .string ⟨#[]⟩, .int .i64 0, .int .i64 0, .int .i64 0, .string ⟨#[]⟩]) (t := 52) ?hr ?_; (case hd => rfl); (case hg => rfl); (case hr => first | (go_simp; done) | (go_simp; rfl)); intro g1 hg w1 hbox hb; have M0 := Aside0.mk hbox; have B1 := Aside0.mk hb; have G1 := Aside0.mk (Nat.le_of_eq hg.symm); clear hg hbox hb) | ((with_reducible refine gate_dst (N := 3) rfl ?_); refine box_event ?hg (N := 3) ?hd (cs := #[.int .i64 0]) (t := 28) ?hr ?_; (case hd => rfl); (case hg => rfl); (case hr => first | (go_simp; done) | (go_simp; rfl)); intro g2 hg w2 hbox hb; have N0 := Aside0.mk hbox; have M1 := Aside0.mk (blk_below M0.out hb); have B2 := Aside0.mk (below_step B1.out hb); have G2 := Aside0.mk (Nat.le_trans B1.out.size (Nat.le_of_eq hg.symm)); have E12 := Aside0.mk (blk_ne M1.out N0.out (by decide)); clear M0; clear B1; clear hg hbox hb) | ((with_reducible refine gate_dst (N := 13) rfl ?_); refine box_event ?hg (N := 13) ?hd (cs := #[.string s]) (t := 67) ?hr ?_; (case hd => rfl); (case hg => rfl); (case hr => first | (go_simp; done) | (go_simp; rfl)); intro g3 hg w3 hbox hb; have R := Aside0.mk hbox; have M := Aside0.mk (blk_below M1.out hb); have NN := Aside0.mk (blk_below N0.out hb); have HB := Aside0.mk (below_step B2.out hb); have G3 := Aside0.mk (Nat.le_trans B2.out.size (Nat.le_of_eq hg.symm)); have E13 := Aside0.mk (blk_ne M.out R.out (by decide)); have E23 := Aside0.mk (blk_ne NN.out R.out (by decide)); clear M1; clear N0; clear B2; clear hg hbox hb))
  refine (take_ok g3 s 6 _ (by omega) (by omega) hs R.out).mono ?_
  rintro e w4 ⟨rfl, hw_⟩
  have hst : Step g3 w3 w4 := by rw [hw_]; exact step_set _ _ _
  have hrd : w4.heap[g3]? = some (.cells #[.string (s.extract 6 s.size)] 67 (0, 0)) := by rw [hw_]; exact blk_put R.out 0 _ rfl
  clear hw_
  have M_ := Aside0.mk (hst.1 g1 _ E13.out M.out)
  have NN_ := Aside0.mk (hst.1 g2 _ E23.out NN.out)
  have HB_ := Aside0.mk (hst.2 w HB.out G3.out)
  clear M NN HB R hst
  have M := M_
  have NN := NN_
  have HB := HB_
  have R := Aside0.mk hrd
  clear M_ NN_ HB_ hrd
  go_wp2_with fail
  refine (take_ok g3 (s.extract 6 s.size) 6 _ (by omega) (by rw [size6 s]; omega) (by rw [size6 s]; omega) R.out).mono ?_
  rintro e w5 ⟨rfl, hw_⟩
  have hst : Step g3 w4 w5 := by rw [hw_]; exact step_set _ _ _
  have hrd : w5.heap[g3]? = some (.cells #[.string (s.extract 12 s.size)] 67 (0, 0)) := by rw [hw_]; exact blk_put R.out 0 _ (by rw [show (6 : Int).toNat = 6 from rfl, ext6 s]; rfl)
  clear hw_
  have M_ := Aside0.mk (hst.1 g1 _ E13.out M.out)
  have NN_ := Aside0.mk (hst.1 g2 _ E23.out NN.out)
  have HB_ := Aside0.mk (hst.2 w HB.out G3.out)
  clear M NN HB R hst
  have M := M_
  have NN := NN_
  have HB := HB_
  have R := Aside0.mk hrd
  clear M_ NN_ HB_ hrd
  go_wp2_with fail
  refine (two_ok g3 (s.extract 12 s.size) k v _ (by rw [sizeX]; omega) (by rw [sizeX]; omega) v0.out v1.out R.out HV.out).mono ?_
  rintro e w6 ⟨rfl, hrd, hst⟩
  rw [ext_ext s 12 2] at hrd
  have M_ := Aside0.mk (hst.1 g1 _ E13.out M.out)
  have NN_ := Aside0.mk (hst.1 g2 _ E23.out NN.out)
  have HB_ := Aside0.mk (hst.2 w HB.out G3.out)
  clear M NN HB R hst
  have M := M_
  have NN := NN_
  have HB := HB_
  have R := Aside0.mk hrd
  clear M_ NN_ HB_ hrd
  have hcz0 : w6.cell? ⟨g1, 0, none⟩ = some (.string ⟨#[]⟩) := (blk_cell M.out 0).trans rfl
  have hfz0 := blk_frozen M.out 0
  have hcz1 : w6.cell? ⟨g1, 1, none⟩ = some (.string ⟨#[]⟩) := (blk_cell M.out 1).trans rfl
  have hfz1 := blk_frozen M.out 1
  have hcz2 : w6.cell? ⟨g1, 2, none⟩ = some (.int .i64 0) := (blk_cell M.out 2).trans rfl
  have hfz2 := blk_frozen M.out 2
  have hcz3 : w6.cell? ⟨g1, 3, none⟩ = some (.int .i64 0) := (blk_cell M.out 3).trans rfl
  have hfz3 := blk_frozen M.out 3
  have hcz4 : w6.cell? ⟨g1, 4, none⟩ = some (.int .i64 0) := (blk_cell M.out 4).trans rfl
  have hfz4 := blk_frozen M.out 4
  have hcz5 : w6.cell? ⟨g1, 5, none⟩ = some (.string ⟨#[]⟩) := (blk_cell M.out 5).trans rfl
  have hfz5 := blk_frozen M.out 5
  have hcy : w6.cell? ⟨g2, 0, none⟩ = some (.int .i64 0) := (blk_cell NN.out 0).trans rfl
  have hfy := blk_frozen NN.out 0
  have hcr : w6.cell? ⟨g3, 0, none⟩ = some (.string (s.extract 14 s.size)) := (blk_cell R.out 0).trans rfl
  have hfr := blk_frozen R.out 0
  have hne := E12.out
  have hne' : g2 ≠ g1 := fun h => hne h.symm
  have hn3 := E13.out
  have hn3' : g3 ≠ g1 := fun h => hn3 h.symm
  have hn4 := E23.out
  have hn4' : g3 ≠ g2 := fun h => hn4 h.symm
  go_upto_region 10 with (fail)
  rw [show (s.extract 6 s.size).extract 0 6 = s.extract 6 12 from ext_in s]
  obtain ⟨w7, hw7, M7, N7, R7, B7⟩ := stored6 g1 g2 g3 w w6 (.string (s.extract 0 6)) (.string (s.extract 6 12)) (.int .i64 (-1)) (.int .i64 0) (.int .i64 v) (.string ⟨#[]⟩) _ _ _ _ _ _ _ _ M.out NN.out R.out hne' hn3' HB.out G1.out
  rw [← hw7]
  clear hw7 hcz0 hcz1 hcz2 hcz3 hcz4 hcz5 hfz0 hfz1 hfz2 hfz3 hfz4 hfz5 hcy hfy hcr hfr M NN R HB
  have M := M7
  have NN := N7
  have R := R7
  have HB := B7
  clear M7 N7 R7 B7
  have hcz0 : w7.cell? ⟨g1, 0, none⟩ = some (.string (s.extract 0 6)) := (blk_cell M.out 0).trans rfl
  have hfz0 := blk_frozen M.out 0
  have hcz1 : w7.cell? ⟨g1, 1, none⟩ = some (.string (s.extract 6 12)) := (blk_cell M.out 1).trans rfl
  have hfz1 := blk_frozen M.out 1
  have hcz2 : w7.cell? ⟨g1, 2, none⟩ = some (.int .i64 (-1)) := (blk_cell M.out 2).trans rfl
  have hfz2 := blk_frozen M.out 2
  have hcz3 : w7.cell? ⟨g1, 3, none⟩ = some (.int .i64 0) := (blk_cell M.out 3).trans rfl
  have hfz3 := blk_frozen M.out 3
  have hcz4 : w7.cell? ⟨g1, 4, none⟩ = some (.int .i64 v) := (blk_cell M.out 4).trans rfl
  have hfz4 := blk_frozen M.out 4
  have hcz5 : w7.cell? ⟨g1, 5, none⟩ = some (.string ⟨#[]⟩) := (blk_cell M.out 5).trans rfl
  have hfz5 := blk_frozen M.out 5
  have hcy : w7.cell? ⟨g2, 0, none⟩ = some (.int .i64 0) := (blk_cell NN.out 0).trans rfl
  have hfy := blk_frozen NN.out 0
  have hcr : w7.cell? ⟨g3, 0, none⟩ = some (.string (s.extract 14 s.size)) := (blk_cell R.out 0).trans rfl
  have hfr := blk_frozen R.out 0
  go_wp2_with fail
  refine (eth_may.calls v false _ HM.out).mono ?_
  rintro e w8 ⟨rfl, ⟨nd, rfl⟩⟩
  go_wp2_with fail
  refine leaves_cons (f := 42) (args := #[.pointer (some ⟨g1, 0, none⟩), .pointer (some ⟨g2, 0, none⟩)]) (by simp) (by simp [go_sem]) ?_
  refine (catch_idle _ _ _).mono ?_
  rintro e u' w10 ⟨rfl, rfl, rfl⟩
  obtain ⟨w11, hw11, M11, N11, R11, B11⟩ := stored6 g1 g2 g3 w (w7.drewN nd) (.string ⟨#[]⟩) (.string ⟨#[]⟩) (.int .i64 0) (.int .i64 0) (.int .i64 0) (.string ⟨#[]⟩) _ _ _ _ _ _ _ _ M.out NN.out R.out hne' hn3' (pw_below_drewN HB.out _) G1.out
  rw [← hw11]
  exact ⟨_, results28 _ _ g1 g2 _ _ _ _ _ _ 61 rfl (blk_far M11.out hne _) rfl (blk_put N11.out 0 _ rfl), rfl, below_set B11.out G2.out⟩
set_option maxHeartbeats 8000000 in
set_option maxRecDepth 100000 in
theorem parse_short4 (s : ByteArray) (k : Nat) (w : World) (h0 : 14 ≤ s.size) (h : s.size < 16) (hw : words_Get.f k ((s.extract 12 s.size).extract 0 2) 0 2 true = some (33024, 0)) :
    Calls Try.prog 28 #[.string s] w fun e w' => e = .returned (.tuple #[.agg #[.string ⟨#[]⟩, .string ⟨#[]⟩, .int .i64 0, .int .i64 0, .int .i64 0, .string ⟨#[]⟩], .int .i64 60]) ∧ Below w.heap.size w w' := by
  have HV := Aside0.mk hw
  have v0 : Aside0 ((0 : Int) ≤ 33024) := ⟨by decide⟩
  have v1 : Aside0 ((33024 : Int) < 65536) := ⟨by decide⟩
  clear hw
  have h1 : decide ((1518 : Int) < (s.size : Int)) = false := decide_eq_false (by omega)
  have h2 : decide (1518 < s.size) = false := decide_eq_false (by omega)
  have hs : s.size ≤ 281474976710656 := by omega
  have hmf : ∀ (fn : Fn) (first cap : Array Value) (w : World), (Instr.makeFunc fn first cap).run Try.prog w = .ok (.func fn first cap) w := fun _ _ _ _ => rfl
  have hu23 := Try.underlying52
  have hu41 := Try.underlying67
  go_enter_defers Try.func28, Try.ntmps28
  go_wp2_with (first | ((with_reducible refine gate_dst (N := 2) rfl ?_); refine box_event ?hg (N := 2) ?hd (cs := #[.string ⟨#[]⟩, .string ⟨#[]⟩, .int .i64 0, .int .i64 0, .int .i64 0, .string ⟨#[]⟩]) (t := 52) ?hr ?_; (case hd => rfl); (case hg => rfl); (case hr => first | (go_simp; done) | (go_simp; rfl)); intro g1 hg w1 hbox hb; have M0 := Aside0.mk hbox; have B1 := Aside0.mk hb; have G1 := Aside0.mk (Nat.le_of_eq hg.symm); clear hg hbox hb) | ((with_reducible refine gate_dst (N := 3) rfl ?_); refine box_event ?hg (N := 3) ?hd (cs := #[.int .i64 0]) (t := 28) ?hr ?_; (case hd => rfl); (case hg => rfl); (case hr => first | (go_simp; done) | (go_simp; rfl)); intro g2 hg w2 hbox hb; have N0 := Aside0.mk hbox; have M1 := Aside0.mk (blk_below M0.out hb); have B2 := Aside0.mk (below_step B1.out hb); have G2 := Aside0.mk (Nat.le_trans B1.out.size (Nat.le_of_eq hg.symm)); have E12 := Aside0.mk (blk_ne M1.out N0.out (by decide)); clear M0; clear B1; clear hg hbox hb) | ((with_reducible refine gate_dst (N := 13) rfl ?_); refine box_event ?hg (N := 13) ?hd (cs := #[.string s]) (t := 67) ?hr ?_; (case hd => rfl); (case hg => rfl); (case hr => first | (go_simp; done) | (go_simp; rfl)); intro g3 hg w3 hbox hb; have R := Aside0.mk hbox; have M := Aside0.mk (blk_below M1.out hb); have NN := Aside0.mk (blk_below N0.out hb); have HB := Aside0.mk (below_step B2.out hb); have G3 := Aside0.mk (Nat.le_trans B2.out.size (Nat.le_of_eq hg.symm)); have E13 := Aside0.mk (blk_ne M.out R.out (by decide)); have E23 := Aside0.mk (blk_ne NN.out R.out (by decide)); clear M1; clear N0; clear B2; clear hg hbox hb))
  refine (take_ok g3 s 6 _ (by omega) (by omega) hs R.out).mono ?_
  rintro e w4 ⟨rfl, hw_⟩
  have hst : Step g3 w3 w4 := by rw [hw_]; exact step_set _ _ _
  have hrd : w4.heap[g3]? = some (.cells #[.string (s.extract 6 s.size)] 67 (0, 0)) := by rw [hw_]; exact blk_put R.out 0 _ rfl
  clear hw_
  have M_ := Aside0.mk (hst.1 g1 _ E13.out M.out)
  have NN_ := Aside0.mk (hst.1 g2 _ E23.out NN.out)
  have HB_ := Aside0.mk (hst.2 w HB.out G3.out)
  clear M NN HB R hst
  have M := M_
  have NN := NN_
  have HB := HB_
  have R := Aside0.mk hrd
  clear M_ NN_ HB_ hrd
  go_wp2_with fail
  refine (take_ok g3 (s.extract 6 s.size) 6 _ (by omega) (by rw [size6 s]; omega) (by rw [size6 s]; omega) R.out).mono ?_
  rintro e w5 ⟨rfl, hw_⟩
  have hst : Step g3 w4 w5 := by rw [hw_]; exact step_set _ _ _
  have hrd : w5.heap[g3]? = some (.cells #[.string (s.extract 12 s.size)] 67 (0, 0)) := by rw [hw_]; exact blk_put R.out 0 _ (by rw [show (6 : Int).toNat = 6 from rfl, ext6 s]; rfl)
  clear hw_
  have M_ := Aside0.mk (hst.1 g1 _ E13.out M.out)
  have NN_ := Aside0.mk (hst.1 g2 _ E23.out NN.out)
  have HB_ := Aside0.mk (hst.2 w HB.out G3.out)
  clear M NN HB R hst
  have M := M_
  have NN := NN_
  have HB := HB_
  have R := Aside0.mk hrd
  clear M_ NN_ HB_ hrd
  go_wp2_with fail
  refine (two_ok g3 (s.extract 12 s.size) k 33024 _ (by rw [sizeX]; omega) (by rw [sizeX]; omega) v0.out v1.out R.out HV.out).mono ?_
  rintro e w6 ⟨rfl, hrd, hst⟩
  rw [ext_ext s 12 2] at hrd
  have M_ := Aside0.mk (hst.1 g1 _ E13.out M.out)
  have NN_ := Aside0.mk (hst.1 g2 _ E23.out NN.out)
  have HB_ := Aside0.mk (hst.2 w HB.out G3.out)
  clear M NN HB R hst
  have M := M_
  have NN := NN_
  have HB := HB_
  have R := Aside0.mk hrd
  clear M_ NN_ HB_ hrd
  have hcz0 : w6.cell? ⟨g1, 0, none⟩ = some (.string ⟨#[]⟩) := (blk_cell M.out 0).trans rfl
  have hfz0 := blk_frozen M.out 0
  have hcz1 : w6.cell? ⟨g1, 1, none⟩ = some (.string ⟨#[]⟩) := (blk_cell M.out 1).trans rfl
  have hfz1 := blk_frozen M.out 1
  have hcz2 : w6.cell? ⟨g1, 2, none⟩ = some (.int .i64 0) := (blk_cell M.out 2).trans rfl
  have hfz2 := blk_frozen M.out 2
  have hcz3 : w6.cell? ⟨g1, 3, none⟩ = some (.int .i64 0) := (blk_cell M.out 3).trans rfl
  have hfz3 := blk_frozen M.out 3
  have hcz4 : w6.cell? ⟨g1, 4, none⟩ = some (.int .i64 0) := (blk_cell M.out 4).trans rfl
  have hfz4 := blk_frozen M.out 4
  have hcz5 : w6.cell? ⟨g1, 5, none⟩ = some (.string ⟨#[]⟩) := (blk_cell M.out 5).trans rfl
  have hfz5 := blk_frozen M.out 5
  have hcy : w6.cell? ⟨g2, 0, none⟩ = some (.int .i64 0) := (blk_cell NN.out 0).trans rfl
  have hfy := blk_frozen NN.out 0
  have hcr : w6.cell? ⟨g3, 0, none⟩ = some (.string (s.extract 14 s.size)) := (blk_cell R.out 0).trans rfl
  have hfr := blk_frozen R.out 0
  have hne := E12.out
  have hne' : g2 ≠ g1 := fun h => hne h.symm
  have hn3 := E13.out
  have hn3' : g3 ≠ g1 := fun h => hn3 h.symm
  have hn4 := E23.out
  have hn4' : g3 ≠ g2 := fun h => hn4 h.symm
  go_upto_region 8 with (fail)
  rw [show (s.extract 6 s.size).extract 0 6 = s.extract 6 12 from ext_in s]
  obtain ⟨w7, hw7, M7, N7, R7, B7⟩ := stored6 g1 g2 g3 w w6 (.string (s.extract 0 6)) (.string (s.extract 6 12)) (.int .i64 (-1)) (.int .i64 0) (.int .i64 33024) (.string ⟨#[]⟩) _ _ _ _ _ _ _ _ M.out NN.out R.out hne' hn3' HB.out G1.out
  rw [← hw7]
  clear hw7 hcz0 hcz1 hcz2 hcz3 hcz4 hcz5 hfz0 hfz1 hfz2 hfz3 hfz4 hfz5 hcy hfy hcr hfr M NN R HB
  have M := M7
  have NN := N7
  have R := R7
  have HB := B7
  clear M7 N7 R7 B7
  have hcz0 : w7.cell? ⟨g1, 0, none⟩ = some (.string (s.extract 0 6)) := (blk_cell M.out 0).trans rfl
  have hfz0 := blk_frozen M.out 0
  have hcz1 : w7.cell? ⟨g1, 1, none⟩ = some (.string (s.extract 6 12)) := (blk_cell M.out 1).trans rfl
  have hfz1 := blk_frozen M.out 1
  have hcz2 : w7.cell? ⟨g1, 2, none⟩ = some (.int .i64 (-1)) := (blk_cell M.out 2).trans rfl
  have hfz2 := blk_frozen M.out 2
  have hcz3 : w7.cell? ⟨g1, 3, none⟩ = some (.int .i64 0) := (blk_cell M.out 3).trans rfl
  have hfz3 := blk_frozen M.out 3
  have hcz4 : w7.cell? ⟨g1, 4, none⟩ = some (.int .i64 33024) := (blk_cell M.out 4).trans rfl
  have hfz4 := blk_frozen M.out 4
  have hcz5 : w7.cell? ⟨g1, 5, none⟩ = some (.string ⟨#[]⟩) := (blk_cell M.out 5).trans rfl
  have hfz5 := blk_frozen M.out 5
  have hcy : w7.cell? ⟨g2, 0, none⟩ = some (.int .i64 0) := (blk_cell NN.out 0).trans rfl
  have hfy := blk_frozen NN.out 0
  have hcr : w7.cell? ⟨g3, 0, none⟩ = some (.string (s.extract 14 s.size)) := (blk_cell R.out 0).trans rfl
  have hfr := blk_frozen R.out 0
  go_wp2_with fail
  refine (two_no g3 (s.extract 14 s.size) _ (by rw [sizeX]; omega) R.out).mono ?_
  rintro e w8 ⟨rfl, rfl⟩
  go_wp2_with fail
  refine leaves_cons (f := 42) (args := #[.pointer (some ⟨g1, 0, none⟩), .pointer (some ⟨g2, 0, none⟩)]) (by simp) (by simp [go_sem]) ?_
  refine (catch_panic g1 g2 _ _ _ _ _ _ _ [] _ E12.out M.out NN.out).mono ?_
  rintro e u' w9 ⟨rfl, rfl, k1, k2, kb⟩
  exact ⟨_, results28 _ _ g1 g2 _ _ _ _ _ _ 60 rfl k1 rfl k2, rfl, kb w HB.out G1.out G2.out⟩
set_option maxHeartbeats 8000000 in
set_option maxRecDepth 100000 in
theorem parse_short5 (s : ByteArray) (k k2 : Nat) (t : Int) (w : World) (h0 : 16 ≤ s.size) (h : s.size < 18) (hw : words_Get.f k ((s.extract 12 s.size).extract 0 2) 0 2 true = some (33024, 0)) (ht0 : 0 ≤ t) (ht1 : t < 65536) (hw2 : words_Get.f k2 ((s.extract 14 s.size).extract 0 2) 0 2 true = some (t, 0)) :
    Calls Try.prog 28 #[.string s] w fun e w' => e = .returned (.tuple #[.agg #[.string ⟨#[]⟩, .string ⟨#[]⟩, .int .i64 0, .int .i64 0, .int .i64 0, .string ⟨#[]⟩], .int .i64 60]) ∧ Below w.heap.size w w' := by
  have HV := Aside0.mk hw
  have v0 : Aside0 ((0 : Int) ≤ 33024) := ⟨by decide⟩
  have v1 : Aside0 ((33024 : Int) < 65536) := ⟨by decide⟩
  clear hw
  have HT := Aside0.mk hw2
  have t0 := Aside0.mk ht0
  have t1 := Aside0.mk ht1
  clear hw2 ht0 ht1
  have h1 : decide ((1518 : Int) < (s.size : Int)) = false := decide_eq_false (by omega)
  have h2 : decide (1518 < s.size) = false := decide_eq_false (by omega)
  have hs : s.size ≤ 281474976710656 := by omega
  have hmf : ∀ (fn : Fn) (first cap : Array Value) (w : World), (Instr.makeFunc fn first cap).run Try.prog w = .ok (.func fn first cap) w := fun _ _ _ _ => rfl
  have hu23 := Try.underlying52
  have hu41 := Try.underlying67
  go_enter_defers Try.func28, Try.ntmps28
  go_wp2_with (first | ((with_reducible refine gate_dst (N := 2) rfl ?_); refine box_event ?hg (N := 2) ?hd (cs := #[.string ⟨#[]⟩, .string ⟨#[]⟩, .int .i64 0, .int .i64 0, .int .i64 0, .string ⟨#[]⟩]) (t := 52) ?hr ?_; (case hd => rfl); (case hg => rfl); (case hr => first | (go_simp; done) | (go_simp; rfl)); intro g1 hg w1 hbox hb; have M0 := Aside0.mk hbox; have B1 := Aside0.mk hb; have G1 := Aside0.mk (Nat.le_of_eq hg.symm); clear hg hbox hb) | ((with_reducible refine gate_dst (N := 3) rfl ?_); refine box_event ?hg (N := 3) ?hd (cs := #[.int .i64 0]) (t := 28) ?hr ?_; (case hd => rfl); (case hg => rfl); (case hr => first | (go_simp; done) | (go_simp; rfl)); intro g2 hg w2 hbox hb; have N0 := Aside0.mk hbox; have M1 := Aside0.mk (blk_below M0.out hb); have B2 := Aside0.mk (below_step B1.out hb); have G2 := Aside0.mk (Nat.le_trans B1.out.size (Nat.le_of_eq hg.symm)); have E12 := Aside0.mk (blk_ne M1.out N0.out (by decide)); clear M0; clear B1; clear hg hbox hb) | ((with_reducible refine gate_dst (N := 13) rfl ?_); refine box_event ?hg (N := 13) ?hd (cs := #[.string s]) (t := 67) ?hr ?_; (case hd => rfl); (case hg => rfl); (case hr => first | (go_simp; done) | (go_simp; rfl)); intro g3 hg w3 hbox hb; have R := Aside0.mk hbox; have M := Aside0.mk (blk_below M1.out hb); have NN := Aside0.mk (blk_below N0.out hb); have HB := Aside0.mk (below_step B2.out hb); have G3 := Aside0.mk (Nat.le_trans B2.out.size (Nat.le_of_eq hg.symm)); have E13 := Aside0.mk (blk_ne M.out R.out (by decide)); have E23 := Aside0.mk (blk_ne NN.out R.out (by decide)); clear M1; clear N0; clear B2; clear hg hbox hb))
  refine (take_ok g3 s 6 _ (by omega) (by omega) hs R.out).mono ?_
  rintro e w4 ⟨rfl, hw_⟩
  have hst : Step g3 w3 w4 := by rw [hw_]; exact step_set _ _ _
  have hrd : w4.heap[g3]? = some (.cells #[.string (s.extract 6 s.size)] 67 (0, 0)) := by rw [hw_]; exact blk_put R.out 0 _ rfl
  clear hw_
  have M_ := Aside0.mk (hst.1 g1 _ E13.out M.out)
  have NN_ := Aside0.mk (hst.1 g2 _ E23.out NN.out)
  have HB_ := Aside0.mk (hst.2 w HB.out G3.out)
  clear M NN HB R hst
  have M := M_
  have NN := NN_
  have HB := HB_
  have R := Aside0.mk hrd
  clear M_ NN_ HB_ hrd
  go_wp2_with fail
  refine (take_ok g3 (s.extract 6 s.size) 6 _ (by omega) (by rw [size6 s]; omega) (by rw [size6 s]; omega) R.out).mono ?_
  rintro e w5 ⟨rfl, hw_⟩
  have hst : Step g3 w4 w5 := by rw [hw_]; exact step_set _ _ _
  have hrd : w5.heap[g3]? = some (.cells #[.string (s.extract 12 s.size)] 67 (0, 0)) := by rw [hw_]; exact blk_put R.out 0 _ (by rw [show (6 : Int).toNat = 6 from rfl, ext6 s]; rfl)
  clear hw_
  have M_ := Aside0.mk (hst.1 g1 _ E13.out M.out)
  have NN_ := Aside0.mk (hst.1 g2 _ E23.out NN.out)
  have HB_ := Aside0.mk (hst.2 w HB.out G3.out)
  clear M NN HB R hst
  have M := M_
  have NN := NN_
  have HB := HB_
  have R := Aside0.mk hrd
  clear M_ NN_ HB_ hrd
  go_wp2_with fail
  refine (two_ok g3 (s.extract 12 s.size) k 33024 _ (by rw [sizeX]; omega) (by rw [sizeX]; omega) v0.out v1.out R.out HV.out).mono ?_
  rintro e w6 ⟨rfl, hrd, hst⟩
  rw [ext_ext s 12 2] at hrd
  have M_ := Aside0.mk (hst.1 g1 _ E13.out M.out)
  have NN_ := Aside0.mk (hst.1 g2 _ E23.out NN.out)
  have HB_ := Aside0.mk (hst.2 w HB.out G3.out)
  clear M NN HB R hst
  have M := M_
  have NN := NN_
  have HB := HB_
  have R := Aside0.mk hrd
  clear M_ NN_ HB_ hrd
  have hcz0 : w6.cell? ⟨g1, 0, none⟩ = some (.string ⟨#[]⟩) := (blk_cell M.out 0).trans rfl
  have hfz0 := blk_frozen M.out 0
  have hcz1 : w6.cell? ⟨g1, 1, none⟩ = some (.string ⟨#[]⟩) := (blk_cell M.out 1).trans rfl
  have hfz1 := blk_frozen M.out 1
  have hcz2 : w6.cell? ⟨g1, 2, none⟩ = some (.int .i64 0) := (blk_cell M.out 2).trans rfl
  have hfz2 := blk_frozen M.out 2
  have hcz3 : w6.cell? ⟨g1, 3, none⟩ = some (.int .i64 0) := (blk_cell M.out 3).trans rfl
  have hfz3 := blk_frozen M.out 3
  have hcz4 : w6.cell? ⟨g1, 4, none⟩ = some (.int .i64 0) := (blk_cell M.out 4).trans rfl
  have hfz4 := blk_frozen M.out 4
  have hcz5 : w6.cell? ⟨g1, 5, none⟩ = some (.string ⟨#[]⟩) := (blk_cell M.out 5).trans rfl
  have hfz5 := blk_frozen M.out 5
  have hcy : w6.cell? ⟨g2, 0, none⟩ = some (.int .i64 0) := (blk_cell NN.out 0).trans rfl
  have hfy := blk_frozen NN.out 0
  have hcr : w6.cell? ⟨g3, 0, none⟩ = some (.string (s.extract 14 s.size)) := (blk_cell R.out 0).trans rfl
  have hfr := blk_frozen R.out 0
  have hne := E12.out
  have hne' : g2 ≠ g1 := fun h => hne h.symm
  have hn3 := E13.out
  have hn3' : g3 ≠ g1 := fun h => hn3 h.symm
  have hn4 := E23.out
  have hn4' : g3 ≠ g2 := fun h => hn4 h.symm
  go_upto_region 8 with (fail)
  rw [show (s.extract 6 s.size).extract 0 6 = s.extract 6 12 from ext_in s]
  obtain ⟨w7, hw7, M7, N7, R7, B7⟩ := stored6 g1 g2 g3 w w6 (.string (s.extract 0 6)) (.string (s.extract 6 12)) (.int .i64 (-1)) (.int .i64 0) (.int .i64 33024) (.string ⟨#[]⟩) _ _ _ _ _ _ _ _ M.out NN.out R.out hne' hn3' HB.out G1.out
  rw [← hw7]
  clear hw7 hcz0 hcz1 hcz2 hcz3 hcz4 hcz5 hfz0 hfz1 hfz2 hfz3 hfz4 hfz5 hcy hfy hcr hfr M NN R HB
  have M := M7
  have NN := N7
  have R := R7
  have HB := B7
  clear M7 N7 R7 B7
  have hcz0 : w7.cell? ⟨g1, 0, none⟩ = some (.string (s.extract 0 6)) := (blk_cell M.out 0).trans rfl
  have hfz0 := blk_frozen M.out 0
  have hcz1 : w7.cell? ⟨g1, 1, none⟩ = some (.string (s.extract 6 12)) := (blk_cell M.out 1).trans rfl
  have hfz1 := blk_frozen M.out 1
  have hcz2 : w7.cell? ⟨g1, 2, none⟩ = some (.int .i64 (-1)) := (blk_cell M.out 2).trans rfl
  have hfz2 := blk_frozen M.out 2
  have hcz3 : w7.cell? ⟨g1, 3, none⟩ = some (.int .i64 0) := (blk_cell M.out 3).trans rfl
  have hfz3 := blk_frozen M.out 3
  have hcz4 : w7.cell? ⟨g1, 4, none⟩ = some (.int .i64 33024) := (blk_cell M.out 4).trans rfl
  have hfz4 := blk_frozen M.out 4
  have hcz5 : w7.cell? ⟨g1, 5, none⟩ = some (.string ⟨#[]⟩) := (blk_cell M.out 5).trans rfl
  have hfz5 := blk_frozen M.out 5
  have hcy : w7.cell? ⟨g2, 0, none⟩ = some (.int .i64 0) := (blk_cell NN.out 0).trans rfl
  have hfy := blk_frozen NN.out 0
  have hcr : w7.cell? ⟨g3, 0, none⟩ = some (.string (s.extract 14 s.size)) := (blk_cell R.out 0).trans rfl
  have hfr := blk_frozen R.out 0
  go_wp2_with fail
  refine (two_ok g3 (s.extract 14 s.size) k2 t _ (by rw [sizeX]; omega) (by rw [sizeX]; omega) t0.out t1.out R.out HT.out).mono ?_
  rintro e w8 ⟨rfl, hrd, hst⟩
  rw [ext_ext s 14 2] at hrd
  clear hcz0 hcz1 hcz2 hcz3 hcz4 hcz5 hfz0 hfz1 hfz2 hfz3 hfz4 hfz5 hcy hfy hcr hfr
  have M_ := Aside0.mk (hst.1 g1 _ E13.out M.out)
  have NN_ := Aside0.mk (hst.1 g2 _ E23.out NN.out)
  have HB_ := Aside0.mk (hst.2 w HB.out G3.out)
  clear M NN HB R hst
  have M := M_
  have NN := NN_
  have HB := HB_
  have R := Aside0.mk hrd
  clear M_ NN_ HB_ hrd
  go_wp2_with fail
  refine (two_no g3 (s.extract 16 s.size) _ (by rw [sizeX]; omega) R.out).mono ?_
  rintro e w9 ⟨rfl, rfl⟩
  go_wp2_with fail
  refine leaves_cons (f := 42) (args := #[.pointer (some ⟨g1, 0, none⟩), .pointer (some ⟨g2, 0, none⟩)]) (by simp) (by simp [go_sem]) ?_
  refine (catch_panic g1 g2 _ _ _ _ _ _ _ [] _ E12.out M.out NN.out).mono ?_
  rintro e u' w9 ⟨rfl, rfl, k1, k2, kb⟩
  exact ⟨_, results28 _ _ g1 g2 _ _ _ _ _ _ 60 rfl k1 rfl k2, rfl, kb w HB.out G1.out G2.out⟩
theorem stored3 (g1 g2 g3 : Nat) (w0 w : World) (u4 u2 u3 c0 c1 c2 c3 c4 c5 d r : Value) (h1 : w.heap[g1]? = some (.cells #[c0, c1, c2, c3, c4, c5] 52 (0, 0))) (h2 : w.heap[g2]? = some (.cells #[d] 28 (0, 0))) (h3 : w.heap[g3]? = some (.cells #[r] 67 (0, 0)))
    (n2 : g2 ≠ g1) (n3 : g3 ≠ g1) (hb : Below w0.heap.size w0 w) (hg : w0.heap.size ≤ g1) :
    ∃ w', w' = ((w.setCell ⟨g1, 4, none⟩ u4).setCell ⟨g1, 2, none⟩ u2).setCell ⟨g1, 3, none⟩ u3 ∧
      Aside0 (w'.heap[g1]? = some (.cells #[c0, c1, u2, u3, u4, c5] 52 (0, 0))) ∧ Aside0 (w'.heap[g2]? = some (.cells #[d] 28 (0, 0))) ∧ Aside0 (w'.heap[g3]? = some (.cells #[r] 67 (0, 0))) ∧ Aside0 (Below w0.heap.size w0 w') :=
  ⟨_, rfl, ⟨blk_put (cs := #[c0, c1, u2, c3, u4, c5]) (blk_put (cs := #[c0, c1, c2, c3, u4, c5]) (blk_put (cs := #[c0, c1, c2, c3, c4, c5]) h1 4 _ rfl) 2 _ rfl) 3 _ rfl⟩, ⟨blk_far (blk_far (blk_far h2 n2 _) n2 _) n2 _⟩, ⟨blk_far (blk_far (blk_far h3 n3 _) n3 _) n3 _⟩, ⟨below_set (below_set (below_set hb hg) hg) hg⟩⟩
set_option maxHeartbeats 8000000 in
set_option maxRecDepth 100000 in
theorem parse_tag (s : ByteArray) (k k2 k3 : Nat) (t v : Int) (w : World) (h0 : 18 ≤ s.size) (h : s.size ≤ 1518) (hw : words_Get.f k ((s.extract 12 s.size).extract 0 2) 0 2 true = some (33024, 0)) (ht0 : 0 ≤ t) (ht1 : t < 65536) (hw2 : words_Get.f k2 ((s.extract 14 s.size).extract 0 2) 0 2 true = some (t, 0)) (hu0 : 0 ≤ v) (hu1 : v < 65536) (hw3 : words_Get.f k3 ((s.extract 16 s.size).extract 0 2) 0 2 true = some (v, 0)) (hb : (Go.bits .and .i64 t 4096 != 0) = false) (hv : decide (4094 < Go.bits .and .i64 t 4095) = false) (hm : eth_may.f v = some true) :
    Calls Try.prog 28 #[.string s] w fun e w' => e = .returned (.tuple #[.agg #[.string (s.extract 0 6), .string (s.extract 6 12), .int .i64 (Go.bits .and .i64 t 4095), .int .i64 (t / 8192), .int .i64 v, .string (s.extract 18 s.size)], .int .i64 0]) ∧ Below w.heap.size w w' := by
  have HBIT := Aside0.mk hb
  have HVL := Aside0.mk hv
  clear hb hv
  have HM := Aside0.mk hm
  clear hm
  have HV := Aside0.mk hw
  have v0 : Aside0 ((0 : Int) ≤ 33024) := ⟨by decide⟩
  have v1 : Aside0 ((33024 : Int) < 65536) := ⟨by decide⟩
  clear hw
  have HT := Aside0.mk hw2
  have t0 := Aside0.mk ht0
  have t1 := Aside0.mk ht1
  clear hw2 ht0 ht1
  have HU := Aside0.mk hw3
  have u0 := Aside0.mk hu0
  have u1 := Aside0.mk hu1
  clear hw3 hu0 hu1
  have h1 : decide ((1518 : Int) < (s.size : Int)) = false := decide_eq_false (by omega)
  have h2 : decide (1518 < s.size) = false := decide_eq_false (by omega)
  have hs : s.size ≤ 281474976710656 := by omega
  have hmf : ∀ (fn : Fn) (first cap : Array Value) (w : World), (Instr.makeFunc fn first cap).run Try.prog w = .ok (.func fn first cap) w := fun _ _ _ _ => rfl
  have hu23 := Try.underlying52
  have hu41 := Try.underlying67
  go_enter_defers Try.func28, Try.ntmps28
  go_wp2_with (first | ((with_reducible refine gate_dst (N := 2) rfl ?_); refine box_event ?hg (N := 2) ?hd (cs := #[.string ⟨#[]⟩, .string ⟨#[]⟩, .int .i64 0, .int .i64 0, .int .i64 0, .string ⟨#[]⟩]) (t := 52) ?hr ?_; (case hd => rfl); (case hg => rfl); (case hr => first | (go_simp; done) | (go_simp; rfl)); intro g1 hg w1 hbox hb; have M0 := Aside0.mk hbox; have B1 := Aside0.mk hb; have G1 := Aside0.mk (Nat.le_of_eq hg.symm); clear hg hbox hb) | ((with_reducible refine gate_dst (N := 3) rfl ?_); refine box_event ?hg (N := 3) ?hd (cs := #[.int .i64 0]) (t := 28) ?hr ?_; (case hd => rfl); (case hg => rfl); (case hr => first | (go_simp; done) | (go_simp; rfl)); intro g2 hg w2 hbox hb; have N0 := Aside0.mk hbox; have M1 := Aside0.mk (blk_below M0.out hb); have B2 := Aside0.mk (below_step B1.out hb); have G2 := Aside0.mk (Nat.le_trans B1.out.size (Nat.le_of_eq hg.symm)); have E12 := Aside0.mk (blk_ne M1.out N0.out (by decide)); clear M0; clear B1; clear hg hbox hb) | ((with_reducible refine gate_dst (N := 13) rfl ?_); refine box_event ?hg (N := 13) ?hd (cs := #[.string s]) (t := 67) ?hr ?_; (case hd => rfl); (case hg => rfl); (case hr => first | (go_simp; done) | (go_simp; rfl)); intro g3 hg w3 hbox hb; have R := Aside0.mk hbox; have M := Aside0.mk (blk_below M1.out hb); have NN := Aside0.mk (blk_below N0.out hb); have HB := Aside0.mk (below_step B2.out hb); have G3 := Aside0.mk (Nat.le_trans B2.out.size (Nat.le_of_eq hg.symm)); have E13 := Aside0.mk (blk_ne M.out R.out (by decide)); have E23 := Aside0.mk (blk_ne NN.out R.out (by decide)); clear M1; clear N0; clear B2; clear hg hbox hb))
  refine (take_ok g3 s 6 _ (by omega) (by omega) hs R.out).mono ?_
  rintro e w4 ⟨rfl, hw_⟩
  have hst : Step g3 w3 w4 := by rw [hw_]; exact step_set _ _ _
  have hrd : w4.heap[g3]? = some (.cells #[.string (s.extract 6 s.size)] 67 (0, 0)) := by rw [hw_]; exact blk_put R.out 0 _ rfl
  clear hw_
  have M_ := Aside0.mk (hst.1 g1 _ E13.out M.out)
  have NN_ := Aside0.mk (hst.1 g2 _ E23.out NN.out)
  have HB_ := Aside0.mk (hst.2 w HB.out G3.out)
  clear M NN HB R hst
  have M := M_
  have NN := NN_
  have HB := HB_
  have R := Aside0.mk hrd
  clear M_ NN_ HB_ hrd
  go_wp2_with fail
  refine (take_ok g3 (s.extract 6 s.size) 6 _ (by omega) (by rw [size6 s]; omega) (by rw [size6 s]; omega) R.out).mono ?_
  rintro e w5 ⟨rfl, hw_⟩
  have hst : Step g3 w4 w5 := by rw [hw_]; exact step_set _ _ _
  have hrd : w5.heap[g3]? = some (.cells #[.string (s.extract 12 s.size)] 67 (0, 0)) := by rw [hw_]; exact blk_put R.out 0 _ (by rw [show (6 : Int).toNat = 6 from rfl, ext6 s]; rfl)
  clear hw_
  have M_ := Aside0.mk (hst.1 g1 _ E13.out M.out)
  have NN_ := Aside0.mk (hst.1 g2 _ E23.out NN.out)
  have HB_ := Aside0.mk (hst.2 w HB.out G3.out)
  clear M NN HB R hst
  have M := M_
  have NN := NN_
  have HB := HB_
  have R := Aside0.mk hrd
  clear M_ NN_ HB_ hrd
  go_wp2_with fail
  refine (two_ok g3 (s.extract 12 s.size) k 33024 _ (by rw [sizeX]; omega) (by rw [sizeX]; omega) v0.out v1.out R.out HV.out).mono ?_
  rintro e w6 ⟨rfl, hrd, hst⟩
  rw [ext_ext s 12 2] at hrd
  have M_ := Aside0.mk (hst.1 g1 _ E13.out M.out)
  have NN_ := Aside0.mk (hst.1 g2 _ E23.out NN.out)
  have HB_ := Aside0.mk (hst.2 w HB.out G3.out)
  clear M NN HB R hst
  have M := M_
  have NN := NN_
  have HB := HB_
  have R := Aside0.mk hrd
  clear M_ NN_ HB_ hrd
  have hcz0 : w6.cell? ⟨g1, 0, none⟩ = some (.string ⟨#[]⟩) := (blk_cell M.out 0).trans rfl
  have hfz0 := blk_frozen M.out 0
  have hcz1 : w6.cell? ⟨g1, 1, none⟩ = some (.string ⟨#[]⟩) := (blk_cell M.out 1).trans rfl
  have hfz1 := blk_frozen M.out 1
  have hcz2 : w6.cell? ⟨g1, 2, none⟩ = some (.int .i64 0) := (blk_cell M.out 2).trans rfl
  have hfz2 := blk_frozen M.out 2
  have hcz3 : w6.cell? ⟨g1, 3, none⟩ = some (.int .i64 0) := (blk_cell M.out 3).trans rfl
  have hfz3 := blk_frozen M.out 3
  have hcz4 : w6.cell? ⟨g1, 4, none⟩ = some (.int .i64 0) := (blk_cell M.out 4).trans rfl
  have hfz4 := blk_frozen M.out 4
  have hcz5 : w6.cell? ⟨g1, 5, none⟩ = some (.string ⟨#[]⟩) := (blk_cell M.out 5).trans rfl
  have hfz5 := blk_frozen M.out 5
  have hcy : w6.cell? ⟨g2, 0, none⟩ = some (.int .i64 0) := (blk_cell NN.out 0).trans rfl
  have hfy := blk_frozen NN.out 0
  have hcr : w6.cell? ⟨g3, 0, none⟩ = some (.string (s.extract 14 s.size)) := (blk_cell R.out 0).trans rfl
  have hfr := blk_frozen R.out 0
  have hne := E12.out
  have hne' : g2 ≠ g1 := fun h => hne h.symm
  have hn3 := E13.out
  have hn3' : g3 ≠ g1 := fun h => hn3 h.symm
  have hn4 := E23.out
  have hn4' : g3 ≠ g2 := fun h => hn4 h.symm
  go_upto_region 8 with (fail)
  rw [show (s.extract 6 s.size).extract 0 6 = s.extract 6 12 from ext_in s]
  obtain ⟨w7, hw7, M7, N7, R7, B7⟩ := stored6 g1 g2 g3 w w6 (.string (s.extract 0 6)) (.string (s.extract 6 12)) (.int .i64 (-1)) (.int .i64 0) (.int .i64 33024) (.string ⟨#[]⟩) _ _ _ _ _ _ _ _ M.out NN.out R.out hne' hn3' HB.out G1.out
  rw [← hw7]
  clear hw7 hcz0 hcz1 hcz2 hcz3 hcz4 hcz5 hfz0 hfz1 hfz2 hfz3 hfz4 hfz5 hcy hfy hcr hfr M NN R HB
  have M := M7
  have NN := N7
  have R := R7
  have HB := B7
  clear M7 N7 R7 B7
  have hcz0 : w7.cell? ⟨g1, 0, none⟩ = some (.string (s.extract 0 6)) := (blk_cell M.out 0).trans rfl
  have hfz0 := blk_frozen M.out 0
  have hcz1 : w7.cell? ⟨g1, 1, none⟩ = some (.string (s.extract 6 12)) := (blk_cell M.out 1).trans rfl
  have hfz1 := blk_frozen M.out 1
  have hcz2 : w7.cell? ⟨g1, 2, none⟩ = some (.int .i64 (-1)) := (blk_cell M.out 2).trans rfl
  have hfz2 := blk_frozen M.out 2
  have hcz3 : w7.cell? ⟨g1, 3, none⟩ = some (.int .i64 0) := (blk_cell M.out 3).trans rfl
  have hfz3 := blk_frozen M.out 3
  have hcz4 : w7.cell? ⟨g1, 4, none⟩ = some (.int .i64 33024) := (blk_cell M.out 4).trans rfl
  have hfz4 := blk_frozen M.out 4
  have hcz5 : w7.cell? ⟨g1, 5, none⟩ = some (.string ⟨#[]⟩) := (blk_cell M.out 5).trans rfl
  have hfz5 := blk_frozen M.out 5
  have hcy : w7.cell? ⟨g2, 0, none⟩ = some (.int .i64 0) := (blk_cell NN.out 0).trans rfl
  have hfy := blk_frozen NN.out 0
  have hcr : w7.cell? ⟨g3, 0, none⟩ = some (.string (s.extract 14 s.size)) := (blk_cell R.out 0).trans rfl
  have hfr := blk_frozen R.out 0
  go_wp2_with fail
  refine (two_ok g3 (s.extract 14 s.size) k2 t _ (by rw [sizeX]; omega) (by rw [sizeX]; omega) t0.out t1.out R.out HT.out).mono ?_
  rintro e w8 ⟨rfl, hrd, hst⟩
  rw [ext_ext s 14 2] at hrd
  clear hcz0 hcz1 hcz2 hcz3 hcz4 hcz5 hfz0 hfz1 hfz2 hfz3 hfz4 hfz5 hcy hfy hcr hfr
  have M_ := Aside0.mk (hst.1 g1 _ E13.out M.out)
  have NN_ := Aside0.mk (hst.1 g2 _ E23.out NN.out)
  have HB_ := Aside0.mk (hst.2 w HB.out G3.out)
  clear M NN HB R hst
  have M := M_
  have NN := NN_
  have HB := HB_
  have R := Aside0.mk hrd
  clear M_ NN_ HB_ hrd
  go_wp2_with fail
  refine (two_ok g3 (s.extract 16 s.size) k3 v _ (by rw [sizeX]; omega) (by rw [sizeX]; omega) u0.out u1.out R.out HU.out).mono ?_
  rintro e w9 ⟨rfl, hrd, hst⟩
  rw [ext_ext s 16 2] at hrd
  have M_ := Aside0.mk (hst.1 g1 _ E13.out M.out)
  have NN_ := Aside0.mk (hst.1 g2 _ E23.out NN.out)
  have HB_ := Aside0.mk (hst.2 w HB.out G3.out)
  clear M NN HB R hst
  have M := M_
  have NN := NN_
  have HB := HB_
  have R := Aside0.mk hrd
  clear M_ NN_ HB_ hrd
  have hcz0 : w9.cell? ⟨g1, 0, none⟩ = some (.string (s.extract 0 6)) := (blk_cell M.out 0).trans rfl
  have hfz0 := blk_frozen M.out 0
  have hcz1 : w9.cell? ⟨g1, 1, none⟩ = some (.string (s.extract 6 12)) := (blk_cell M.out 1).trans rfl
  have hfz1 := blk_frozen M.out 1
  have hcz2 : w9.cell? ⟨g1, 2, none⟩ = some (.int .i64 (-1)) := (blk_cell M.out 2).trans rfl
  have hfz2 := blk_frozen M.out 2
  have hcz3 : w9.cell? ⟨g1, 3, none⟩ = some (.int .i64 0) := (blk_cell M.out 3).trans rfl
  have hfz3 := blk_frozen M.out 3
  have hcz4 : w9.cell? ⟨g1, 4, none⟩ = some (.int .i64 33024) := (blk_cell M.out 4).trans rfl
  have hfz4 := blk_frozen M.out 4
  have hcz5 : w9.cell? ⟨g1, 5, none⟩ = some (.string ⟨#[]⟩) := (blk_cell M.out 5).trans rfl
  have hfz5 := blk_frozen M.out 5
  have hcy : w9.cell? ⟨g2, 0, none⟩ = some (.int .i64 0) := (blk_cell NN.out 0).trans rfl
  have hfy := blk_frozen NN.out 0
  have hcr : w9.cell? ⟨g3, 0, none⟩ = some (.string (s.extract 18 s.size)) := (blk_cell R.out 0).trans rfl
  have hfr := blk_frozen R.out 0
  go_upto_region 10 with (fail)
  obtain ⟨w7, hw7, M7, N7, R7, B7⟩ := stored3 g1 g2 g3 w w9 (.int .i64 v) (.int .i64 (Go.bits .and .i64 t 4095)) (.int .i64 (t / 8192)) _ _ _ _ _ _ _ _ M.out NN.out R.out hne' hn3' HB.out G1.out
  rw [← hw7]
  clear hw7 hcz0 hcz1 hcz2 hcz3 hcz4 hcz5 hfz0 hfz1 hfz2 hfz3 hfz4 hfz5 hcy hfy hcr hfr M NN R HB
  have M := M7
  have NN := N7
  have R := R7
  have HB := B7
  clear M7 N7 R7 B7
  have hcz0 : w7.cell? ⟨g1, 0, none⟩ = some (.string (s.extract 0 6)) := (blk_cell M.out 0).trans rfl
  have hfz0 := blk_frozen M.out 0
  have hcz1 : w7.cell? ⟨g1, 1, none⟩ = some (.string (s.extract 6 12)) := (blk_cell M.out 1).trans rfl
  have hfz1 := blk_frozen M.out 1
  have hcz2 : w7.cell? ⟨g1, 2, none⟩ = some (.int .i64 (Go.bits .and .i64 t 4095)) := (blk_cell M.out 2).trans rfl
  have hfz2 := blk_frozen M.out 2
  have hcz3 : w7.cell? ⟨g1, 3, none⟩ = some (.int .i64 (t / 8192)) := (blk_cell M.out 3).trans rfl
  have hfz3 := blk_frozen M.out 3
  have hcz4 : w7.cell? ⟨g1, 4, none⟩ = some (.int .i64 v) := (blk_cell M.out 4).trans rfl
  have hfz4 := blk_frozen M.out 4
  have hcz5 : w7.cell? ⟨g1, 5, none⟩ = some (.string ⟨#[]⟩) := (blk_cell M.out 5).trans rfl
  have hfz5 := blk_frozen M.out 5
  have hcy : w7.cell? ⟨g2, 0, none⟩ = some (.int .i64 0) := (blk_cell NN.out 0).trans rfl
  have hfy := blk_frozen NN.out 0
  have hcr : w7.cell? ⟨g3, 0, none⟩ = some (.string (s.extract 18 s.size)) := (blk_cell R.out 0).trans rfl
  have hfr := blk_frozen R.out 0
  have hb1 := HBIT.out
  have hv1 := HVL.out
  go_wp2_with fail
  refine (eth_may.calls v true _ HM.out).mono ?_
  rintro e w8 ⟨rfl, ⟨nd, rfl⟩⟩
  go_upto_region 13 with (fail)
  obtain ⟨w12, hw12, M12, N12, R12, B12⟩ := stored1 g1 g2 g3 w (w7.drewN nd) (.string (s.extract 18 s.size)) _ _ _ _ _ _ _ _ M.out NN.out R.out hne' hn3' (pw_below_drewN HB.out _) G1.out
  rw [← hw12]
  clear hw12 hcz0 hcz1 hcz2 hcz3 hcz4 hcz5 hfz0 hfz1 hfz2 hfz3 hfz4 hfz5 hcy hfy hcr hfr M NN R HB
  have M := M12
  have NN := N12
  have R := R12
  have HB := B12
  clear M12 N12 R12 B12
  have hcz0 : w12.cell? ⟨g1, 0, none⟩ = some (.string (s.extract 0 6)) := (blk_cell M.out 0).trans rfl
  have hfz0 := blk_frozen M.out 0
  have hcz1 : w12.cell? ⟨g1, 1, none⟩ = some (.string (s.extract 6 12)) := (blk_cell M.out 1).trans rfl
  have hfz1 := blk_frozen M.out 1
  have hcz2 : w12.cell? ⟨g1, 2, none⟩ = some (.int .i64 (Go.bits .and .i64 t 4095)) := (blk_cell M.out 2).trans rfl
  have hfz2 := blk_frozen M.out 2
  have hcz3 : w12.cell? ⟨g1, 3, none⟩ = some (.int .i64 (t / 8192)) := (blk_cell M.out 3).trans rfl
  have hfz3 := blk_frozen M.out 3
  have hcz4 : w12.cell? ⟨g1, 4, none⟩ = some (.int .i64 v) := (blk_cell M.out 4).trans rfl
  have hfz4 := blk_frozen M.out 4
  have hcz5 : w12.cell? ⟨g1, 5, none⟩ = some (.string (s.extract 18 s.size)) := (blk_cell M.out 5).trans rfl
  have hfz5 := blk_frozen M.out 5
  have hcy : w12.cell? ⟨g2, 0, none⟩ = some (.int .i64 0) := (blk_cell NN.out 0).trans rfl
  have hfy := blk_frozen NN.out 0
  have hcr : w12.cell? ⟨g3, 0, none⟩ = some (.string (s.extract 18 s.size)) := (blk_cell R.out 0).trans rfl
  have hfr := blk_frozen R.out 0
  go_wp2_with fail
  refine leaves_cons (f := 42) (args := #[.pointer (some ⟨g1, 0, none⟩), .pointer (some ⟨g2, 0, none⟩)]) (by simp) (by simp [go_sem]) ?_
  refine (catch_idle _ _ _).mono ?_
  rintro e u' w10 ⟨rfl, rfl, rfl⟩
  obtain ⟨w11, hw11, M11, N11, R11, B11⟩ := stored6 g1 g2 g3 w w12 (.string (s.extract 0 6)) (.string (s.extract 6 12)) (.int .i64 (Go.bits .and .i64 t 4095)) (.int .i64 (t / 8192)) (.int .i64 v) (.string (s.extract 18 s.size)) _ _ _ _ _ _ _ _ M.out NN.out R.out hne' hn3' HB.out G1.out
  rw [← hw11]
  exact ⟨_, results28 _ _ g1 g2 _ _ _ _ _ _ 0 rfl (blk_far M11.out hne _) rfl (blk_put N11.out 0 _ rfl), rfl, below_set B11.out G2.out⟩
set_option maxHeartbeats 8000000 in
set_option maxRecDepth 100000 in
theorem parse_tag_a (s : ByteArray) (k k2 k3 : Nat) (t v : Int) (w : World) (h0 : 18 ≤ s.size) (h : s.size ≤ 1518) (hw : words_Get.f k ((s.extract 12 s.size).extract 0 2) 0 2 true = some (33024, 0)) (ht0 : 0 ≤ t) (ht1 : t < 65536) (hw2 : words_Get.f k2 ((s.extract 14 s.size).extract 0 2) 0 2 true = some (t, 0)) (hu0 : 0 ≤ v) (hu1 : v < 65536) (hw3 : words_Get.f k3 ((s.extract 16 s.size).extract 0 2) 0 2 true = some (v, 0)) (hb : (Go.bits .and .i64 t 4096 != 0) = true) :
    Calls Try.prog 28 #[.string s] w fun e w' => e = .returned (.tuple #[.agg #[.string ⟨#[]⟩, .string ⟨#[]⟩, .int .i64 0, .int .i64 0, .int .i64 0, .string ⟨#[]⟩], .int .i64 61]) ∧ Below w.heap.size w w' := by
  have HBIT := Aside0.mk hb
  clear hb
  have HV := Aside0.mk hw
  have v0 : Aside0 ((0 : Int) ≤ 33024) := ⟨by decide⟩
  have v1 : Aside0 ((33024 : Int) < 65536) := ⟨by decide⟩
  clear hw
  have HT := Aside0.mk hw2
  have t0 := Aside0.mk ht0
  have t1 := Aside0.mk ht1
  clear hw2 ht0 ht1
  have HU := Aside0.mk hw3
  have u0 := Aside0.mk hu0
  have u1 := Aside0.mk hu1
  clear hw3 hu0 hu1
  have h1 : decide ((1518 : Int) < (s.size : Int)) = false := decide_eq_false (by omega)
  have h2 : decide (1518 < s.size) = false := decide_eq_false (by omega)
  have hs : s.size ≤ 281474976710656 := by omega
  have hmf : ∀ (fn : Fn) (first cap : Array Value) (w : World), (Instr.makeFunc fn first cap).run Try.prog w = .ok (.func fn first cap) w := fun _ _ _ _ => rfl
  have hu23 := Try.underlying52
  have hu41 := Try.underlying67
  go_enter_defers Try.func28, Try.ntmps28
  go_wp2_with (first | ((with_reducible refine gate_dst (N := 2) rfl ?_); refine box_event ?hg (N := 2) ?hd (cs := #[.string ⟨#[]⟩, .string ⟨#[]⟩, .int .i64 0, .int .i64 0, .int .i64 0, .string ⟨#[]⟩]) (t := 52) ?hr ?_; (case hd => rfl); (case hg => rfl); (case hr => first | (go_simp; done) | (go_simp; rfl)); intro g1 hg w1 hbox hb; have M0 := Aside0.mk hbox; have B1 := Aside0.mk hb; have G1 := Aside0.mk (Nat.le_of_eq hg.symm); clear hg hbox hb) | ((with_reducible refine gate_dst (N := 3) rfl ?_); refine box_event ?hg (N := 3) ?hd (cs := #[.int .i64 0]) (t := 28) ?hr ?_; (case hd => rfl); (case hg => rfl); (case hr => first | (go_simp; done) | (go_simp; rfl)); intro g2 hg w2 hbox hb; have N0 := Aside0.mk hbox; have M1 := Aside0.mk (blk_below M0.out hb); have B2 := Aside0.mk (below_step B1.out hb); have G2 := Aside0.mk (Nat.le_trans B1.out.size (Nat.le_of_eq hg.symm)); have E12 := Aside0.mk (blk_ne M1.out N0.out (by decide)); clear M0; clear B1; clear hg hbox hb) | ((with_reducible refine gate_dst (N := 13) rfl ?_); refine box_event ?hg (N := 13) ?hd (cs := #[.string s]) (t := 67) ?hr ?_; (case hd => rfl); (case hg => rfl); (case hr => first | (go_simp; done) | (go_simp; rfl)); intro g3 hg w3 hbox hb; have R := Aside0.mk hbox; have M := Aside0.mk (blk_below M1.out hb); have NN := Aside0.mk (blk_below N0.out hb); have HB := Aside0.mk (below_step B2.out hb); have G3 := Aside0.mk (Nat.le_trans B2.out.size (Nat.le_of_eq hg.symm)); have E13 := Aside0.mk (blk_ne M.out R.out (by decide)); have E23 := Aside0.mk (blk_ne NN.out R.out (by decide)); clear M1; clear N0; clear B2; clear hg hbox hb))
  refine (take_ok g3 s 6 _ (by omega) (by omega) hs R.out).mono ?_
  rintro e w4 ⟨rfl, hw_⟩
  have hst : Step g3 w3 w4 := by rw [hw_]; exact step_set _ _ _
  have hrd : w4.heap[g3]? = some (.cells #[.string (s.extract 6 s.size)] 67 (0, 0)) := by rw [hw_]; exact blk_put R.out 0 _ rfl
  clear hw_
  have M_ := Aside0.mk (hst.1 g1 _ E13.out M.out)
  have NN_ := Aside0.mk (hst.1 g2 _ E23.out NN.out)
  have HB_ := Aside0.mk (hst.2 w HB.out G3.out)
  clear M NN HB R hst
  have M := M_
  have NN := NN_
  have HB := HB_
  have R := Aside0.mk hrd
  clear M_ NN_ HB_ hrd
  go_wp2_with fail
  refine (take_ok g3 (s.extract 6 s.size) 6 _ (by omega) (by rw [size6 s]; omega) (by rw [size6 s]; omega) R.out).mono ?_
  rintro e w5 ⟨rfl, hw_⟩
  have hst : Step g3 w4 w5 := by rw [hw_]; exact step_set _ _ _
  have hrd : w5.heap[g3]? = some (.cells #[.string (s.extract 12 s.size)] 67 (0, 0)) := by rw [hw_]; exact blk_put R.out 0 _ (by rw [show (6 : Int).toNat = 6 from rfl, ext6 s]; rfl)
  clear hw_
  have M_ := Aside0.mk (hst.1 g1 _ E13.out M.out)
  have NN_ := Aside0.mk (hst.1 g2 _ E23.out NN.out)
  have HB_ := Aside0.mk (hst.2 w HB.out G3.out)
  clear M NN HB R hst
  have M := M_
  have NN := NN_
  have HB := HB_
  have R := Aside0.mk hrd
  clear M_ NN_ HB_ hrd
  go_wp2_with fail
  refine (two_ok g3 (s.extract 12 s.size) k 33024 _ (by rw [sizeX]; omega) (by rw [sizeX]; omega) v0.out v1.out R.out HV.out).mono ?_
  rintro e w6 ⟨rfl, hrd, hst⟩
  rw [ext_ext s 12 2] at hrd
  have M_ := Aside0.mk (hst.1 g1 _ E13.out M.out)
  have NN_ := Aside0.mk (hst.1 g2 _ E23.out NN.out)
  have HB_ := Aside0.mk (hst.2 w HB.out G3.out)
  clear M NN HB R hst
  have M := M_
  have NN := NN_
  have HB := HB_
  have R := Aside0.mk hrd
  clear M_ NN_ HB_ hrd
  have hcz0 : w6.cell? ⟨g1, 0, none⟩ = some (.string ⟨#[]⟩) := (blk_cell M.out 0).trans rfl
  have hfz0 := blk_frozen M.out 0
  have hcz1 : w6.cell? ⟨g1, 1, none⟩ = some (.string ⟨#[]⟩) := (blk_cell M.out 1).trans rfl
  have hfz1 := blk_frozen M.out 1
  have hcz2 : w6.cell? ⟨g1, 2, none⟩ = some (.int .i64 0) := (blk_cell M.out 2).trans rfl
  have hfz2 := blk_frozen M.out 2
  have hcz3 : w6.cell? ⟨g1, 3, none⟩ = some (.int .i64 0) := (blk_cell M.out 3).trans rfl
  have hfz3 := blk_frozen M.out 3
  have hcz4 : w6.cell? ⟨g1, 4, none⟩ = some (.int .i64 0) := (blk_cell M.out 4).trans rfl
  have hfz4 := blk_frozen M.out 4
  have hcz5 : w6.cell? ⟨g1, 5, none⟩ = some (.string ⟨#[]⟩) := (blk_cell M.out 5).trans rfl
  have hfz5 := blk_frozen M.out 5
  have hcy : w6.cell? ⟨g2, 0, none⟩ = some (.int .i64 0) := (blk_cell NN.out 0).trans rfl
  have hfy := blk_frozen NN.out 0
  have hcr : w6.cell? ⟨g3, 0, none⟩ = some (.string (s.extract 14 s.size)) := (blk_cell R.out 0).trans rfl
  have hfr := blk_frozen R.out 0
  have hne := E12.out
  have hne' : g2 ≠ g1 := fun h => hne h.symm
  have hn3 := E13.out
  have hn3' : g3 ≠ g1 := fun h => hn3 h.symm
  have hn4 := E23.out
  have hn4' : g3 ≠ g2 := fun h => hn4 h.symm
  go_upto_region 8 with (fail)
  rw [show (s.extract 6 s.size).extract 0 6 = s.extract 6 12 from ext_in s]
  obtain ⟨w7, hw7, M7, N7, R7, B7⟩ := stored6 g1 g2 g3 w w6 (.string (s.extract 0 6)) (.string (s.extract 6 12)) (.int .i64 (-1)) (.int .i64 0) (.int .i64 33024) (.string ⟨#[]⟩) _ _ _ _ _ _ _ _ M.out NN.out R.out hne' hn3' HB.out G1.out
  rw [← hw7]
  clear hw7 hcz0 hcz1 hcz2 hcz3 hcz4 hcz5 hfz0 hfz1 hfz2 hfz3 hfz4 hfz5 hcy hfy hcr hfr M NN R HB
  have M := M7
  have NN := N7
  have R := R7
  have HB := B7
  clear M7 N7 R7 B7
  have hcz0 : w7.cell? ⟨g1, 0, none⟩ = some (.string (s.extract 0 6)) := (blk_cell M.out 0).trans rfl
  have hfz0 := blk_frozen M.out 0
  have hcz1 : w7.cell? ⟨g1, 1, none⟩ = some (.string (s.extract 6 12)) := (blk_cell M.out 1).trans rfl
  have hfz1 := blk_frozen M.out 1
  have hcz2 : w7.cell? ⟨g1, 2, none⟩ = some (.int .i64 (-1)) := (blk_cell M.out 2).trans rfl
  have hfz2 := blk_frozen M.out 2
  have hcz3 : w7.cell? ⟨g1, 3, none⟩ = some (.int .i64 0) := (blk_cell M.out 3).trans rfl
  have hfz3 := blk_frozen M.out 3
  have hcz4 : w7.cell? ⟨g1, 4, none⟩ = some (.int .i64 33024) := (blk_cell M.out 4).trans rfl
  have hfz4 := blk_frozen M.out 4
  have hcz5 : w7.cell? ⟨g1, 5, none⟩ = some (.string ⟨#[]⟩) := (blk_cell M.out 5).trans rfl
  have hfz5 := blk_frozen M.out 5
  have hcy : w7.cell? ⟨g2, 0, none⟩ = some (.int .i64 0) := (blk_cell NN.out 0).trans rfl
  have hfy := blk_frozen NN.out 0
  have hcr : w7.cell? ⟨g3, 0, none⟩ = some (.string (s.extract 14 s.size)) := (blk_cell R.out 0).trans rfl
  have hfr := blk_frozen R.out 0
  go_wp2_with fail
  refine (two_ok g3 (s.extract 14 s.size) k2 t _ (by rw [sizeX]; omega) (by rw [sizeX]; omega) t0.out t1.out R.out HT.out).mono ?_
  rintro e w8 ⟨rfl, hrd, hst⟩
  rw [ext_ext s 14 2] at hrd
  clear hcz0 hcz1 hcz2 hcz3 hcz4 hcz5 hfz0 hfz1 hfz2 hfz3 hfz4 hfz5 hcy hfy hcr hfr
  have M_ := Aside0.mk (hst.1 g1 _ E13.out M.out)
  have NN_ := Aside0.mk (hst.1 g2 _ E23.out NN.out)
  have HB_ := Aside0.mk (hst.2 w HB.out G3.out)
  clear M NN HB R hst
  have M := M_
  have NN := NN_
  have HB := HB_
  have R := Aside0.mk hrd
  clear M_ NN_ HB_ hrd
  go_wp2_with fail
  refine (two_ok g3 (s.extract 16 s.size) k3 v _ (by rw [sizeX]; omega) (by rw [sizeX]; omega) u0.out u1.out R.out HU.out).mono ?_
  rintro e w9 ⟨rfl, hrd, hst⟩
  rw [ext_ext s 16 2] at hrd
  have M_ := Aside0.mk (hst.1 g1 _ E13.out M.out)
  have NN_ := Aside0.mk (hst.1 g2 _ E23.out NN.out)
  have HB_ := Aside0.mk (hst.2 w HB.out G3.out)
  clear M NN HB R hst
  have M := M_
  have NN := NN_
  have HB := HB_
  have R := Aside0.mk hrd
  clear M_ NN_ HB_ hrd
  have hcz0 : w9.cell? ⟨g1, 0, none⟩ = some (.string (s.extract 0 6)) := (blk_cell M.out 0).trans rfl
  have hfz0 := blk_frozen M.out 0
  have hcz1 : w9.cell? ⟨g1, 1, none⟩ = some (.string (s.extract 6 12)) := (blk_cell M.out 1).trans rfl
  have hfz1 := blk_frozen M.out 1
  have hcz2 : w9.cell? ⟨g1, 2, none⟩ = some (.int .i64 (-1)) := (blk_cell M.out 2).trans rfl
  have hfz2 := blk_frozen M.out 2
  have hcz3 : w9.cell? ⟨g1, 3, none⟩ = some (.int .i64 0) := (blk_cell M.out 3).trans rfl
  have hfz3 := blk_frozen M.out 3
  have hcz4 : w9.cell? ⟨g1, 4, none⟩ = some (.int .i64 33024) := (blk_cell M.out 4).trans rfl
  have hfz4 := blk_frozen M.out 4
  have hcz5 : w9.cell? ⟨g1, 5, none⟩ = some (.string ⟨#[]⟩) := (blk_cell M.out 5).trans rfl
  have hfz5 := blk_frozen M.out 5
  have hcy : w9.cell? ⟨g2, 0, none⟩ = some (.int .i64 0) := (blk_cell NN.out 0).trans rfl
  have hfy := blk_frozen NN.out 0
  have hcr : w9.cell? ⟨g3, 0, none⟩ = some (.string (s.extract 18 s.size)) := (blk_cell R.out 0).trans rfl
  have hfr := blk_frozen R.out 0
  go_upto_region 10 with (fail)
  obtain ⟨w7, hw7, M7, N7, R7, B7⟩ := stored3 g1 g2 g3 w w9 (.int .i64 v) (.int .i64 (Go.bits .and .i64 t 4095)) (.int .i64 (t / 8192)) _ _ _ _ _ _ _ _ M.out NN.out R.out hne' hn3' HB.out G1.out
  rw [← hw7]
  clear hw7 hcz0 hcz1 hcz2 hcz3 hcz4 hcz5 hfz0 hfz1 hfz2 hfz3 hfz4 hfz5 hcy hfy hcr hfr M NN R HB
  have M := M7
  have NN := N7
  have R := R7
  have HB := B7
  clear M7 N7 R7 B7
  have hcz0 : w7.cell? ⟨g1, 0, none⟩ = some (.string (s.extract 0 6)) := (blk_cell M.out 0).trans rfl
  have hfz0 := blk_frozen M.out 0
  have hcz1 : w7.cell? ⟨g1, 1, none⟩ = some (.string (s.extract 6 12)) := (blk_cell M.out 1).trans rfl
  have hfz1 := blk_frozen M.out 1
  have hcz2 : w7.cell? ⟨g1, 2, none⟩ = some (.int .i64 (Go.bits .and .i64 t 4095)) := (blk_cell M.out 2).trans rfl
  have hfz2 := blk_frozen M.out 2
  have hcz3 : w7.cell? ⟨g1, 3, none⟩ = some (.int .i64 (t / 8192)) := (blk_cell M.out 3).trans rfl
  have hfz3 := blk_frozen M.out 3
  have hcz4 : w7.cell? ⟨g1, 4, none⟩ = some (.int .i64 v) := (blk_cell M.out 4).trans rfl
  have hfz4 := blk_frozen M.out 4
  have hcz5 : w7.cell? ⟨g1, 5, none⟩ = some (.string ⟨#[]⟩) := (blk_cell M.out 5).trans rfl
  have hfz5 := blk_frozen M.out 5
  have hcy : w7.cell? ⟨g2, 0, none⟩ = some (.int .i64 0) := (blk_cell NN.out 0).trans rfl
  have hfy := blk_frozen NN.out 0
  have hcr : w7.cell? ⟨g3, 0, none⟩ = some (.string (s.extract 18 s.size)) := (blk_cell R.out 0).trans rfl
  have hfr := blk_frozen R.out 0
  have hb1 := HBIT.out
  go_wp2_with fail
  refine leaves_cons (f := 42) (args := #[.pointer (some ⟨g1, 0, none⟩), .pointer (some ⟨g2, 0, none⟩)]) (by simp) (by simp [go_sem]) ?_
  refine (catch_idle _ _ _).mono ?_
  rintro e u' w10 ⟨rfl, rfl, rfl⟩
  obtain ⟨w11, hw11, M11, N11, R11, B11⟩ := stored6 g1 g2 g3 w w7 (.string ⟨#[]⟩) (.string ⟨#[]⟩) (.int .i64 0) (.int .i64 0) (.int .i64 0) (.string ⟨#[]⟩) _ _ _ _ _ _ _ _ M.out NN.out R.out hne' hn3' HB.out G1.out
  rw [← hw11]
  exact ⟨_, results28 _ _ g1 g2 _ _ _ _ _ _ 61 rfl (blk_far M11.out hne _) rfl (blk_put N11.out 0 _ rfl), rfl, below_set B11.out G2.out⟩
set_option maxHeartbeats 8000000 in
set_option maxRecDepth 100000 in
theorem parse_tag_b (s : ByteArray) (k k2 k3 : Nat) (t v : Int) (w : World) (h0 : 18 ≤ s.size) (h : s.size ≤ 1518) (hw : words_Get.f k ((s.extract 12 s.size).extract 0 2) 0 2 true = some (33024, 0)) (ht0 : 0 ≤ t) (ht1 : t < 65536) (hw2 : words_Get.f k2 ((s.extract 14 s.size).extract 0 2) 0 2 true = some (t, 0)) (hu0 : 0 ≤ v) (hu1 : v < 65536) (hw3 : words_Get.f k3 ((s.extract 16 s.size).extract 0 2) 0 2 true = some (v, 0)) (hb : (Go.bits .and .i64 t 4096 != 0) = false) (hv : decide (4094 < Go.bits .and .i64 t 4095) = true) :
    Calls Try.prog 28 #[.string s] w fun e w' => e = .returned (.tuple #[.agg #[.string ⟨#[]⟩, .string ⟨#[]⟩, .int .i64 0, .int .i64 0, .int .i64 0, .string ⟨#[]⟩], .int .i64 61]) ∧ Below w.heap.size w w' := by
  have HBIT := Aside0.mk hb
  have HVL := Aside0.mk hv
  clear hb hv
  have HV := Aside0.mk hw
  have v0 : Aside0 ((0 : Int) ≤ 33024) := ⟨by decide⟩
  have v1 : Aside0 ((33024 : Int) < 65536) := ⟨by decide⟩
  clear hw
  have HT := Aside0.mk hw2
  have t0 := Aside0.mk ht0
  have t1 := Aside0.mk ht1
  clear hw2 ht0 ht1
  have HU := Aside0.mk hw3
  have u0 := Aside0.mk hu0
  have u1 := Aside0.mk hu1
  clear hw3 hu0 hu1
  have h1 : decide ((1518 : Int) < (s.size : Int)) = false := decide_eq_false (by omega)
  have h2 : decide (1518 < s.size) = false := decide_eq_false (by omega)
  have hs : s.size ≤ 281474976710656 := by omega
  have hmf : ∀ (fn : Fn) (first cap : Array Value) (w : World), (Instr.makeFunc fn first cap).run Try.prog w = .ok (.func fn first cap) w := fun _ _ _ _ => rfl
  have hu23 := Try.underlying52
  have hu41 := Try.underlying67
  go_enter_defers Try.func28, Try.ntmps28
  go_wp2_with (first | ((with_reducible refine gate_dst (N := 2) rfl ?_); refine box_event ?hg (N := 2) ?hd (cs := #[.string ⟨#[]⟩, .string ⟨#[]⟩, .int .i64 0, .int .i64 0, .int .i64 0, .string ⟨#[]⟩]) (t := 52) ?hr ?_; (case hd => rfl); (case hg => rfl); (case hr => first | (go_simp; done) | (go_simp; rfl)); intro g1 hg w1 hbox hb; have M0 := Aside0.mk hbox; have B1 := Aside0.mk hb; have G1 := Aside0.mk (Nat.le_of_eq hg.symm); clear hg hbox hb) | ((with_reducible refine gate_dst (N := 3) rfl ?_); refine box_event ?hg (N := 3) ?hd (cs := #[.int .i64 0]) (t := 28) ?hr ?_; (case hd => rfl); (case hg => rfl); (case hr => first | (go_simp; done) | (go_simp; rfl)); intro g2 hg w2 hbox hb; have N0 := Aside0.mk hbox; have M1 := Aside0.mk (blk_below M0.out hb); have B2 := Aside0.mk (below_step B1.out hb); have G2 := Aside0.mk (Nat.le_trans B1.out.size (Nat.le_of_eq hg.symm)); have E12 := Aside0.mk (blk_ne M1.out N0.out (by decide)); clear M0; clear B1; clear hg hbox hb) | ((with_reducible refine gate_dst (N := 13) rfl ?_); refine box_event ?hg (N := 13) ?hd (cs := #[.string s]) (t := 67) ?hr ?_; (case hd => rfl); (case hg => rfl); (case hr => first | (go_simp; done) | (go_simp; rfl)); intro g3 hg w3 hbox hb; have R := Aside0.mk hbox; have M := Aside0.mk (blk_below M1.out hb); have NN := Aside0.mk (blk_below N0.out hb); have HB := Aside0.mk (below_step B2.out hb); have G3 := Aside0.mk (Nat.le_trans B2.out.size (Nat.le_of_eq hg.symm)); have E13 := Aside0.mk (blk_ne M.out R.out (by decide)); have E23 := Aside0.mk (blk_ne NN.out R.out (by decide)); clear M1; clear N0; clear B2; clear hg hbox hb))
  refine (take_ok g3 s 6 _ (by omega) (by omega) hs R.out).mono ?_
  rintro e w4 ⟨rfl, hw_⟩
  have hst : Step g3 w3 w4 := by rw [hw_]; exact step_set _ _ _
  have hrd : w4.heap[g3]? = some (.cells #[.string (s.extract 6 s.size)] 67 (0, 0)) := by rw [hw_]; exact blk_put R.out 0 _ rfl
  clear hw_
  have M_ := Aside0.mk (hst.1 g1 _ E13.out M.out)
  have NN_ := Aside0.mk (hst.1 g2 _ E23.out NN.out)
  have HB_ := Aside0.mk (hst.2 w HB.out G3.out)
  clear M NN HB R hst
  have M := M_
  have NN := NN_
  have HB := HB_
  have R := Aside0.mk hrd
  clear M_ NN_ HB_ hrd
  go_wp2_with fail
  refine (take_ok g3 (s.extract 6 s.size) 6 _ (by omega) (by rw [size6 s]; omega) (by rw [size6 s]; omega) R.out).mono ?_
  rintro e w5 ⟨rfl, hw_⟩
  have hst : Step g3 w4 w5 := by rw [hw_]; exact step_set _ _ _
  have hrd : w5.heap[g3]? = some (.cells #[.string (s.extract 12 s.size)] 67 (0, 0)) := by rw [hw_]; exact blk_put R.out 0 _ (by rw [show (6 : Int).toNat = 6 from rfl, ext6 s]; rfl)
  clear hw_
  have M_ := Aside0.mk (hst.1 g1 _ E13.out M.out)
  have NN_ := Aside0.mk (hst.1 g2 _ E23.out NN.out)
  have HB_ := Aside0.mk (hst.2 w HB.out G3.out)
  clear M NN HB R hst
  have M := M_
  have NN := NN_
  have HB := HB_
  have R := Aside0.mk hrd
  clear M_ NN_ HB_ hrd
  go_wp2_with fail
  refine (two_ok g3 (s.extract 12 s.size) k 33024 _ (by rw [sizeX]; omega) (by rw [sizeX]; omega) v0.out v1.out R.out HV.out).mono ?_
  rintro e w6 ⟨rfl, hrd, hst⟩
  rw [ext_ext s 12 2] at hrd
  have M_ := Aside0.mk (hst.1 g1 _ E13.out M.out)
  have NN_ := Aside0.mk (hst.1 g2 _ E23.out NN.out)
  have HB_ := Aside0.mk (hst.2 w HB.out G3.out)
  clear M NN HB R hst
  have M := M_
  have NN := NN_
  have HB := HB_
  have R := Aside0.mk hrd
  clear M_ NN_ HB_ hrd
  have hcz0 : w6.cell? ⟨g1, 0, none⟩ = some (.string ⟨#[]⟩) := (blk_cell M.out 0).trans rfl
  have hfz0 := blk_frozen M.out 0
  have hcz1 : w6.cell? ⟨g1, 1, none⟩ = some (.string ⟨#[]⟩) := (blk_cell M.out 1).trans rfl
  have hfz1 := blk_frozen M.out 1
  have hcz2 : w6.cell? ⟨g1, 2, none⟩ = some (.int .i64 0) := (blk_cell M.out 2).trans rfl
  have hfz2 := blk_frozen M.out 2
  have hcz3 : w6.cell? ⟨g1, 3, none⟩ = some (.int .i64 0) := (blk_cell M.out 3).trans rfl
  have hfz3 := blk_frozen M.out 3
  have hcz4 : w6.cell? ⟨g1, 4, none⟩ = some (.int .i64 0) := (blk_cell M.out 4).trans rfl
  have hfz4 := blk_frozen M.out 4
  have hcz5 : w6.cell? ⟨g1, 5, none⟩ = some (.string ⟨#[]⟩) := (blk_cell M.out 5).trans rfl
  have hfz5 := blk_frozen M.out 5
  have hcy : w6.cell? ⟨g2, 0, none⟩ = some (.int .i64 0) := (blk_cell NN.out 0).trans rfl
  have hfy := blk_frozen NN.out 0
  have hcr : w6.cell? ⟨g3, 0, none⟩ = some (.string (s.extract 14 s.size)) := (blk_cell R.out 0).trans rfl
  have hfr := blk_frozen R.out 0
  have hne := E12.out
  have hne' : g2 ≠ g1 := fun h => hne h.symm
  have hn3 := E13.out
  have hn3' : g3 ≠ g1 := fun h => hn3 h.symm
  have hn4 := E23.out
  have hn4' : g3 ≠ g2 := fun h => hn4 h.symm
  go_upto_region 8 with (fail)
  rw [show (s.extract 6 s.size).extract 0 6 = s.extract 6 12 from ext_in s]
  obtain ⟨w7, hw7, M7, N7, R7, B7⟩ := stored6 g1 g2 g3 w w6 (.string (s.extract 0 6)) (.string (s.extract 6 12)) (.int .i64 (-1)) (.int .i64 0) (.int .i64 33024) (.string ⟨#[]⟩) _ _ _ _ _ _ _ _ M.out NN.out R.out hne' hn3' HB.out G1.out
  rw [← hw7]
  clear hw7 hcz0 hcz1 hcz2 hcz3 hcz4 hcz5 hfz0 hfz1 hfz2 hfz3 hfz4 hfz5 hcy hfy hcr hfr M NN R HB
  have M := M7
  have NN := N7
  have R := R7
  have HB := B7
  clear M7 N7 R7 B7
  have hcz0 : w7.cell? ⟨g1, 0, none⟩ = some (.string (s.extract 0 6)) := (blk_cell M.out 0).trans rfl
  have hfz0 := blk_frozen M.out 0
  have hcz1 : w7.cell? ⟨g1, 1, none⟩ = some (.string (s.extract 6 12)) := (blk_cell M.out 1).trans rfl
  have hfz1 := blk_frozen M.out 1
  have hcz2 : w7.cell? ⟨g1, 2, none⟩ = some (.int .i64 (-1)) := (blk_cell M.out 2).trans rfl
  have hfz2 := blk_frozen M.out 2
  have hcz3 : w7.cell? ⟨g1, 3, none⟩ = some (.int .i64 0) := (blk_cell M.out 3).trans rfl
  have hfz3 := blk_frozen M.out 3
  have hcz4 : w7.cell? ⟨g1, 4, none⟩ = some (.int .i64 33024) := (blk_cell M.out 4).trans rfl
  have hfz4 := blk_frozen M.out 4
  have hcz5 : w7.cell? ⟨g1, 5, none⟩ = some (.string ⟨#[]⟩) := (blk_cell M.out 5).trans rfl
  have hfz5 := blk_frozen M.out 5
  have hcy : w7.cell? ⟨g2, 0, none⟩ = some (.int .i64 0) := (blk_cell NN.out 0).trans rfl
  have hfy := blk_frozen NN.out 0
  have hcr : w7.cell? ⟨g3, 0, none⟩ = some (.string (s.extract 14 s.size)) := (blk_cell R.out 0).trans rfl
  have hfr := blk_frozen R.out 0
  go_wp2_with fail
  refine (two_ok g3 (s.extract 14 s.size) k2 t _ (by rw [sizeX]; omega) (by rw [sizeX]; omega) t0.out t1.out R.out HT.out).mono ?_
  rintro e w8 ⟨rfl, hrd, hst⟩
  rw [ext_ext s 14 2] at hrd
  clear hcz0 hcz1 hcz2 hcz3 hcz4 hcz5 hfz0 hfz1 hfz2 hfz3 hfz4 hfz5 hcy hfy hcr hfr
  have M_ := Aside0.mk (hst.1 g1 _ E13.out M.out)
  have NN_ := Aside0.mk (hst.1 g2 _ E23.out NN.out)
  have HB_ := Aside0.mk (hst.2 w HB.out G3.out)
  clear M NN HB R hst
  have M := M_
  have NN := NN_
  have HB := HB_
  have R := Aside0.mk hrd
  clear M_ NN_ HB_ hrd
  go_wp2_with fail
  refine (two_ok g3 (s.extract 16 s.size) k3 v _ (by rw [sizeX]; omega) (by rw [sizeX]; omega) u0.out u1.out R.out HU.out).mono ?_
  rintro e w9 ⟨rfl, hrd, hst⟩
  rw [ext_ext s 16 2] at hrd
  have M_ := Aside0.mk (hst.1 g1 _ E13.out M.out)
  have NN_ := Aside0.mk (hst.1 g2 _ E23.out NN.out)
  have HB_ := Aside0.mk (hst.2 w HB.out G3.out)
  clear M NN HB R hst
  have M := M_
  have NN := NN_
  have HB := HB_
  have R := Aside0.mk hrd
  clear M_ NN_ HB_ hrd
  have hcz0 : w9.cell? ⟨g1, 0, none⟩ = some (.string (s.extract 0 6)) := (blk_cell M.out 0).trans rfl
  have hfz0 := blk_frozen M.out 0
  have hcz1 : w9.cell? ⟨g1, 1, none⟩ = some (.string (s.extract 6 12)) := (blk_cell M.out 1).trans rfl
  have hfz1 := blk_frozen M.out 1
  have hcz2 : w9.cell? ⟨g1, 2, none⟩ = some (.int .i64 (-1)) := (blk_cell M.out 2).trans rfl
  have hfz2 := blk_frozen M.out 2
  have hcz3 : w9.cell? ⟨g1, 3, none⟩ = some (.int .i64 0) := (blk_cell M.out 3).trans rfl
  have hfz3 := blk_frozen M.out 3
  have hcz4 : w9.cell? ⟨g1, 4, none⟩ = some (.int .i64 33024) := (blk_cell M.out 4).trans rfl
  have hfz4 := blk_frozen M.out 4
  have hcz5 : w9.cell? ⟨g1, 5, none⟩ = some (.string ⟨#[]⟩) := (blk_cell M.out 5).trans rfl
  have hfz5 := blk_frozen M.out 5
  have hcy : w9.cell? ⟨g2, 0, none⟩ = some (.int .i64 0) := (blk_cell NN.out 0).trans rfl
  have hfy := blk_frozen NN.out 0
  have hcr : w9.cell? ⟨g3, 0, none⟩ = some (.string (s.extract 18 s.size)) := (blk_cell R.out 0).trans rfl
  have hfr := blk_frozen R.out 0
  go_upto_region 10 with (fail)
  obtain ⟨w7, hw7, M7, N7, R7, B7⟩ := stored3 g1 g2 g3 w w9 (.int .i64 v) (.int .i64 (Go.bits .and .i64 t 4095)) (.int .i64 (t / 8192)) _ _ _ _ _ _ _ _ M.out NN.out R.out hne' hn3' HB.out G1.out
  rw [← hw7]
  clear hw7 hcz0 hcz1 hcz2 hcz3 hcz4 hcz5 hfz0 hfz1 hfz2 hfz3 hfz4 hfz5 hcy hfy hcr hfr M NN R HB
  have M := M7
  have NN := N7
  have R := R7
  have HB := B7
  clear M7 N7 R7 B7
  have hcz0 : w7.cell? ⟨g1, 0, none⟩ = some (.string (s.extract 0 6)) := (blk_cell M.out 0).trans rfl
  have hfz0 := blk_frozen M.out 0
  have hcz1 : w7.cell? ⟨g1, 1, none⟩ = some (.string (s.extract 6 12)) := (blk_cell M.out 1).trans rfl
  have hfz1 := blk_frozen M.out 1
  have hcz2 : w7.cell? ⟨g1, 2, none⟩ = some (.int .i64 (Go.bits .and .i64 t 4095)) := (blk_cell M.out 2).trans rfl
  have hfz2 := blk_frozen M.out 2
  have hcz3 : w7.cell? ⟨g1, 3, none⟩ = some (.int .i64 (t / 8192)) := (blk_cell M.out 3).trans rfl
  have hfz3 := blk_frozen M.out 3
  have hcz4 : w7.cell? ⟨g1, 4, none⟩ = some (.int .i64 v) := (blk_cell M.out 4).trans rfl
  have hfz4 := blk_frozen M.out 4
  have hcz5 : w7.cell? ⟨g1, 5, none⟩ = some (.string ⟨#[]⟩) := (blk_cell M.out 5).trans rfl
  have hfz5 := blk_frozen M.out 5
  have hcy : w7.cell? ⟨g2, 0, none⟩ = some (.int .i64 0) := (blk_cell NN.out 0).trans rfl
  have hfy := blk_frozen NN.out 0
  have hcr : w7.cell? ⟨g3, 0, none⟩ = some (.string (s.extract 18 s.size)) := (blk_cell R.out 0).trans rfl
  have hfr := blk_frozen R.out 0
  have hb1 := HBIT.out
  have hv1 := HVL.out
  go_wp2_with fail
  refine leaves_cons (f := 42) (args := #[.pointer (some ⟨g1, 0, none⟩), .pointer (some ⟨g2, 0, none⟩)]) (by simp) (by simp [go_sem]) ?_
  refine (catch_idle _ _ _).mono ?_
  rintro e u' w10 ⟨rfl, rfl, rfl⟩
  obtain ⟨w11, hw11, M11, N11, R11, B11⟩ := stored6 g1 g2 g3 w w7 (.string ⟨#[]⟩) (.string ⟨#[]⟩) (.int .i64 0) (.int .i64 0) (.int .i64 0) (.string ⟨#[]⟩) _ _ _ _ _ _ _ _ M.out NN.out R.out hne' hn3' HB.out G1.out
  rw [← hw11]
  exact ⟨_, results28 _ _ g1 g2 _ _ _ _ _ _ 61 rfl (blk_far M11.out hne _) rfl (blk_put N11.out 0 _ rfl), rfl, below_set B11.out G2.out⟩
set_option maxHeartbeats 8000000 in
set_option maxRecDepth 100000 in
theorem parse_tag_c (s : ByteArray) (k k2 k3 : Nat) (t v : Int) (w : World) (h0 : 18 ≤ s.size) (h : s.size ≤ 1518) (hw : words_Get.f k ((s.extract 12 s.size).extract 0 2) 0 2 true = some (33024, 0)) (ht0 : 0 ≤ t) (ht1 : t < 65536) (hw2 : words_Get.f k2 ((s.extract 14 s.size).extract 0 2) 0 2 true = some (t, 0)) (hu0 : 0 ≤ v) (hu1 : v < 65536) (hw3 : words_Get.f k3 ((s.extract 16 s.size).extract 0 2) 0 2 true = some (v, 0)) (hb : (Go.bits .and .i64 t 4096 != 0) = false) (hv : decide (4094 < Go.bits .and .i64 t 4095) = false) (hm : eth_may.f v = some false) :
    Calls Try.prog 28 #[.string s] w fun e w' => e = .returned (.tuple #[.agg #[.string ⟨#[]⟩, .string ⟨#[]⟩, .int .i64 0, .int .i64 0, .int .i64 0, .string ⟨#[]⟩], .int .i64 61]) ∧ Below w.heap.size w w' := by
  have HBIT := Aside0.mk hb
  have HVL := Aside0.mk hv
  clear hb hv
  have HM := Aside0.mk hm
  clear hm
  have HV := Aside0.mk hw
  have v0 : Aside0 ((0 : Int) ≤ 33024) := ⟨by decide⟩
  have v1 : Aside0 ((33024 : Int) < 65536) := ⟨by decide⟩
  clear hw
  have HT := Aside0.mk hw2
  have t0 := Aside0.mk ht0
  have t1 := Aside0.mk ht1
  clear hw2 ht0 ht1
  have HU := Aside0.mk hw3
  have u0 := Aside0.mk hu0
  have u1 := Aside0.mk hu1
  clear hw3 hu0 hu1
  have h1 : decide ((1518 : Int) < (s.size : Int)) = false := decide_eq_false (by omega)
  have h2 : decide (1518 < s.size) = false := decide_eq_false (by omega)
  have hs : s.size ≤ 281474976710656 := by omega
  have hmf : ∀ (fn : Fn) (first cap : Array Value) (w : World), (Instr.makeFunc fn first cap).run Try.prog w = .ok (.func fn first cap) w := fun _ _ _ _ => rfl
  have hu23 := Try.underlying52
  have hu41 := Try.underlying67
  go_enter_defers Try.func28, Try.ntmps28
  go_wp2_with (first | ((with_reducible refine gate_dst (N := 2) rfl ?_); refine box_event ?hg (N := 2) ?hd (cs := #[.string ⟨#[]⟩, .string ⟨#[]⟩, .int .i64 0, .int .i64 0, .int .i64 0, .string ⟨#[]⟩]) (t := 52) ?hr ?_; (case hd => rfl); (case hg => rfl); (case hr => first | (go_simp; done) | (go_simp; rfl)); intro g1 hg w1 hbox hb; have M0 := Aside0.mk hbox; have B1 := Aside0.mk hb; have G1 := Aside0.mk (Nat.le_of_eq hg.symm); clear hg hbox hb) | ((with_reducible refine gate_dst (N := 3) rfl ?_); refine box_event ?hg (N := 3) ?hd (cs := #[.int .i64 0]) (t := 28) ?hr ?_; (case hd => rfl); (case hg => rfl); (case hr => first | (go_simp; done) | (go_simp; rfl)); intro g2 hg w2 hbox hb; have N0 := Aside0.mk hbox; have M1 := Aside0.mk (blk_below M0.out hb); have B2 := Aside0.mk (below_step B1.out hb); have G2 := Aside0.mk (Nat.le_trans B1.out.size (Nat.le_of_eq hg.symm)); have E12 := Aside0.mk (blk_ne M1.out N0.out (by decide)); clear M0; clear B1; clear hg hbox hb) | ((with_reducible refine gate_dst (N := 13) rfl ?_); refine box_event ?hg (N := 13) ?hd (cs := #[.string s]) (t := 67) ?hr ?_; (case hd => rfl); (case hg => rfl); (case hr => first | (go_simp; done) | (go_simp; rfl)); intro g3 hg w3 hbox hb; have R := Aside0.mk hbox; have M := Aside0.mk (blk_below M1.out hb); have NN := Aside0.mk (blk_below N0.out hb); have HB := Aside0.mk (below_step B2.out hb); have G3 := Aside0.mk (Nat.le_trans B2.out.size (Nat.le_of_eq hg.symm)); have E13 := Aside0.mk (blk_ne M.out R.out (by decide)); have E23 := Aside0.mk (blk_ne NN.out R.out (by decide)); clear M1; clear N0; clear B2; clear hg hbox hb))
  refine (take_ok g3 s 6 _ (by omega) (by omega) hs R.out).mono ?_
  rintro e w4 ⟨rfl, hw_⟩
  have hst : Step g3 w3 w4 := by rw [hw_]; exact step_set _ _ _
  have hrd : w4.heap[g3]? = some (.cells #[.string (s.extract 6 s.size)] 67 (0, 0)) := by rw [hw_]; exact blk_put R.out 0 _ rfl
  clear hw_
  have M_ := Aside0.mk (hst.1 g1 _ E13.out M.out)
  have NN_ := Aside0.mk (hst.1 g2 _ E23.out NN.out)
  have HB_ := Aside0.mk (hst.2 w HB.out G3.out)
  clear M NN HB R hst
  have M := M_
  have NN := NN_
  have HB := HB_
  have R := Aside0.mk hrd
  clear M_ NN_ HB_ hrd
  go_wp2_with fail
  refine (take_ok g3 (s.extract 6 s.size) 6 _ (by omega) (by rw [size6 s]; omega) (by rw [size6 s]; omega) R.out).mono ?_
  rintro e w5 ⟨rfl, hw_⟩
  have hst : Step g3 w4 w5 := by rw [hw_]; exact step_set _ _ _
  have hrd : w5.heap[g3]? = some (.cells #[.string (s.extract 12 s.size)] 67 (0, 0)) := by rw [hw_]; exact blk_put R.out 0 _ (by rw [show (6 : Int).toNat = 6 from rfl, ext6 s]; rfl)
  clear hw_
  have M_ := Aside0.mk (hst.1 g1 _ E13.out M.out)
  have NN_ := Aside0.mk (hst.1 g2 _ E23.out NN.out)
  have HB_ := Aside0.mk (hst.2 w HB.out G3.out)
  clear M NN HB R hst
  have M := M_
  have NN := NN_
  have HB := HB_
  have R := Aside0.mk hrd
  clear M_ NN_ HB_ hrd
  go_wp2_with fail
  refine (two_ok g3 (s.extract 12 s.size) k 33024 _ (by rw [sizeX]; omega) (by rw [sizeX]; omega) v0.out v1.out R.out HV.out).mono ?_
  rintro e w6 ⟨rfl, hrd, hst⟩
  rw [ext_ext s 12 2] at hrd
  have M_ := Aside0.mk (hst.1 g1 _ E13.out M.out)
  have NN_ := Aside0.mk (hst.1 g2 _ E23.out NN.out)
  have HB_ := Aside0.mk (hst.2 w HB.out G3.out)
  clear M NN HB R hst
  have M := M_
  have NN := NN_
  have HB := HB_
  have R := Aside0.mk hrd
  clear M_ NN_ HB_ hrd
  have hcz0 : w6.cell? ⟨g1, 0, none⟩ = some (.string ⟨#[]⟩) := (blk_cell M.out 0).trans rfl
  have hfz0 := blk_frozen M.out 0
  have hcz1 : w6.cell? ⟨g1, 1, none⟩ = some (.string ⟨#[]⟩) := (blk_cell M.out 1).trans rfl
  have hfz1 := blk_frozen M.out 1
  have hcz2 : w6.cell? ⟨g1, 2, none⟩ = some (.int .i64 0) := (blk_cell M.out 2).trans rfl
  have hfz2 := blk_frozen M.out 2
  have hcz3 : w6.cell? ⟨g1, 3, none⟩ = some (.int .i64 0) := (blk_cell M.out 3).trans rfl
  have hfz3 := blk_frozen M.out 3
  have hcz4 : w6.cell? ⟨g1, 4, none⟩ = some (.int .i64 0) := (blk_cell M.out 4).trans rfl
  have hfz4 := blk_frozen M.out 4
  have hcz5 : w6.cell? ⟨g1, 5, none⟩ = some (.string ⟨#[]⟩) := (blk_cell M.out 5).trans rfl
  have hfz5 := blk_frozen M.out 5
  have hcy : w6.cell? ⟨g2, 0, none⟩ = some (.int .i64 0) := (blk_cell NN.out 0).trans rfl
  have hfy := blk_frozen NN.out 0
  have hcr : w6.cell? ⟨g3, 0, none⟩ = some (.string (s.extract 14 s.size)) := (blk_cell R.out 0).trans rfl
  have hfr := blk_frozen R.out 0
  have hne := E12.out
  have hne' : g2 ≠ g1 := fun h => hne h.symm
  have hn3 := E13.out
  have hn3' : g3 ≠ g1 := fun h => hn3 h.symm
  have hn4 := E23.out
  have hn4' : g3 ≠ g2 := fun h => hn4 h.symm
  go_upto_region 8 with (fail)
  rw [show (s.extract 6 s.size).extract 0 6 = s.extract 6 12 from ext_in s]
  obtain ⟨w7, hw7, M7, N7, R7, B7⟩ := stored6 g1 g2 g3 w w6 (.string (s.extract 0 6)) (.string (s.extract 6 12)) (.int .i64 (-1)) (.int .i64 0) (.int .i64 33024) (.string ⟨#[]⟩) _ _ _ _ _ _ _ _ M.out NN.out R.out hne' hn3' HB.out G1.out
  rw [← hw7]
  clear hw7 hcz0 hcz1 hcz2 hcz3 hcz4 hcz5 hfz0 hfz1 hfz2 hfz3 hfz4 hfz5 hcy hfy hcr hfr M NN R HB
  have M := M7
  have NN := N7
  have R := R7
  have HB := B7
  clear M7 N7 R7 B7
  have hcz0 : w7.cell? ⟨g1, 0, none⟩ = some (.string (s.extract 0 6)) := (blk_cell M.out 0).trans rfl
  have hfz0 := blk_frozen M.out 0
  have hcz1 : w7.cell? ⟨g1, 1, none⟩ = some (.string (s.extract 6 12)) := (blk_cell M.out 1).trans rfl
  have hfz1 := blk_frozen M.out 1
  have hcz2 : w7.cell? ⟨g1, 2, none⟩ = some (.int .i64 (-1)) := (blk_cell M.out 2).trans rfl
  have hfz2 := blk_frozen M.out 2
  have hcz3 : w7.cell? ⟨g1, 3, none⟩ = some (.int .i64 0) := (blk_cell M.out 3).trans rfl
  have hfz3 := blk_frozen M.out 3
  have hcz4 : w7.cell? ⟨g1, 4, none⟩ = some (.int .i64 33024) := (blk_cell M.out 4).trans rfl
  have hfz4 := blk_frozen M.out 4
  have hcz5 : w7.cell? ⟨g1, 5, none⟩ = some (.string ⟨#[]⟩) := (blk_cell M.out 5).trans rfl
  have hfz5 := blk_frozen M.out 5
  have hcy : w7.cell? ⟨g2, 0, none⟩ = some (.int .i64 0) := (blk_cell NN.out 0).trans rfl
  have hfy := blk_frozen NN.out 0
  have hcr : w7.cell? ⟨g3, 0, none⟩ = some (.string (s.extract 14 s.size)) := (blk_cell R.out 0).trans rfl
  have hfr := blk_frozen R.out 0
  go_wp2_with fail
  refine (two_ok g3 (s.extract 14 s.size) k2 t _ (by rw [sizeX]; omega) (by rw [sizeX]; omega) t0.out t1.out R.out HT.out).mono ?_
  rintro e w8 ⟨rfl, hrd, hst⟩
  rw [ext_ext s 14 2] at hrd
  clear hcz0 hcz1 hcz2 hcz3 hcz4 hcz5 hfz0 hfz1 hfz2 hfz3 hfz4 hfz5 hcy hfy hcr hfr
  have M_ := Aside0.mk (hst.1 g1 _ E13.out M.out)
  have NN_ := Aside0.mk (hst.1 g2 _ E23.out NN.out)
  have HB_ := Aside0.mk (hst.2 w HB.out G3.out)
  clear M NN HB R hst
  have M := M_
  have NN := NN_
  have HB := HB_
  have R := Aside0.mk hrd
  clear M_ NN_ HB_ hrd
  go_wp2_with fail
  refine (two_ok g3 (s.extract 16 s.size) k3 v _ (by rw [sizeX]; omega) (by rw [sizeX]; omega) u0.out u1.out R.out HU.out).mono ?_
  rintro e w9 ⟨rfl, hrd, hst⟩
  rw [ext_ext s 16 2] at hrd
  have M_ := Aside0.mk (hst.1 g1 _ E13.out M.out)
  have NN_ := Aside0.mk (hst.1 g2 _ E23.out NN.out)
  have HB_ := Aside0.mk (hst.2 w HB.out G3.out)
  clear M NN HB R hst
  have M := M_
  have NN := NN_
  have HB := HB_
  have R := Aside0.mk hrd
  clear M_ NN_ HB_ hrd
  have hcz0 : w9.cell? ⟨g1, 0, none⟩ = some (.string (s.extract 0 6)) := (blk_cell M.out 0).trans rfl
  have hfz0 := blk_frozen M.out 0
  have hcz1 : w9.cell? ⟨g1, 1, none⟩ = some (.string (s.extract 6 12)) := (blk_cell M.out 1).trans rfl
  have hfz1 := blk_frozen M.out 1
  have hcz2 : w9.cell? ⟨g1, 2, none⟩ = some (.int .i64 (-1)) := (blk_cell M.out 2).trans rfl
  have hfz2 := blk_frozen M.out 2
  have hcz3 : w9.cell? ⟨g1, 3, none⟩ = some (.int .i64 0) := (blk_cell M.out 3).trans rfl
  have hfz3 := blk_frozen M.out 3
  have hcz4 : w9.cell? ⟨g1, 4, none⟩ = some (.int .i64 33024) := (blk_cell M.out 4).trans rfl
  have hfz4 := blk_frozen M.out 4
  have hcz5 : w9.cell? ⟨g1, 5, none⟩ = some (.string ⟨#[]⟩) := (blk_cell M.out 5).trans rfl
  have hfz5 := blk_frozen M.out 5
  have hcy : w9.cell? ⟨g2, 0, none⟩ = some (.int .i64 0) := (blk_cell NN.out 0).trans rfl
  have hfy := blk_frozen NN.out 0
  have hcr : w9.cell? ⟨g3, 0, none⟩ = some (.string (s.extract 18 s.size)) := (blk_cell R.out 0).trans rfl
  have hfr := blk_frozen R.out 0
  go_upto_region 10 with (fail)
  obtain ⟨w7, hw7, M7, N7, R7, B7⟩ := stored3 g1 g2 g3 w w9 (.int .i64 v) (.int .i64 (Go.bits .and .i64 t 4095)) (.int .i64 (t / 8192)) _ _ _ _ _ _ _ _ M.out NN.out R.out hne' hn3' HB.out G1.out
  rw [← hw7]
  clear hw7 hcz0 hcz1 hcz2 hcz3 hcz4 hcz5 hfz0 hfz1 hfz2 hfz3 hfz4 hfz5 hcy hfy hcr hfr M NN R HB
  have M := M7
  have NN := N7
  have R := R7
  have HB := B7
  clear M7 N7 R7 B7
  have hcz0 : w7.cell? ⟨g1, 0, none⟩ = some (.string (s.extract 0 6)) := (blk_cell M.out 0).trans rfl
  have hfz0 := blk_frozen M.out 0
  have hcz1 : w7.cell? ⟨g1, 1, none⟩ = some (.string (s.extract 6 12)) := (blk_cell M.out 1).trans rfl
  have hfz1 := blk_frozen M.out 1
  have hcz2 : w7.cell? ⟨g1, 2, none⟩ = some (.int .i64 (Go.bits .and .i64 t 4095)) := (blk_cell M.out 2).trans rfl
  have hfz2 := blk_frozen M.out 2
  have hcz3 : w7.cell? ⟨g1, 3, none⟩ = some (.int .i64 (t / 8192)) := (blk_cell M.out 3).trans rfl
  have hfz3 := blk_frozen M.out 3
  have hcz4 : w7.cell? ⟨g1, 4, none⟩ = some (.int .i64 v) := (blk_cell M.out 4).trans rfl
  have hfz4 := blk_frozen M.out 4
  have hcz5 : w7.cell? ⟨g1, 5, none⟩ = some (.string ⟨#[]⟩) := (blk_cell M.out 5).trans rfl
  have hfz5 := blk_frozen M.out 5
  have hcy : w7.cell? ⟨g2, 0, none⟩ = some (.int .i64 0) := (blk_cell NN.out 0).trans rfl
  have hfy := blk_frozen NN.out 0
  have hcr : w7.cell? ⟨g3, 0, none⟩ = some (.string (s.extract 18 s.size)) := (blk_cell R.out 0).trans rfl
  have hfr := blk_frozen R.out 0
  have hb1 := HBIT.out
  have hv1 := HVL.out
  go_wp2_with fail
  refine (eth_may.calls v false _ HM.out).mono ?_
  rintro e w8 ⟨rfl, ⟨nd, rfl⟩⟩
  go_wp2_with fail
  refine leaves_cons (f := 42) (args := #[.pointer (some ⟨g1, 0, none⟩), .pointer (some ⟨g2, 0, none⟩)]) (by simp) (by simp [go_sem]) ?_
  refine (catch_idle _ _ _).mono ?_
  rintro e u' w10 ⟨rfl, rfl, rfl⟩
  obtain ⟨w11, hw11, M11, N11, R11, B11⟩ := stored6 g1 g2 g3 w (w7.drewN nd) (.string ⟨#[]⟩) (.string ⟨#[]⟩) (.int .i64 0) (.int .i64 0) (.int .i64 0) (.string ⟨#[]⟩) _ _ _ _ _ _ _ _ M.out NN.out R.out hne' hn3' (pw_below_drewN HB.out _) G1.out
  rw [← hw11]
  exact ⟨_, results28 _ _ g1 g2 _ _ _ _ _ _ 61 rfl (blk_far M11.out hne _) rfl (blk_put N11.out 0 _ rfl), rfl, below_set B11.out G2.out⟩
/-- The number of two bytes at a place. -/
def numS (s : ByteArray) (a : Nat) : Int := bt s (a : Int) * 256 + bt s ((a + 1 : Nat) : Int)
theorem numS_bd (s : ByteArray) (a : Nat) : 0 ≤ numS s a ∧ numS s a < 65536 := by
  unfold numS
  rw [Mth.bt_eq, Mth.bt_eq]
  have h1 := Mth.getD_lt (Mth.B_bt s) a
  have h2 := Mth.getD_lt (Mth.B_bt s) (a + 1)
  omega
theorem num_get (s : ByteArray) (a : Nat) (h : a + 2 ≤ s.size) (hs : s.size ≤ 281474976710656) : ∃ k, words_Get.f k ((s.extract a s.size).extract 0 2) 0 2 true = some (numS s a, 0) := by
  have hz : ((s.extract a s.size).extract 0 2).size = 2 := by rw [ByteArray.size_extract, ByteArray.size_extract]; omega
  obtain ⟨k, e⟩ := WdA.get ((s.extract a s.size).extract 0 2) (by omega) 0 2 true
  refine ⟨k, ?_⟩
  have e := e k (Nat.le_refl _)
  simp only at e
  rw [e]
  have hB : Mth.B ((s.extract a s.size).extract 0 2) = [(Mth.B s).getD a 0, (Mth.B s).getD (a + 1) 0] := by
    rw [Mth.B_extract, Mth.B_extract, List.take_of_length_le (l := Mth.B s) (by rw [Mth.B_length]; exact Nat.le_refl _), List.drop_zero]
    have hl := Mth.B_length s
    apply List.ext_getElem
    · rw [List.length_take, List.length_drop]; simp; omega
    · intro i h1 h2
      rw [List.getElem_take, List.getElem_drop]
      match i, h2 with
      | 0, _ => simp [List.getD_eq_getElem?_getD, List.getElem?_eq_getElem (show a < (Mth.B s).length by omega)]
      | 1, _ => simp [List.getD_eq_getElem?_getD, List.getElem?_eq_getElem (show a + 1 < (Mth.B s).length by omega)]
  have hg : WdA.getS (Mth.B ((s.extract a s.size).extract 0 2)) 0 2 true = ((Mth.B s).getD a 0 * 256 + (Mth.B s).getD (a + 1) 0, 0) := by
    rw [hB]; simp [WdA.getS, Mth.val]
  rw [hg]
  unfold numS
  rw [Mth.bt_eq, Mth.bt_eq]
  simp
def eth_Parse.f (s : ByteArray) : Option (ByteArray × ByteArray × Int × Int × Int × ByteArray × Int) :=
  if (s.size : Int) > 1518 then some (⟨#[]⟩, ⟨#[]⟩, 0, 0, 0, ⟨#[]⟩, 61)
  else if s.size < 14 then some (⟨#[]⟩, ⟨#[]⟩, 0, 0, 0, ⟨#[]⟩, 60)
  else if numS s 12 = 33024 then
    (if s.size < 18 then some (⟨#[]⟩, ⟨#[]⟩, 0, 0, 0, ⟨#[]⟩, 60)
    else if (Go.bits .and .i64 (numS s 14) 4096 != 0) = true then some (⟨#[]⟩, ⟨#[]⟩, 0, 0, 0, ⟨#[]⟩, 61)
    else if decide (4094 < Go.bits .and .i64 (numS s 14) 4095) = true then some (⟨#[]⟩, ⟨#[]⟩, 0, 0, 0, ⟨#[]⟩, 61)
    else (eth_may.f (numS s 16)).bind fun m => if m = true then some (s.extract 0 6, s.extract 6 12, Go.bits .and .i64 (numS s 14) 4095, numS s 14 / 8192, numS s 16, s.extract 18 s.size, 0) else some (⟨#[]⟩, ⟨#[]⟩, 0, 0, 0, ⟨#[]⟩, 61))
  else (eth_may.f (numS s 12)).bind fun m => if m = true then some (s.extract 0 6, s.extract 6 12, -1, 0, numS s 12, s.extract 14 s.size, 0) else some (⟨#[]⟩, ⟨#[]⟩, 0, 0, 0, ⟨#[]⟩, 61)
theorem eth_Parse.calls (a0 : ByteArray) (r1 r2 : ByteArray) (r3 r4 r5 : Int) (r6 : ByteArray) (r7 : Int) (w : World) (h : eth_Parse.f a0 = some (r1, r2, r3, r4, r5, r6, r7)) :
    Calls Try.prog 28 #[.string a0] w fun e w' => e = .returned (.tuple #[.agg #[.string r1, .string r2, .int .i64 r3, .int .i64 r4, .int .i64 r5, .string r6], .int .i64 r7]) ∧ Below w.heap.size w w' := by
  unfold eth_Parse.f at h
  by_cases c1 : (a0.size : Int) > 1518
  · rw [if_pos c1] at h
    simp only [Option.some.injEq, Prod.mk.injEq] at h
    obtain ⟨rfl, rfl, rfl, rfl, rfl, rfl, rfl⟩ := h
    exact parse_long a0 w c1
  rw [if_neg c1] at h
  by_cases c2 : a0.size < 14
  · rw [if_pos c2] at h
    simp only [Option.some.injEq, Prod.mk.injEq] at h
    obtain ⟨rfl, rfl, rfl, rfl, rfl, rfl, rfl⟩ := h
    by_cases d1 : a0.size < 6
    · exact parse_short1 a0 w d1
    · by_cases d2 : a0.size < 12
      · exact parse_short2 a0 w (by omega) d2
      · exact parse_short3 a0 w (by omega) c2
  rw [if_neg c2] at h
  obtain ⟨k1, e1⟩ := num_get a0 12 (by omega) (by omega)
  have b1 := numS_bd a0 12
  by_cases c3 : numS a0 12 = 33024
  · rw [if_pos c3] at h
    rw [c3] at e1
    by_cases c4 : a0.size < 18
    · rw [if_pos c4] at h
      simp only [Option.some.injEq, Prod.mk.injEq] at h
      obtain ⟨rfl, rfl, rfl, rfl, rfl, rfl, rfl⟩ := h
      by_cases d1 : a0.size < 16
      · exact parse_short4 a0 k1 w (by omega) d1 e1
      · obtain ⟨k2, e2⟩ := num_get a0 14 (by omega) (by omega)
        exact parse_short5 a0 k1 k2 _ w (by omega) c4 e1 (numS_bd a0 14).1 (numS_bd a0 14).2 e2
    rw [if_neg c4] at h
    obtain ⟨k2, e2⟩ := num_get a0 14 (by omega) (by omega)
    obtain ⟨k3, e3⟩ := num_get a0 16 (by omega) (by omega)
    have b2 := numS_bd a0 14
    have b3 := numS_bd a0 16
    by_cases c5 : (Go.bits .and .i64 (numS a0 14) 4096 != 0) = true
    · rw [if_pos c5] at h
      simp only [Option.some.injEq, Prod.mk.injEq] at h
      obtain ⟨rfl, rfl, rfl, rfl, rfl, rfl, rfl⟩ := h
      exact parse_tag_a a0 k1 k2 k3 _ _ w (by omega) (by omega) e1 b2.1 b2.2 e2 b3.1 b3.2 e3 c5
    rw [if_neg c5] at h
    have c5' : (Go.bits .and .i64 (numS a0 14) 4096 != 0) = false := by simpa using c5
    by_cases c6 : decide (4094 < Go.bits .and .i64 (numS a0 14) 4095) = true
    · rw [if_pos c6] at h
      simp only [Option.some.injEq, Prod.mk.injEq] at h
      obtain ⟨rfl, rfl, rfl, rfl, rfl, rfl, rfl⟩ := h
      exact parse_tag_b a0 k1 k2 k3 _ _ w (by omega) (by omega) e1 b2.1 b2.2 e2 b3.1 b3.2 e3 c5' c6
    rw [if_neg c6] at h
    have c6' : decide (4094 < Go.bits .and .i64 (numS a0 14) 4095) = false := by simpa using c6
    obtain ⟨m, hm, h⟩ := Option.bind_eq_some_iff.1 h
    cases m with
    | true =>
      rw [if_pos rfl] at h
      simp only [Option.some.injEq, Prod.mk.injEq] at h
      obtain ⟨rfl, rfl, rfl, rfl, rfl, rfl, rfl⟩ := h
      exact parse_tag a0 k1 k2 k3 _ _ w (by omega) (by omega) e1 b2.1 b2.2 e2 b3.1 b3.2 e3 c5' c6' hm
    | false =>
      rw [if_neg (by decide)] at h
      simp only [Option.some.injEq, Prod.mk.injEq] at h
      obtain ⟨rfl, rfl, rfl, rfl, rfl, rfl, rfl⟩ := h
      exact parse_tag_c a0 k1 k2 k3 _ _ w (by omega) (by omega) e1 b2.1 b2.2 e2 b3.1 b3.2 e3 c5' c6' hm
  · rw [if_neg c3] at h
    obtain ⟨m, hm, h⟩ := Option.bind_eq_some_iff.1 h
    cases m with
    | true =>
      rw [if_pos rfl] at h
      simp only [Option.some.injEq, Prod.mk.injEq] at h
      obtain ⟨rfl, rfl, rfl, rfl, rfl, rfl, rfl⟩ := h
      exact parse_plain a0 k1 _ w (by omega) (by omega) b1.1 b1.2 e1 c3 hm
    | false =>
      rw [if_neg (by decide)] at h
      simp only [Option.some.injEq, Prod.mk.injEq] at h
      obtain ⟨rfl, rfl, rfl, rfl, rfl, rfl, rfl⟩ := h
      exact parse_plain_bad a0 k1 _ w (by omega) (by omega) b1.1 b1.2 e1 c3 hm
end Go.Proofs.Ytnckogdplcijiaa.P
