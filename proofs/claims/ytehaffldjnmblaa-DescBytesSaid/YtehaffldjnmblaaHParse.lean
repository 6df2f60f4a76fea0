/- What desc.Parse computes, with its walk by hand (it makes a closure over its argument). -/
import Derived.Test.YtehaffldjnmblaaPx16
namespace Go.Proofs.Ytehaffldjnmblaa.P
open Go.RowKit Go.Proofs.YtehaffldjnmblaaW.PrintWords Go.Proofs.YtehaffldjnmblaaW.PrintLast Go.Proofs.YtehaffldjnmblaaW.PrintMore
set_option linter.unusedVariables false
set_option linter.unusedSimpArgs false
theorem get_fn (a : Addr) (s : ByteArray) (at' n : Int) (k : Nat) (r1 r2 : Int) (w : World) (hc : w.cell? a = some (.string s)) (h : words_Get.f k s at' n false = some (r1, r2)) :
    Calls Try.prog 20 #[.int .i64 at', .int .i64 n, .pointer (some a)] w fun e w' => e = .returned (.int .u64 r1) ∧ Below w.heap.size w w' := by
  have C := fun W => words_Get.calls k s at' n false r1 r2 W h
  go_enter Try.func20, Try.ntmps20
  go_wp2_with (go_at_call 21; refine (C _).mono ?_; rintro e w' ⟨rfl, hb⟩)
  go_ret
  exact ⟨rfl, hb⟩
def desc_Parse.f (k : Nat) (a0 : ByteArray) : Option (Int × Int × Int × Int × Int) := if (a0.size : Int) = 16 then ((words_Get.f k a0 0 8 false).bind fun a => ((words_Get.f k a0 8 4 false).bind fun b => ((words_Get.f k a0 12 2 false).bind fun c => ((words_Get.f k a0 14 2 false).bind fun d => (some (a.1, (b.1) % 4294967296, wrap64 (c.1), wrap64 (d.1), 0)))))) else (some (0, 0, 0, 0, 1))
set_option maxHeartbeats 4000000 in
set_option maxRecDepth 100000 in
theorem parse_yes (s : ByteArray) (k : Nat) (a1 a2 b1 b2 c1 c2 d1 d2 : Int) (w : World) (h : s.size = 16) (ha : words_Get.f k s 0 8 false = some (a1, a2)) (hb : words_Get.f k s 8 4 false = some (b1, b2))
    (hc : words_Get.f k s 12 2 false = some (c1, c2)) (hd : words_Get.f k s 14 2 false = some (d1, d2)) :
    Calls Try.prog 9 #[.string s] w fun e w' => e = .returned (.tuple #[.agg #[.int .u64 a1, .int .u32 (b1 % 4294967296), .int .i64 (wrap64 c1), .int .i64 (wrap64 d1)], .int .i64 0]) ∧ Below w.heap.size w w' := by
  have h1 : ((s.size : Int) != 16) = false := by simp [h]
  have HA := Aside0.mk ha
  have HBB := Aside0.mk hb
  have HC := Aside0.mk hc
  have HD := Aside0.mk hd
  have HS := Aside0.mk h
  clear ha hb hc hd h
  have hmf : ∀ (fn : Fn) (first cap : Array Value) (w : World), (Instr.makeFunc fn first cap).run Try.prog w = .ok (.func fn first cap) w := fun _ _ _ _ => rfl
  have hu25 := Try.underlying25
  go_enter Try.func9, Try.ntmps9
  go_wp2_with (first | ((with_reducible refine gate_dst (N := 1) rfl ?_); refine box_event ?hg (N := 1) ?hd (cs := #[.string s]) (t := 9) ?hr ?_; (case hd => rfl); (case hg => rfl); (case hr => first | (go_simp; done) | (go_simp; rfl)); intro g1 hg w1 hbox hb; have N1 := Aside0.mk hbox; have B1 := Aside0.mk hb; have G1 := Aside0.mk (Nat.le_of_eq hg.symm); clear hg hbox hb) | ((with_reducible refine gate_dst (N := 2) rfl ?_); refine box_event ?hg (N := 2) ?hd (cs := #[.int .u64 0, .int .u32 0, .int .i64 0, .int .i64 0]) (t := 25) ?hr ?_; (case hd => rfl); (case hg => rfl); (case hr => first | (go_simp; done) | (go_simp; rfl)); intro g2 hg w2 hbox hb; have N2 := Aside0.mk hbox; have M1 := Aside0.mk (blk_below N1.out hb); have B2 := Aside0.mk (below_step B1.out hb); have G2 := Aside0.mk (Nat.le_trans B1.out.size (Nat.le_of_eq hg.symm)); clear hg hbox hb; clear N1 B1; have hcz : w2.cell? ⟨g1, 0, none⟩ = some (.string s) := (blk_cell M1.out 0).trans rfl))
  refine (get_fn _ s 0 8 k a1 a2 _ hcz HA.out).mono ?_
  rintro e w3 ⟨rfl, hb⟩
  have M2 := Aside0.mk (blk_below M1.out hb)
  have N3 := Aside0.mk (blk_below N2.out hb)
  have B3 := Aside0.mk (below_step B2.out hb)
  clear hb hcz
  have hcz : w3.cell? ⟨g1, 0, none⟩ = some (.string s) := (blk_cell M2.out 0).trans rfl
  go_wp2_with fail
  refine (get_fn _ s 8 4 k b1 b2 _ hcz HBB.out).mono ?_
  rintro e w4 ⟨rfl, hb⟩
  have M3 := Aside0.mk (blk_below M2.out hb)
  have N4 := Aside0.mk (blk_below N3.out hb)
  have B4 := Aside0.mk (below_step B3.out hb)
  clear hb hcz
  have hcz : w4.cell? ⟨g1, 0, none⟩ = some (.string s) := (blk_cell M3.out 0).trans rfl
  go_wp2_with fail
  refine (get_fn _ s 12 2 k c1 c2 _ hcz HC.out).mono ?_
  rintro e w5 ⟨rfl, hb⟩
  have M4 := Aside0.mk (blk_below M3.out hb)
  have N5 := Aside0.mk (blk_below N4.out hb)
  have B5 := Aside0.mk (below_step B4.out hb)
  clear hb hcz
  have hcz : w5.cell? ⟨g1, 0, none⟩ = some (.string s) := (blk_cell M4.out 0).trans rfl
  go_wp2_with fail
  refine (get_fn _ s 14 2 k d1 d2 _ hcz HD.out).mono ?_
  rintro e w6 ⟨rfl, hb⟩
  have N6 := Aside0.mk (blk_below N5.out hb)
  have B6 := Aside0.mk (below_step B5.out hb)
  have G6 := Aside0.mk (Nat.le_trans G2.out (Nat.le_refl _))
  clear hb hcz
  have hcz0 : w6.cell? ⟨g2, 0, none⟩ = some (.int .u64 0) := (blk_cell N6.out 0).trans rfl
  have hcz1 : w6.cell? ⟨g2, 1, none⟩ = some (.int .u32 0) := (blk_cell N6.out 1).trans rfl
  have hcz2 : w6.cell? ⟨g2, 2, none⟩ = some (.int .i64 0) := (blk_cell N6.out 2).trans rfl
  have hcz3 : w6.cell? ⟨g2, 3, none⟩ = some (.int .i64 0) := (blk_cell N6.out 3).trans rfl
  have hfz0 := blk_frozen N6.out 0
  have hfz1 := blk_frozen N6.out 1
  have hfz2 := blk_frozen N6.out 2
  have hfz3 := blk_frozen N6.out 3
  go_wp2_with fail
  refine bodyPost_ret (results_ct rfl _ _ g2 25 #[.int .u64 a1, .int .u32 (b1 % 4294967296), .int .i64 (wrap64 c1), .int .i64 (wrap64 d1)] (0, 0) _ rfl (by refine blk_put (cs := #[.int .u64 a1, .int .u32 (b1 % 4294967296), .int .i64 (wrap64 c1), .int .i64 0]) ?_ 3 _ rfl; refine blk_put (cs := #[.int .u64 a1, .int .u32 (b1 % 4294967296), .int .i64 0, .int .i64 0]) ?_ 2 _ rfl; refine blk_put (cs := #[.int .u64 a1, .int .u32 0, .int .i64 0, .int .i64 0]) ?_ 1 _ rfl; refine blk_put (cs := #[.int .u64 0, .int .u32 0, .int .i64 0, .int .i64 0]) ?_ 0 _ rfl; exact N6.out) Try.underlying25 rfl (by kernel_rfl)) rfl ?_
  exact ⟨rfl, by repeat (first | exact B6.out | refine below_set ?_ G2.out)⟩
set_option maxHeartbeats 4000000 in
set_option maxRecDepth 100000 in
theorem parse_no (s : ByteArray) (w : World) (h : ¬ (s.size : Int) = 16) :
    Calls Try.prog 9 #[.string s] w fun e w' => e = .returned (.tuple #[.agg #[.int .u64 0, .int .u32 0, .int .i64 0, .int .i64 0], .int .i64 1]) ∧ Below w.heap.size w w' := by
  have h1 : ((s.size : Int) != 16) = true := bne_iff_ne.2 h
  have hu25 := Try.underlying25
  clear h
  go_enter Try.func9, Try.ntmps9
  go_wp2_with (first | ((with_reducible refine gate_dst (N := 1) rfl ?_); refine box_event ?hg (N := 1) ?hd (cs := #[.string s]) (t := 9) ?hr ?_; (case hd => rfl); (case hg => rfl); (case hr => first | (go_simp; done) | (go_simp; rfl)); intro g1 hg w1 hbox hb; have N1 := Aside0.mk hbox; have B1 := Aside0.mk hb; clear hg hbox hb) | ((with_reducible refine gate_dst (N := 2) rfl ?_); refine box_event ?hg (N := 2) ?hd (cs := #[.int .u64 0, .int .u32 0, .int .i64 0, .int .i64 0]) (t := 25) ?hr ?_; (case hd => rfl); (case hg => rfl); (case hr => first | (go_simp; done) | (go_simp; rfl)); intro g2 hg w2 hbox hb; have N6 := Aside0.mk hbox; have M1 := Aside0.mk (blk_below N1.out hb); have B6 := Aside0.mk (below_step B1.out hb); have G2 := Aside0.mk (Nat.le_trans B1.out.size (Nat.le_of_eq hg.symm)); clear hg hbox hb; clear N1 B1; have hcz : w2.cell? ⟨g1, 0, none⟩ = some (.string s) := (blk_cell M1.out 0).trans rfl; have hcz0 : w2.cell? ⟨g2, 0, none⟩ = some (.int .u64 0) := (blk_cell N6.out 0).trans rfl; have hcz1 : w2.cell? ⟨g2, 1, none⟩ = some (.int .u32 0) := (blk_cell N6.out 1).trans rfl; have hcz2 : w2.cell? ⟨g2, 2, none⟩ = some (.int .i64 0) := (blk_cell N6.out 2).trans rfl; have hcz3 : w2.cell? ⟨g2, 3, none⟩ = some (.int .i64 0) := (blk_cell N6.out 3).trans rfl; have hfz0 := blk_frozen N6.out 0; have hfz1 := blk_frozen N6.out 1; have hfz2 := blk_frozen N6.out 2; have hfz3 := blk_frozen N6.out 3))
  refine bodyPost_ret (results_ct rfl _ _ g2 25 #[.int .u64 0, .int .u32 0, .int .i64 0, .int .i64 0] (0, 0) _ rfl (by refine blk_put (cs := #[.int .u64 0, .int .u32 0, .int .i64 0, .int .i64 0]) ?_ 3 _ rfl; refine blk_put (cs := #[.int .u64 0, .int .u32 0, .int .i64 0, .int .i64 0]) ?_ 2 _ rfl; refine blk_put (cs := #[.int .u64 0, .int .u32 0, .int .i64 0, .int .i64 0]) ?_ 1 _ rfl; refine blk_put (cs := #[.int .u64 0, .int .u32 0, .int .i64 0, .int .i64 0]) ?_ 0 _ rfl; exact N6.out) Try.underlying25 rfl (by kernel_rfl)) rfl ?_
  exact ⟨rfl, by repeat (first | exact B6.out | refine below_set ?_ G2.out)⟩
theorem desc_Parse.mono : ∀ a0 k, LeO (desc_Parse.f k a0) (desc_Parse.f (k + 1) a0) := by
  intro a0 k
  unfold desc_Parse.f
  repeat' first
      | (with_reducible exact words_Get.mono _ _ _ _ _)
      | (with_reducible exact LeO.refl _)
      | (with_reducible refine LeO.ite ?_ ?_)
      | (with_reducible refine LeO.bind ?_ (fun _ => ?_))
theorem desc_Parse.calls (k : Nat) (a0 : ByteArray) (r1 : Int) (r2 : Int) (r3 : Int) (r4 : Int) (r5 : Int) (w : World) (h : desc_Parse.f k a0 = some (r1, r2, r3, r4, r5)) :
    Calls Try.prog 9 #[.string a0] w fun e w' => e = .returned (.tuple #[.agg #[.int .u64 r1, .int .u32 r2, .int .i64 r3, .int .i64 r4], .int .i64 r5]) ∧ Below w.heap.size w w' := by
  unfold desc_Parse.f at h
  by_cases c : (a0.size : Int) = 16
  · rw [if_pos c] at h
    obtain ⟨⟨a1, a2⟩, ha, h⟩ := Option.bind_eq_some_iff.1 h
    obtain ⟨⟨b1, b2⟩, hb, h⟩ := Option.bind_eq_some_iff.1 h
    obtain ⟨⟨c1, c2⟩, hc, h⟩ := Option.bind_eq_some_iff.1 h
    obtain ⟨⟨d1, d2⟩, hd, h⟩ := Option.bind_eq_some_iff.1 h
    simp only [Option.some.injEq, Prod.mk.injEq] at h
    obtain ⟨rfl, rfl, rfl, rfl, rfl⟩ := h
    exact parse_yes a0 k a1 a2 b1 b2 c1 c2 d1 d2 w (by omega) ha hb hc hd
  · rw [if_neg c] at h
    simp only [Option.some.injEq, Prod.mk.injEq] at h
    obtain ⟨rfl, rfl, rfl, rfl, rfl⟩ := h
    exact parse_no a0 w c
end Go.Proofs.Ytehaffldjnmblaa.P
