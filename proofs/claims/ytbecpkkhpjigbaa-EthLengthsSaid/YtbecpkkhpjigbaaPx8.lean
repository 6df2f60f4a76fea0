/- What functions of the program compute, each with the walk that shows it: by a program (a turned copy of the kit's print; wip/myprint.py). -/
import Derived.Test.YtbecpkkhpjigbaaPx0
import Derived.Test.YtbecpkkhpjigbaaPx1
import Derived.Test.YtbecpkkhpjigbaaPx7
import Derived.Test.YtbecpkkhpjigbaaHParse
namespace Go.Proofs.Ytbecpkkhpjigbaa.P
open Go.RowKit Go.Proofs.YtbecpkkhpjigbaaW.PrintWords Go.Proofs.YtbecpkkhpjigbaaW.PrintLast Go.Proofs.YtbecpkkhpjigbaaW.PrintMore
attribute [local go_sem] max2_int min2_int max_two min_two max_three min_three max_four min_four   -- for this text's walks alone
set_option linter.unusedVariables false
set_option linter.unusedSimpArgs false

attribute [local go_sem high] eqA23
/-! ### eth_Tag: function 15 -/
def eth_Tag.f (k : Nat) (a0 : ByteArray) (a1 : Int) : Option (ByteArray × Int) := (eth_Parse.f a0).bind fun bt128 => (if bt128.2.2.2.2.2.2 = 0 then (if a1 = (-1) then ((eth_Build.f k bt128.1 bt128.2.1 a1 0 bt128.2.2.2.2.1 bt128.2.2.2.2.2.1).bind fun bt136 => (some (bt136.1, bt136.2))) else ((eth_Build.f k bt128.1 bt128.2.1 a1 bt128.2.2.2.1 bt128.2.2.2.2.1 bt128.2.2.2.2.2.1).bind fun bt138 => (some (bt138.1, bt138.2)))) else (some ((⟨#[]⟩ : ByteArray), bt128.2.2.2.2.2.2)))
theorem eth_Tag.mono : ∀ a0 a1 k, LeO (eth_Tag.f k a0 a1) (eth_Tag.f (k + 1) a0 a1) := by
  intro a0 a1 k
  unfold eth_Tag.f
  repeat' first
      | (with_reducible exact eth_Build.mono _ _ _ _ _ _ _)
      | (with_reducible exact LeO.refl _)
      | (with_reducible exact LeO.none _)
      | (with_reducible refine LeO.ite ?_ ?_)
      | (with_reducible refine LeO.bind ?_ (fun _ => ?_))
      | exact eth_Build.mono _ _ _ _ _ _ _
      | exact LeO.none _
      | refine LeO.ite ?_ ?_
      | refine LeO.bind ?_ (fun _ => ?_)
/-- A struct that was stored, its world under a name. -/
theorem tag_st6 (g : Nat) (w0 w : World) (u0 u1 u2 u3 u4 u5 c0 c1 c2 c3 c4 c5 : Value) (h1 : w.heap[g]? = some (.cells #[c0, c1, c2, c3, c4, c5] 23 (0, 0))) (hb : Below w0.heap.size w0 w) (hg : w0.heap.size ≤ g) :
    ∃ w', w' = (((((w.setCell ⟨g, 0, none⟩ u0).setCell ⟨g, 1, none⟩ u1).setCell ⟨g, 2, none⟩ u2).setCell ⟨g, 3, none⟩ u3).setCell ⟨g, 4, none⟩ u4).setCell ⟨g, 5, none⟩ u5 ∧
      Aside0 (w'.heap[g]? = some (.cells #[u0, u1, u2, u3, u4, u5] 23 (0, 0))) ∧ Aside0 (Below w0.heap.size w0 w') := by
  refine ⟨_, rfl, ⟨?_⟩, ⟨?_⟩⟩
  · refine blk_put (cs := #[u0, u1, u2, u3, u4, c5]) ?_ 5 _ rfl
    refine blk_put (cs := #[u0, u1, u2, u3, c4, c5]) ?_ 4 _ rfl
    refine blk_put (cs := #[u0, u1, u2, c3, c4, c5]) ?_ 3 _ rfl
    refine blk_put (cs := #[u0, u1, c2, c3, c4, c5]) ?_ 2 _ rfl
    refine blk_put (cs := #[u0, c1, c2, c3, c4, c5]) ?_ 1 _ rfl
    exact blk_put (cs := #[c0, c1, c2, c3, c4, c5]) h1 0 _ rfl
  · exact below_set (below_set (below_set (below_set (below_set (below_set hb hg) hg) hg) hg) hg) hg
theorem tag_st1 (g : Nat) (w0 w : World) (u2 c0 c1 c2 c3 c4 c5 : Value) (h1 : w.heap[g]? = some (.cells #[c0, c1, c2, c3, c4, c5] 23 (0, 0))) (hb : Below w0.heap.size w0 w) (hg : w0.heap.size ≤ g) :
    ∃ w', w' = w.setCell ⟨g, 2, none⟩ u2 ∧ Aside0 (w'.heap[g]? = some (.cells #[c0, c1, u2, c3, c4, c5] 23 (0, 0))) ∧ Aside0 (Below w0.heap.size w0 w') :=
  ⟨_, rfl, ⟨blk_put (cs := #[c0, c1, c2, c3, c4, c5]) h1 2 _ rfl⟩, ⟨below_set hb hg⟩⟩
theorem tag_st2 (g : Nat) (w0 w : World) (u2 u3 c0 c1 c2 c3 c4 c5 : Value) (h1 : w.heap[g]? = some (.cells #[c0, c1, c2, c3, c4, c5] 23 (0, 0))) (hb : Below w0.heap.size w0 w) (hg : w0.heap.size ≤ g) :
    ∃ w', w' = (w.setCell ⟨g, 2, none⟩ u2).setCell ⟨g, 3, none⟩ u3 ∧ Aside0 (w'.heap[g]? = some (.cells #[c0, c1, u2, u3, c4, c5] 23 (0, 0))) ∧ Aside0 (Below w0.heap.size w0 w') :=
  ⟨_, rfl, ⟨blk_put (cs := #[c0, c1, u2, c3, c4, c5]) (blk_put (cs := #[c0, c1, c2, c3, c4, c5]) h1 2 _ rfl) 3 _ rfl⟩, ⟨below_set (below_set hb hg) hg⟩⟩
set_option maxHeartbeats 8000000 in
set_option maxRecDepth 100000 in
theorem eth_Tag.calls (k : Nat) (a0 : ByteArray) (a1 : Int) (r1 : ByteArray) (r2 : Int) (w : World) (h : eth_Tag.f k a0 a1 = some (r1, r2)) :
    Calls Try.prog 15 #[.string a0, .int .i64 a1] w fun e w' => e = .returned (.tuple #[.string r1, .int .i64 r2]) ∧ Below w.heap.size w w' := by
  have hu23 := Try.underlying23
  have HB := Aside0.mk (Below.refl w.heap.size w)
  have H : ((eth_Parse.f a0).bind fun bt128 => (if bt128.2.2.2.2.2.2 = 0 then (if a1 = (-1) then ((eth_Build.f k bt128.1 bt128.2.1 a1 0 bt128.2.2.2.2.1 bt128.2.2.2.2.2.1).bind fun bt136 => (some (bt136.1, bt136.2))) else ((eth_Build.f k bt128.1 bt128.2.1 a1 bt128.2.2.2.1 bt128.2.2.2.2.1 bt128.2.2.2.2.2.1).bind fun bt138 => (some (bt138.1, bt138.2)))) else (some ((⟨#[]⟩ : ByteArray), bt128.2.2.2.2.2.2)))) = some (r1, r2) := h
  clear h
  replace H := Option.bind_eq_some_iff.mp H
  obtain ⟨⟨t128, t129, t130, t131, t132, t133, t134⟩, A30, H⟩ := H
  replace H : (if t134 = 0 then (if a1 = (-1) then ((eth_Build.f k t128 t129 a1 0 t132 t133).bind fun bt136 => (some (bt136.1, bt136.2))) else ((eth_Build.f k t128 t129 a1 t131 t132 t133).bind fun bt138 => (some (bt138.1, bt138.2)))) else (some ((⟨#[]⟩ : ByteArray), t134))) = some (r1, r2) := H
  have A3 := Aside0.mk A30
  clear A30
  by_cases c4 : t134 = 0
  · rw [if_pos c4] at H
    have c4b0 : (t134 == 0) = true := beq_iff_eq.mpr c4
    have c4b1 : (t134 != 0) = false := bne_eq_false_iff_eq.mpr c4
    clear c4
    by_cases c5 : a1 = (-1)
    · rw [if_pos c5] at H
      have c5b0 : (a1 == (-1)) = true := beq_iff_eq.mpr c5
      clear c5
      replace H := Option.bind_eq_some_iff.mp H
      obtain ⟨⟨q1, q2⟩, A60, H⟩ := H
      replace H : (some (q1, q2)) = some (r1, r2) := H
      have A6 := Aside0.mk A60
      clear A60
      simp only [Option.some.injEq, Prod.mk.injEq] at H
      obtain ⟨rfl, rfl⟩ := H
      go_enter Try.func15, Try.ntmps15
      go_upto_region 4 with (first | ((with_reducible refine gate_callee (f := 10) rfl ?_); refine goesL_ (some 10) rfl rfl Try.func10 (by kernel_rfl) rfl #[.string a0] rfl (by (try simp only [List.map_toArray, List.map_cons, List.map_nil]); first | done | rfl | (simp only [List.length_drop, List.length_take]; rfl)) ?_; (with_reducible refine (eth_Parse.calls a0 t128 t129 t130 t131 t132 t133 t134 _ A3.out).mono ?_); rintro e w12 ⟨rfl, hb⟩; refine ⟨_, rfl, ?_⟩; have n0_ := Aside0.mk (below_step (by repeat (first | (with_reducible first | exact HB.out | apply below_alloc | apply pw_below_drewN | apply below_drew1) | exact HB.out)) hb); clear HB; have HB := n0_; clear n0_; (try clear hb); (try clear hb2); (try clear hk); (try clear hi)) | ((with_reducible refine gate_dst (N := 6) rfl ?_); refine box_event ?hg (N := 6) ?hd (cs := #[.string (⟨#[]⟩ : ByteArray), .string (⟨#[]⟩ : ByteArray), .int .i64 0, .int .i64 0, .int .i64 0, .string (⟨#[]⟩ : ByteArray)]) (t := 23) ?hr ?_; (case hd => rfl); (case hg => rfl); (case hr => first | (go_simp; done) | (go_simp; rfl)); intro gb135 hg w13 hbox hb; have n0_ := Aside0.mk (below_step (by repeat (first | (with_reducible first | exact HB.out | apply below_alloc | apply pw_below_drewN | apply below_drew1) | exact HB.out)) hb); have n1_ := Aside0.mk (hbox); have n2_ := Aside0.mk ((by rw [hg]; exact (below_size (by repeat (first | (with_reducible first | exact HB.out | apply below_alloc | apply pw_below_drewN | apply below_drew1) | exact HB.out))) : w.heap.size ≤ gb135)); have n3_ := Aside0.mk ((by rw [hg]; exact (below_size (by repeat (first | (with_reducible first | exact HB.out | apply below_alloc | apply pw_below_drewN | apply below_drew1) | exact HB.out))) : w.heap.size ≤ gb135)); clear HB; have HB := n0_; have BK135 := n1_; have GW135 := n2_; have GE135 := n3_; clear n0_ n1_ n2_ n3_; clear hb hbox hg; have hcz14_0 : w13.cell? ⟨gb135, 0, none⟩ = some (.string (⟨#[]⟩ : ByteArray)) := (blk_cell BK135.out 0).trans rfl; have hcz14_1 : w13.cell? ⟨gb135, 1, none⟩ = some (.string (⟨#[]⟩ : ByteArray)) := (blk_cell BK135.out 1).trans rfl; have hcz14_2 : w13.cell? ⟨gb135, 2, none⟩ = some (.int .i64 0) := (blk_cell BK135.out 2).trans rfl; have hcz14_3 : w13.cell? ⟨gb135, 3, none⟩ = some (.int .i64 0) := (blk_cell BK135.out 3).trans rfl; have hcz14_4 : w13.cell? ⟨gb135, 4, none⟩ = some (.int .i64 0) := (blk_cell BK135.out 4).trans rfl; have hcz14_5 : w13.cell? ⟨gb135, 5, none⟩ = some (.string (⟨#[]⟩ : ByteArray)) := (blk_cell BK135.out 5).trans rfl; have hfz14_0 := blk_frozen BK135.out 0; have hfz14_1 := blk_frozen BK135.out 1; have hfz14_2 := blk_frozen BK135.out 2; have hfz14_3 := blk_frozen BK135.out 3; have hfz14_4 := blk_frozen BK135.out 4; have hfz14_5 := blk_frozen BK135.out 5))
      obtain ⟨wa, hwa, MM, HB2⟩ := tag_st6 gb135 w w13 (.string t128) (.string t129) (.int .i64 t130) (.int .i64 t131) (.int .i64 t132) (.string t133) _ _ _ _ _ _ BK135.out HB.out GE135.out
      rw [← hwa]
      clear hwa BK135 HB hcz14_0 hfz14_0 hcz14_1 hfz14_1 hcz14_2 hfz14_2 hcz14_3 hfz14_3 hcz14_4 hfz14_4 hcz14_5 hfz14_5
      have HB := HB2
      clear HB2
      have hq0 : wa.cell? ⟨gb135, 0, none⟩ = some (.string t128) := (blk_cell MM.out 0).trans rfl
      have hr0 := blk_frozen MM.out 0
      have hq1 : wa.cell? ⟨gb135, 1, none⟩ = some (.string t129) := (blk_cell MM.out 1).trans rfl
      have hr1 := blk_frozen MM.out 1
      have hq2 : wa.cell? ⟨gb135, 2, none⟩ = some (.int .i64 t130) := (blk_cell MM.out 2).trans rfl
      have hr2 := blk_frozen MM.out 2
      have hq3 : wa.cell? ⟨gb135, 3, none⟩ = some (.int .i64 t131) := (blk_cell MM.out 3).trans rfl
      have hr3 := blk_frozen MM.out 3
      have hq4 : wa.cell? ⟨gb135, 4, none⟩ = some (.int .i64 t132) := (blk_cell MM.out 4).trans rfl
      have hr4 := blk_frozen MM.out 4
      have hq5 : wa.cell? ⟨gb135, 5, none⟩ = some (.string t133) := (blk_cell MM.out 5).trans rfl
      have hr5 := blk_frozen MM.out 5
      go_upto_region 7 with (fail)
      obtain ⟨wb, hwb, MM2, HB2⟩ := tag_st2 gb135 w wa (.int .i64 a1) (.int .i64 0) _ _ _ _ _ _ MM.out HB.out GE135.out
      rw [← hwb]
      clear hwb
      clear hq0 hq1 hq2 hq3 hq4 hq5 hr0 hr1 hr2 hr3 hr4 hr5 MM HB
      have MM := MM2
      have HB := HB2
      clear MM2 HB2
      have hq0 : wb.cell? ⟨gb135, 0, none⟩ = some (.string t128) := (blk_cell MM.out 0).trans rfl
      have hr0 := blk_frozen MM.out 0
      have hq1 : wb.cell? ⟨gb135, 1, none⟩ = some (.string t129) := (blk_cell MM.out 1).trans rfl
      have hr1 := blk_frozen MM.out 1
      have hq2 : wb.cell? ⟨gb135, 2, none⟩ = some (.int .i64 a1) := (blk_cell MM.out 2).trans rfl
      have hr2 := blk_frozen MM.out 2
      have hq3 : wb.cell? ⟨gb135, 3, none⟩ = some (.int .i64 0) := (blk_cell MM.out 3).trans rfl
      have hr3 := blk_frozen MM.out 3
      have hq4 : wb.cell? ⟨gb135, 4, none⟩ = some (.int .i64 t132) := (blk_cell MM.out 4).trans rfl
      have hr4 := blk_frozen MM.out 4
      have hq5 : wb.cell? ⟨gb135, 5, none⟩ = some (.string t133) := (blk_cell MM.out 5).trans rfl
      have hr5 := blk_frozen MM.out 5
      go_wp2_with fail
      refine (eth_Build.calls k t128 t129 a1 0 t132 t133 q1 q2 _ A6.out).mono ?_
      rintro e wc ⟨rfl, hb⟩
      go_wp2_with fail
      go_ret2
      exact ⟨rfl, below_step HB.out hb⟩
    · rw [if_neg c5] at H
      have c5b0 : (a1 == (-1)) = false := beq_eq_false_iff_ne.mpr c5
      clear c5
      replace H := Option.bind_eq_some_iff.mp H
      obtain ⟨⟨q1, q2⟩, A60, H⟩ := H
      replace H : (some (q1, q2)) = some (r1, r2) := H
      have A6 := Aside0.mk A60
      clear A60
      simp only [Option.some.injEq, Prod.mk.injEq] at H
      obtain ⟨rfl, rfl⟩ := H
      go_enter Try.func15, Try.ntmps15
      go_upto_region 4 with (first | ((with_reducible refine gate_callee (f := 10) rfl ?_); refine goesL_ (some 10) rfl rfl Try.func10 (by kernel_rfl) rfl #[.string a0] rfl (by (try simp only [List.map_toArray, List.map_cons, List.map_nil]); first | done | rfl | (simp only [List.length_drop, List.length_take]; rfl)) ?_; (with_reducible refine (eth_Parse.calls a0 t128 t129 t130 t131 t132 t133 t134 _ A3.out).mono ?_); rintro e w12 ⟨rfl, hb⟩; refine ⟨_, rfl, ?_⟩; have n0_ := Aside0.mk (below_step (by repeat (first | (with_reducible first | exact HB.out | apply below_alloc | apply pw_below_drewN | apply below_drew1) | exact HB.out)) hb); clear HB; have HB := n0_; clear n0_; (try clear hb); (try clear hb2); (try clear hk); (try clear hi)) | ((with_reducible refine gate_dst (N := 6) rfl ?_); refine box_event ?hg (N := 6) ?hd (cs := #[.string (⟨#[]⟩ : ByteArray), .string (⟨#[]⟩ : ByteArray), .int .i64 0, .int .i64 0, .int .i64 0, .string (⟨#[]⟩ : ByteArray)]) (t := 23) ?hr ?_; (case hd => rfl); (case hg => rfl); (case hr => first | (go_simp; done) | (go_simp; rfl)); intro gb135 hg w13 hbox hb; have n0_ := Aside0.mk (below_step (by repeat (first | (with_reducible first | exact HB.out | apply below_alloc | apply pw_below_drewN | apply below_drew1) | exact HB.out)) hb); have n1_ := Aside0.mk (hbox); have n2_ := Aside0.mk ((by rw [hg]; exact (below_size (by repeat (first | (with_reducible first | exact HB.out | apply below_alloc | apply pw_below_drewN | apply below_drew1) | exact HB.out))) : w.heap.size ≤ gb135)); have n3_ := Aside0.mk ((by rw [hg]; exact (below_size (by repeat (first | (with_reducible first | exact HB.out | apply below_alloc | apply pw_below_drewN | apply below_drew1) | exact HB.out))) : w.heap.size ≤ gb135)); clear HB; have HB := n0_; have BK135 := n1_; have GW135 := n2_; have GE135 := n3_; clear n0_ n1_ n2_ n3_; clear hb hbox hg; have hcz14_0 : w13.cell? ⟨gb135, 0, none⟩ = some (.string (⟨#[]⟩ : ByteArray)) := (blk_cell BK135.out 0).trans rfl; have hcz14_1 : w13.cell? ⟨gb135, 1, none⟩ = some (.string (⟨#[]⟩ : ByteArray)) := (blk_cell BK135.out 1).trans rfl; have hcz14_2 : w13.cell? ⟨gb135, 2, none⟩ = some (.int .i64 0) := (blk_cell BK135.out 2).trans rfl; have hcz14_3 : w13.cell? ⟨gb135, 3, none⟩ = some (.int .i64 0) := (blk_cell BK135.out 3).trans rfl; have hcz14_4 : w13.cell? ⟨gb135, 4, none⟩ = some (.int .i64 0) := (blk_cell BK135.out 4).trans rfl; have hcz14_5 : w13.cell? ⟨gb135, 5, none⟩ = some (.string (⟨#[]⟩ : ByteArray)) := (blk_cell BK135.out 5).trans rfl; have hfz14_0 := blk_frozen BK135.out 0; have hfz14_1 := blk_frozen BK135.out 1; have hfz14_2 := blk_frozen BK135.out 2; have hfz14_3 := blk_frozen BK135.out 3; have hfz14_4 := blk_frozen BK135.out 4; have hfz14_5 := blk_frozen BK135.out 5))
      obtain ⟨wa, hwa, MM, HB2⟩ := tag_st6 gb135 w w13 (.string t128) (.string t129) (.int .i64 t130) (.int .i64 t131) (.int .i64 t132) (.string t133) _ _ _ _ _ _ BK135.out HB.out GE135.out
      rw [← hwa]
      clear hwa BK135 HB hcz14_0 hfz14_0 hcz14_1 hfz14_1 hcz14_2 hfz14_2 hcz14_3 hfz14_3 hcz14_4 hfz14_4 hcz14_5 hfz14_5
      have HB := HB2
      clear HB2
      have hq0 : wa.cell? ⟨gb135, 0, none⟩ = some (.string t128) := (blk_cell MM.out 0).trans rfl
      have hr0 := blk_frozen MM.out 0
      have hq1 : wa.cell? ⟨gb135, 1, none⟩ = some (.string t129) := (blk_cell MM.out 1).trans rfl
      have hr1 := blk_frozen MM.out 1
      have hq2 : wa.cell? ⟨gb135, 2, none⟩ = some (.int .i64 t130) := (blk_cell MM.out 2).trans rfl
      have hr2 := blk_frozen MM.out 2
      have hq3 : wa.cell? ⟨gb135, 3, none⟩ = some (.int .i64 t131) := (blk_cell MM.out 3).trans rfl
      have hr3 := blk_frozen MM.out 3
      have hq4 : wa.cell? ⟨gb135, 4, none⟩ = some (.int .i64 t132) := (blk_cell MM.out 4).trans rfl
      have hr4 := blk_frozen MM.out 4
      have hq5 : wa.cell? ⟨gb135, 5, none⟩ = some (.string t133) := (blk_cell MM.out 5).trans rfl
      have hr5 := blk_frozen MM.out 5
      go_upto_region 7 with (fail)
      obtain ⟨wb, hwb, MM2, HB2⟩ := tag_st1 gb135 w wa (.int .i64 a1) _ _ _ _ _ _ MM.out HB.out GE135.out
      rw [← hwb]
      clear hwb
      clear hq0 hq1 hq2 hq3 hq4 hq5 hr0 hr1 hr2 hr3 hr4 hr5 MM HB
      have MM := MM2
      have HB := HB2
      clear MM2 HB2
      have hq0 : wb.cell? ⟨gb135, 0, none⟩ = some (.string t128) := (blk_cell MM.out 0).trans rfl
      have hr0 := blk_frozen MM.out 0
      have hq1 : wb.cell? ⟨gb135, 1, none⟩ = some (.string t129) := (blk_cell MM.out 1).trans rfl
      have hr1 := blk_frozen MM.out 1
      have hq2 : wb.cell? ⟨gb135, 2, none⟩ = some (.int .i64 a1) := (blk_cell MM.out 2).trans rfl
      have hr2 := blk_frozen MM.out 2
      have hq3 : wb.cell? ⟨gb135, 3, none⟩ = some (.int .i64 t131) := (blk_cell MM.out 3).trans rfl
      have hr3 := blk_frozen MM.out 3
      have hq4 : wb.cell? ⟨gb135, 4, none⟩ = some (.int .i64 t132) := (blk_cell MM.out 4).trans rfl
      have hr4 := blk_frozen MM.out 4
      have hq5 : wb.cell? ⟨gb135, 5, none⟩ = some (.string t133) := (blk_cell MM.out 5).trans rfl
      have hr5 := blk_frozen MM.out 5
      go_wp2_with fail
      refine (eth_Build.calls k t128 t129 a1 t131 t132 t133 q1 q2 _ A6.out).mono ?_
      rintro e wc ⟨rfl, hb⟩
      go_wp2_with fail
      go_ret2
      exact ⟨rfl, below_step HB.out hb⟩
  · rw [if_neg c4] at H
    have c4b0 : (t134 == 0) = false := beq_eq_false_iff_ne.mpr c4
    have c4b1 : (t134 != 0) = true := bne_iff_ne.mpr c4
    simp only [Option.some.injEq, Prod.mk.injEq] at H
    obtain ⟨rfl, rfl⟩ := H
    go_enter Try.func15, Try.ntmps15
    go_wp2_with (first | ((with_reducible refine gate_callee (f := 10) rfl ?_); refine goesL_ (some 10) rfl rfl Try.func10 (by kernel_rfl) rfl #[.string a0] rfl (by (try simp only [List.map_toArray, List.map_cons, List.map_nil]); first | done | rfl | (simp only [List.length_drop, List.length_take]; rfl)) ?_; (with_reducible refine (eth_Parse.calls a0 t128 t129 t130 t131 t132 t133 t134 _ A3.out).mono ?_); rintro e w16 ⟨rfl, hb⟩; refine ⟨_, rfl, ?_⟩; have n0_ := Aside0.mk (below_step (by repeat (first | (with_reducible first | exact HB.out | apply below_alloc | apply pw_below_drewN | apply below_drew1) | exact HB.out)) hb); clear HB; have HB := n0_; clear n0_; (try clear hb); (try clear hb2); (try clear hk); (try clear hi)) | ((with_reducible refine gate_dst (N := 6) rfl ?_); refine box_event ?hg (N := 6) ?hd (cs := #[.string (⟨#[]⟩ : ByteArray), .string (⟨#[]⟩ : ByteArray), .int .i64 0, .int .i64 0, .int .i64 0, .string (⟨#[]⟩ : ByteArray)]) (t := 23) ?hr ?_; (case hd => rfl); (case hg => rfl); (case hr => first | (go_simp; done) | (go_simp; rfl)); intro gb135 hg w17 hbox hb; have n0_ := Aside0.mk (below_step (by repeat (first | (with_reducible first | exact HB.out | apply below_alloc | apply pw_below_drewN | apply below_drew1) | exact HB.out)) hb); have n1_ := Aside0.mk (hbox); have n2_ := Aside0.mk ((by rw [hg]; exact (below_size (by repeat (first | (with_reducible first | exact HB.out | apply below_alloc | apply pw_below_drewN | apply below_drew1) | exact HB.out))) : w.heap.size ≤ gb135)); have n3_ := Aside0.mk ((by rw [hg]; exact (below_size (by repeat (first | (with_reducible first | exact HB.out | apply below_alloc | apply pw_below_drewN | apply below_drew1) | exact HB.out))) : w.heap.size ≤ gb135)); clear HB; have HB := n0_; have BK135 := n1_; have GW135 := n2_; have GE135 := n3_; clear n0_ n1_ n2_ n3_; clear hb hbox hg; have hcz18_0 : w17.cell? ⟨gb135, 0, none⟩ = some (.string (⟨#[]⟩ : ByteArray)) := (blk_cell BK135.out 0).trans rfl; have hcz18_1 : w17.cell? ⟨gb135, 1, none⟩ = some (.string (⟨#[]⟩ : ByteArray)) := (blk_cell BK135.out 1).trans rfl; have hcz18_2 : w17.cell? ⟨gb135, 2, none⟩ = some (.int .i64 0) := (blk_cell BK135.out 2).trans rfl; have hcz18_3 : w17.cell? ⟨gb135, 3, none⟩ = some (.int .i64 0) := (blk_cell BK135.out 3).trans rfl; have hcz18_4 : w17.cell? ⟨gb135, 4, none⟩ = some (.int .i64 0) := (blk_cell BK135.out 4).trans rfl; have hcz18_5 : w17.cell? ⟨gb135, 5, none⟩ = some (.string (⟨#[]⟩ : ByteArray)) := (blk_cell BK135.out 5).trans rfl; have hfz18_0 := blk_frozen BK135.out 0; have hfz18_1 := blk_frozen BK135.out 1; have hfz18_2 := blk_frozen BK135.out 2; have hfz18_3 := blk_frozen BK135.out 3; have hfz18_4 := blk_frozen BK135.out 4; have hfz18_5 := blk_frozen BK135.out 5))
    go_ret2
    exact ⟨by first | rfl | (simp [errW_none, errW_some] <;> rfl) | (simp [*, errW_none, errW_some] <;> rfl), by repeat (first | (with_reducible first | exact HB.out | apply below_alloc | apply pw_below_drewN | apply below_drew1 | refine below_set ?_ GE135.out) | exact HB.out)⟩

end Go.Proofs.Ytbecpkkhpjigbaa.P
