/- What the calls on a lane do, by hand. -/
import Derived.Test.YtbbboejcjcakbaaOwn
import Derived.Test.YtbbboejcjcakbaaShelf
import Derived.Test.YtbbboejcjcakbaaPx0
import Derived.Laws.Pointers
import Derived.WalkLawsBesides
import Derived.Deep.QuietTactic
import Derived.BigQuiet
import Derived.Deep.RegionWith
namespace Go.Proofs.Ytbbboejcjcakbaa.Lane
open Go Go.RowKit Go.Proofs.YtbbboejcjcakbaaW.PrintWords Go.Proofs.YtbbboejcjcakbaaW.PrintLast Go.Proofs.YtbbboejcjcakbaaW.PrintMore Go.Proofs.Ytbbboejcjcakbaa.Own Go.Proofs.Ytbbboejcjcakbaa.P
set_option linter.unusedVariables false
set_option linter.unusedSimpArgs false
/-! ### Lanes of Ints -/
namespace Ints
/-- A lane in memory: block g; the row v of its elements xs. -/
structure Ln (w : World) (g : Nat) (v : Value) (xs : List Int) (room lost : Int) : Prop where
  blk : w.heap[g]? = some (.cells #[v, .int .i64 room, .int .i64 lost] 55 (0, 0))
  own : w.ownsRow 0 3 1 v xs.length (xs.map fun x => .int .i64 x)
abbrev ptr (g : Nat) : Value := .pointer (some ⟨g, 0, none⟩)
abbrev foot (g : Nat) (v : Value) : Nat → Prop := fun k => k = g ∨ some k = v.ownBlock
def Fresh (w : World) (v v' : Value) : Prop := v'.ownBlock = v.ownBlock ∨ ∀ b, v'.ownBlock = some b → w.heap.size ≤ b
theorem Ln.ne {w : World} {g : Nat} {v : Value} {xs : List Int} {room lost : Int} (h : Ln w g v xs room lost) : some g ≠ v.ownBlock := own_ne h.own h.blk (by decide)
theorem Ln.upd {w w' : World} {S : Nat → Prop} {g : Nat} {v : Value} {xs : List Int} {room lost : Int} (h : Ln w g v xs room lost) (u : Upd w w' S) (hg : ¬ S g) (hv : ∀ k, v.ownBlock = some k → ¬ S k) : Ln w' g v xs room lost :=
  ⟨u.blk h.blk hg, u.own h.own hv⟩
set_option maxHeartbeats 4000000 in
set_option maxRecDepth 100000 in
theorem New_no (room : Int) (w : World) (h : room < 1 ∨ 1024 < room) :
    Calls Try.prog 8 #[.int .i64 room] w fun e w' => e = .returned (.tuple #[.pointer none, .int .i64 190]) ∧ w' = w := by
  by_cases h1 : room < 1
  · have b1 : decide (room < 1) = true := decide_eq_true h1
    go_enter Try.func8, Try.ntmps8
    go_wp2
    go_ret2
    exact ⟨rfl, rfl⟩
  · have b1 : decide (room < 1) = false := decide_eq_false h1
    have b2 : decide (1024 < room) = true := decide_eq_true (by omega)
    go_enter Try.func8, Try.ntmps8
    go_wp2
    go_ret2
    exact ⟨rfl, rfl⟩
set_option maxHeartbeats 4000000 in
set_option maxRecDepth 100000 in
theorem New_ok (room : Int) (w : World) (h : 1 ≤ room) (h2 : room ≤ 1024) :
    Calls Try.prog 8 #[.int .i64 room] w fun e w' => e = .returned (.tuple #[ptr w.heap.size, .int .i64 0]) ∧ Ln w' w.heap.size (.slice none 0 0) [] room 0 ∧ Below w.heap.size w w' := by
  have b1 : decide (room < 1) = false := decide_eq_false (by omega)
  have b2 : decide (1024 < room) = false := decide_eq_false (by omega)
  have hu := Try.underlying55
  go_enter Try.func8, Try.ntmps8
  go_wp2
  go_ret2
  exact ⟨rfl, ⟨blk_new _ _, own_nil _ _ _ _⟩, below_alloc (Below.refl _ _) _⟩
set_option maxHeartbeats 4000000 in
set_option maxRecDepth 100000 in
theorem Len (g : Nat) (v : Value) (xs : List Int) (room lost : Int) (w : World) (h : Ln w g v xs room lost) :
    Calls Try.prog 12 #[ptr g] w fun e w' => e = .returned (.int .i64 (xs.length : Int)) ∧ w' = w := by
  obtain ⟨A, c, rfl⟩ := own_slice h.own
  have a0 : w.cell? ⟨g, 0, none⟩ = some (.slice A xs.length c) := (blk_cell h.blk 0).trans rfl
  have hu := Try.underlying55
  have hu2 := Try.underlying53
  clear h
  go_enter Try.func12, Try.ntmps12
  go_wp2
  go_ret
  exact ⟨rfl, rfl⟩
set_option maxHeartbeats 4000000 in
set_option maxRecDepth 100000 in
theorem Lost (g : Nat) (v : Value) (xs : List Int) (room lost : Int) (w : World) (h : Ln w g v xs room lost) :
    Calls Try.prog 14 #[ptr g] w fun e w' => e = .returned (.int .i64 lost) ∧ w' = w := by
  have a0 : w.cell? ⟨g, 2, none⟩ = some (.int .i64 lost) := (blk_cell h.blk 2).trans rfl
  have hu := Try.underlying55
  clear h
  go_enter Try.func14, Try.ntmps14
  go_wp2
  go_ret
  exact ⟨rfl, rfl⟩
set_option maxHeartbeats 4000000 in
set_option maxRecDepth 100000 in
theorem Put_no (g : Nat) (v : Value) (xs : List Int) (room lost : Int) (x : Int) (w : World) (hr : room ≤ (xs.length : Int)) (h0 : 0 ≤ lost) (h1 : lost < 1099511627776) (h : Ln w g v xs room lost) :
    Calls Try.prog 13 #[ptr g, .int .i64 x] w fun e w' => e = .returned (.bool false) ∧ Ln w' g v xs room (lost + 1) ∧ Upd w w' (foot g v) := by
  obtain ⟨A, c, hv⟩ := own_slice h.own
  have a0 : w.cell? ⟨g, 0, none⟩ = some (.slice A xs.length c) := hv ▸ (blk_cell h.blk 0).trans rfl
  have a1 : w.cell? ⟨g, 1, none⟩ = some (.int .i64 room) := (blk_cell h.blk 1).trans rfl
  have a2 : w.cell? ⟨g, 2, none⟩ = some (.int .i64 lost) := (blk_cell h.blk 2).trans rfl
  have f2 := blk_frozen h.blk 2
  have H := Aside0.mk h
  clear h hv
  have b1 : decide (room ≤ (xs.length : Int)) = true := decide_eq_true hr
  have b2 : IntKind.i64.wrap (lost + 1) = lost + 1 := by rw [IntKind.wrap_i64]; omega
  have hu := Try.underlying55
  have hu2 := Try.underlying53
  go_enter Try.func13, Try.ntmps13
  go_wp2
  go_quiet (fail)
  go_wp2
  go_ret
  refine ⟨rfl, ⟨?_, ?_⟩, ?_⟩
  · exact blk_put (cs := #[v, .int .i64 room, .int .i64 lost]) H.out.blk 2 _ rfl
  · exact own_setCell H.out.own H.out.ne _
  · exact ((Upd.refl w _).drewN _).set (.inl (.inl rfl)) _
theorem info : (Try.prog.info? 3).map (fun i => (i.zero, i.size, i.bytes)) = some (some (.int .i64 0), 1, 8) := by kernel_rfl
set_option maxHeartbeats 4000000 in
set_option maxRecDepth 100000 in
theorem Put_ok (g : Nat) (v : Value) (xs : List Int) (room lost : Int) (x : Int) (w : World) (hr : (xs.length : Int) < room) (hl : xs.length ≤ 1099511627776) (h : Ln w g v xs room lost) :
    Calls Try.prog 13 #[ptr g, .int .i64 x] w fun e w' => e = .returned (.bool true) ∧ ∃ v', Ln w' g v' (xs ++ [x]) room lost ∧ Upd w w' (foot g v) ∧ Fresh w v v' := by
  obtain ⟨A, c, hv⟩ := own_slice h.own
  have a0 : w.cell? ⟨g, 0, none⟩ = some v := (blk_cell h.blk 0).trans rfl
  have a1 : w.cell? ⟨g, 1, none⟩ = some (.int .i64 room) := (blk_cell h.blk 1).trans rfl
  have H := Aside0.mk h
  clear h
  subst hv
  have b1 : decide (room ≤ (xs.length : Int)) = false := decide_eq_false (by omega)
  have hu := Try.underlying55
  have hu2 := Try.underlying53
  go_enter Try.func13, Try.ntmps13
  go_wp2
  go_quiet (fail)
  go_wp2_with (at_builtin; go_loud (refine print_append_cells (w0 := w) 0 rfl (.tmp 26) (.tmp 28) 53 3 (.int .i64 0) 1 8 rfl Try.underlying53 info rfl (by decide) (by decide) (.slice A xs.length c) xs.length (xs.map fun x => .int .i64 x) [.int .i64 x] rfl rfl rfl (by intro u hu; rw [List.mem_singleton.1 hu]; rfl) (pw_own_drewN H.out.own _) (pw_below_drewN (Below.refl 0 w) _) (Nat.zero_le _) (by omega) ?_); intro v1 w1 ho1 hb1 hg1 hf1; obtain ⟨A1, c1, rfl⟩ := own_slice ho1; go_loud (have N1 := Aside0.mk (blk_grown (blk_drewN H.out.blk nq) hg1 H.out.ne)); go_loud (have hc1 : w1.cell? ⟨g, 0, none⟩ = some (.slice A xs.length c) := (blk_cell N1.out 0).trans rfl); have hz1 := blk_frozen N1.out 0; have HO1 := Aside0.mk ho1; have HG1 := Aside0.mk hg1; have HF1 := Aside0.mk hf1; clear ho1 hb1 hg1 hf1)
  go_ret
  refine ⟨rfl, .slice A1 (xs.length + 1) c1, ⟨?_, ?_⟩, ?_, ?_⟩
  · exact blk_put (cs := #[.slice A xs.length c, .int .i64 room, .int .i64 lost]) N1.out 0 _ rfl
  · have e1 : (xs ++ [x]).length = xs.length + 1 := by simp
    have e2 : (xs ++ [x]).map (fun x => (.int .i64 x : Value)) = xs.map (fun x => .int .i64 x) ++ [.int .i64 x] := by simp
    rw [e1, e2]
    exact own_setCell HO1.out (own_ne HO1.out N1.out (show (3 : Nat) ≠ 55 by decide)) _
  · exact (((Upd.refl w _).drewN _).grown HG1.out (fun k hk => .inl (.inr hk.symm))).set (.inl (.inl rfl)) _
  · rcases HF1.out with h | ⟨b, h, hle⟩
    · exact .inl h
    · exact .inr fun b' hb' => by rw [h] at hb'; injection hb' with hb'; subst hb'; exact hle
set_option maxHeartbeats 4000000 in
set_option maxRecDepth 100000 in
theorem Take_none (g : Nat) (v : Value) (room lost : Int) (w : World) (h : Ln w g v [] room lost) :
    Calls Try.prog 11 #[ptr g] w fun e w' => e = .returned (.tuple #[.int .i64 0, .bool false]) ∧ w' = w := by
  obtain ⟨A, c, rfl⟩ := own_slice h.own
  have a0 : w.cell? ⟨g, 0, none⟩ = some (.slice A 0 c) := (blk_cell h.blk 0).trans rfl
  clear h
  have b1 : ((0 : Int) == 0) = true := rfl
  have hu := Try.underlying55
  have hu2 := Try.underlying53
  go_enter Try.func11, Try.ntmps11
  go_wp2
  go_ret2
  exact ⟨rfl, rfl⟩
theorem own_some {w : World} {v : Value} {n : Nat} {cs : List Value} {e : TypeId} (h : w.ownsRow 0 e 1 v n cs) (hn : n ≠ 0) : ∃ b c, v = .slice (some ⟨b, 0, none⟩) n c ∧ n ≤ c ∧ ∀ j, j < n → w.cell? ⟨b, j, none⟩ = cs[j]? := by
  rcases h.2 with ⟨rfl, h0⟩ | ⟨b, cap, cur, rfl, h1, h2, h3, h4, h5, h6⟩
  · exact absurd h0 hn
  · exact ⟨b, cap, rfl, h3, fun j hj => h.cellAt j (by omega)⟩
set_option maxHeartbeats 4000000 in
set_option maxRecDepth 100000 in
theorem Take_some (g : Nat) (v : Value) (x : Int) (xs : List Int) (room lost : Int) (w : World) (hl : xs.length ≤ 1099511627776) (h : Ln w g v (x :: xs) room lost) :
    Calls Try.prog 11 #[ptr g] w fun e w' => e = .returned (.tuple #[.int .i64 x, .bool true]) ∧ ∃ v', Ln w' g v' xs room lost ∧ Upd w w' (foot g v) ∧ Fresh w v v' := by
  obtain ⟨b, c, hv, hc, hcell⟩ := own_some h.own (by simp)
  have en : (x :: xs).length = xs.length + 1 := by simp
  rw [en] at hv hc hcell
  have hcell0 : w.cell? ⟨b, 0, none⟩ = some (.int .i64 x) := hcell 0 (by omega)
  have hcs : ∀ j, j < xs.length → w.cell? ⟨b, 1 + j, none⟩ = some (.int .i64 (xs.getD j 0)) := by
    intro j hj
    rw [Nat.add_comm, hcell (j + 1) (by omega)]
    simp [List.getD_eq_getElem?_getD, List.getElem?_eq_getElem hj]
  have a0 : w.cell? ⟨g, 0, none⟩ = some (.slice (some ⟨b, 0, none⟩) (xs.length + 1) c) := hv ▸ (blk_cell h.blk 0).trans rfl
  have H := Aside0.mk h
  clear h hcell
  subst hv
  have b1 : (((xs.length + 1 : Nat) : Int) == 0) = false := beq_eq_false_iff_ne.mpr (by omega)
  have hu := Try.underlying55
  have hu2 := Try.underlying53
  by_cases hc1 : c = 1
  · subst hc1
    obtain rfl : xs = [] := List.eq_nil_of_length_eq_zero (by omega)
    have C := Aside0.mk (Try.slices_Clone_int_zero ⟨b, 0, none⟩ 0 w)
    clear hcs
    go_enter Try.func11, Try.ntmps11
    go_wp2_with (go_at_call 25; (with_reducible refine C.out.mono ?_); rintro e w1 ⟨v1, rfl, ho1, -, hb1⟩; obtain ⟨A1, c1, rfl⟩ := own_slice ho1; have N1 := Aside0.mk (blk_below H.out.blk hb1); have hc1 : w1.cell? ⟨g, 0, none⟩ = some (.slice (some ⟨b, 0, none⟩) 1 1) := (blk_cell N1.out 0).trans rfl; have hz1 := blk_frozen N1.out 0; have HO1 := Aside0.mk ho1; have HB1 := Aside0.mk hb1; clear ho1 hb1)
    go_ret2
    refine ⟨rfl, .slice A1 0 c1, ⟨?_, ?_⟩, ?_, ?_⟩
    · exact blk_put (cs := #[.slice (some ⟨b, 0, none⟩) 1 1, .int .i64 room, .int .i64 lost]) N1.out 0 _ rfl
    · exact own_weaken (own_setCell HO1.out (own_ne HO1.out N1.out (show (3 : Nat) ≠ 55 by decide)) _) (Nat.zero_le _)
    · exact ((Upd.refl w _).below HB1.out).set (.inl (.inl rfl)) _
    · exact .inr fun b' hb' => own_base HO1.out b' hb'
  · have C := Aside0.mk (Try.slices_Clone_int b 1 xs.length (c - 1) xs w (Nat.le_refl _) (by omega) hcs)
    have hcc : c - 1 ≠ 0 := by omega
    clear hcs
    go_enter Try.func11, Try.ntmps11
    go_wp2_with (go_at_call 25; (with_reducible refine C.out.mono ?_); rintro e w1 ⟨v1, rfl, ho1, -, hb1⟩; rw [List.take_of_length_le (Nat.le_refl _)] at ho1; obtain ⟨A1, c1, rfl⟩ := own_slice ho1; have N1 := Aside0.mk (blk_below H.out.blk hb1); have hc1 : w1.cell? ⟨g, 0, none⟩ = some (.slice (some ⟨b, 0, none⟩) (xs.length + 1) c) := (blk_cell N1.out 0).trans rfl; have hz1 := blk_frozen N1.out 0; have HO1 := Aside0.mk ho1; have HB1 := Aside0.mk hb1; clear ho1 hb1)
    go_ret2
    refine ⟨rfl, .slice A1 xs.length c1, ⟨?_, ?_⟩, ?_, ?_⟩
    · exact blk_put (cs := #[.slice (some ⟨b, 0, none⟩) (xs.length + 1) c, .int .i64 room, .int .i64 lost]) N1.out 0 _ rfl
    · exact own_weaken (own_setCell HO1.out (own_ne HO1.out N1.out (show (3 : Nat) ≠ 55 by decide)) _) (Nat.zero_le _)
    · exact ((Upd.refl w _).below HB1.out).set (.inl (.inl rfl)) _
    · exact .inr fun b' hb' => own_base HO1.out b' hb'
set_option maxHeartbeats 4000000 in
set_option maxRecDepth 100000 in
theorem cloned (g : Nat) (v : Value) (xs : List Int) (room lost : Int) (w : World) (hl : xs.length ≤ 1099511627776) (h : Ln w g v xs room lost) :
    Calls Try.prog 25 #[v] w fun e w' => ∃ v', e = .returned v' ∧ w'.ownsRow w.heap.size 3 1 v' xs.length (xs.map fun x => .int .i64 x) ∧ Below w.heap.size w w' := by
  by_cases hx : xs.length = 0
  · obtain rfl : xs = [] := List.eq_nil_of_length_eq_zero hx
    rcases h.own.2 with ⟨rfl, h0⟩ | ⟨b, cap, cur, rfl, h1, h2, h3, h4, h5, h6⟩
    · refine (Try.slices_Clone_int_nil 0 0 w).mono ?_
      rintro e w' ⟨rfl, rfl⟩
      exact ⟨_, rfl, own_nil _ _ _ _, Below.refl _ _⟩
    · refine (Try.slices_Clone_int_zero ⟨b, 0, none⟩ cap w).mono ?_
      rintro e w' ⟨v', rfl, ho, -, hb⟩
      exact ⟨_, rfl, ho, hb⟩
  · obtain ⟨b, c, rfl, hc, hcell⟩ := own_some h.own hx
    refine (Try.slices_Clone_int b 0 xs.length c xs w (Nat.le_refl _) (by omega) ?_).mono ?_
    · intro j hj
      rw [Nat.zero_add, hcell j hj]
      simp [List.getD_eq_getElem?_getD, List.getElem?_eq_getElem hj]
    · rintro e w' ⟨v', rfl, ho, -, hb⟩
      rw [List.take_of_length_le (Nat.le_refl _)] at ho
      exact ⟨_, rfl, ho, hb⟩
end Ints

/-! ### Lanes of Strs -/
namespace Strs
/-- A lane in memory: block g; the row v of its elements xs. -/
structure Ln (w : World) (g : Nat) (v : Value) (xs : List ByteArray) (room lost : Int) : Prop where
  blk : w.heap[g]? = some (.cells #[v, .int .i64 room, .int .i64 lost] 58 (0, 0))
  own : w.ownsRow 0 9 1 v xs.length (xs.map fun x => .string x)
abbrev ptr (g : Nat) : Value := .pointer (some ⟨g, 0, none⟩)
abbrev foot (g : Nat) (v : Value) : Nat → Prop := fun k => k = g ∨ some k = v.ownBlock
def Fresh (w : World) (v v' : Value) : Prop := v'.ownBlock = v.ownBlock ∨ ∀ b, v'.ownBlock = some b → w.heap.size ≤ b
theorem Ln.ne {w : World} {g : Nat} {v : Value} {xs : List ByteArray} {room lost : Int} (h : Ln w g v xs room lost) : some g ≠ v.ownBlock := own_ne h.own h.blk (by decide)
theorem Ln.upd {w w' : World} {S : Nat → Prop} {g : Nat} {v : Value} {xs : List ByteArray} {room lost : Int} (h : Ln w g v xs room lost) (u : Upd w w' S) (hg : ¬ S g) (hv : ∀ k, v.ownBlock = some k → ¬ S k) : Ln w' g v xs room lost :=
  ⟨u.blk h.blk hg, u.own h.own hv⟩
set_option maxHeartbeats 4000000 in
set_option maxRecDepth 100000 in
theorem New_no (room : Int) (w : World) (h : room < 1 ∨ 1024 < room) :
    Calls Try.prog 24 #[.int .i64 room] w fun e w' => e = .returned (.tuple #[.pointer none, .int .i64 190]) ∧ w' = w := by
  by_cases h1 : room < 1
  · have b1 : decide (room < 1) = true := decide_eq_true h1
    go_enter Try.func24, Try.ntmps24
    go_wp2
    go_ret2
    exact ⟨rfl, rfl⟩
  · have b1 : decide (room < 1) = false := decide_eq_false h1
    have b2 : decide (1024 < room) = true := decide_eq_true (by omega)
    go_enter Try.func24, Try.ntmps24
    go_wp2
    go_ret2
    exact ⟨rfl, rfl⟩
set_option maxHeartbeats 4000000 in
set_option maxRecDepth 100000 in
theorem New_ok (room : Int) (w : World) (h : 1 ≤ room) (h2 : room ≤ 1024) :
    Calls Try.prog 24 #[.int .i64 room] w fun e w' => e = .returned (.tuple #[ptr w.heap.size, .int .i64 0]) ∧ Ln w' w.heap.size (.slice none 0 0) [] room 0 ∧ Below w.heap.size w w' := by
  have b1 : decide (room < 1) = false := decide_eq_false (by omega)
  have b2 : decide (1024 < room) = false := decide_eq_false (by omega)
  have hu := Try.underlying58
  go_enter Try.func24, Try.ntmps24
  go_wp2
  go_ret2
  exact ⟨rfl, ⟨blk_new _ _, own_nil _ _ _ _⟩, below_alloc (Below.refl _ _) _⟩
set_option maxHeartbeats 4000000 in
set_option maxRecDepth 100000 in
theorem Len (g : Nat) (v : Value) (xs : List ByteArray) (room lost : Int) (w : World) (h : Ln w g v xs room lost) :
    Calls Try.prog 20 #[ptr g] w fun e w' => e = .returned (.int .i64 (xs.length : Int)) ∧ w' = w := by
  obtain ⟨A, c, rfl⟩ := own_slice h.own
  have a0 : w.cell? ⟨g, 0, none⟩ = some (.slice A xs.length c) := (blk_cell h.blk 0).trans rfl
  have hu := Try.underlying58
  have hu2 := Try.underlying39
  clear h
  go_enter Try.func20, Try.ntmps20
  go_wp2
  go_ret
  exact ⟨rfl, rfl⟩
set_option maxHeartbeats 4000000 in
set_option maxRecDepth 100000 in
theorem Lost (g : Nat) (v : Value) (xs : List ByteArray) (room lost : Int) (w : World) (h : Ln w g v xs room lost) :
    Calls Try.prog 18 #[ptr g] w fun e w' => e = .returned (.int .i64 lost) ∧ w' = w := by
  have a0 : w.cell? ⟨g, 2, none⟩ = some (.int .i64 lost) := (blk_cell h.blk 2).trans rfl
  have hu := Try.underlying58
  clear h
  go_enter Try.func18, Try.ntmps18
  go_wp2
  go_ret
  exact ⟨rfl, rfl⟩
set_option maxHeartbeats 4000000 in
set_option maxRecDepth 100000 in
theorem Put_no (g : Nat) (v : Value) (xs : List ByteArray) (room lost : Int) (x : ByteArray) (w : World) (hr : room ≤ (xs.length : Int)) (h0 : 0 ≤ lost) (h1 : lost < 1099511627776) (h : Ln w g v xs room lost) :
    Calls Try.prog 15 #[ptr g, .string x] w fun e w' => e = .returned (.bool false) ∧ Ln w' g v xs room (lost + 1) ∧ Upd w w' (foot g v) := by
  obtain ⟨A, c, hv⟩ := own_slice h.own
  have a0 : w.cell? ⟨g, 0, none⟩ = some (.slice A xs.length c) := hv ▸ (blk_cell h.blk 0).trans rfl
  have a1 : w.cell? ⟨g, 1, none⟩ = some (.int .i64 room) := (blk_cell h.blk 1).trans rfl
  have a2 : w.cell? ⟨g, 2, none⟩ = some (.int .i64 lost) := (blk_cell h.blk 2).trans rfl
  have f2 := blk_frozen h.blk 2
  have H := Aside0.mk h
  clear h hv
  have b1 : decide (room ≤ (xs.length : Int)) = true := decide_eq_true hr
  have b2 : IntKind.i64.wrap (lost + 1) = lost + 1 := by rw [IntKind.wrap_i64]; omega
  have hu := Try.underlying58
  have hu2 := Try.underlying39
  go_enter Try.func15, Try.ntmps15
  go_wp2
  go_quiet (fail)
  go_wp2
  go_ret
  refine ⟨rfl, ⟨?_, ?_⟩, ?_⟩
  · exact blk_put (cs := #[v, .int .i64 room, .int .i64 lost]) H.out.blk 2 _ rfl
  · exact own_setCell H.out.own H.out.ne _
  · exact ((Upd.refl w _).drewN _).set (.inl (.inl rfl)) _
theorem info : (Try.prog.info? 9).map (fun i => (i.zero, i.size, i.bytes)) = some (some (.string ByteArray.empty), 1, 16) := by kernel_rfl
set_option maxHeartbeats 4000000 in
set_option maxRecDepth 100000 in
theorem Put_ok (g : Nat) (v : Value) (xs : List ByteArray) (room lost : Int) (x : ByteArray) (w : World) (hr : (xs.length : Int) < room) (hl : xs.length ≤ 1099511627776) (h : Ln w g v xs room lost) :
    Calls Try.prog 15 #[ptr g, .string x] w fun e w' => e = .returned (.bool true) ∧ ∃ v', Ln w' g v' (xs ++ [x]) room lost ∧ Upd w w' (foot g v) ∧ Fresh w v v' := by
  obtain ⟨A, c, hv⟩ := own_slice h.own
  have a0 : w.cell? ⟨g, 0, none⟩ = some v := (blk_cell h.blk 0).trans rfl
  have a1 : w.cell? ⟨g, 1, none⟩ = some (.int .i64 room) := (blk_cell h.blk 1).trans rfl
  have H := Aside0.mk h
  clear h
  subst hv
  have b1 : decide (room ≤ (xs.length : Int)) = false := decide_eq_false (by omega)
  have hu := Try.underlying58
  have hu2 := Try.underlying39
  go_enter Try.func15, Try.ntmps15
  go_wp2
  go_quiet (fail)
  go_wp2_with (at_builtin; go_loud (refine print_append_cells (w0 := w) 0 rfl (.tmp 26) (.tmp 28) 39 9 (.string ByteArray.empty) 1 16 rfl Try.underlying39 info rfl (by decide) (by decide) (.slice A xs.length c) xs.length (xs.map fun x => .string x) [.string x] rfl rfl rfl (by intro u hu; rw [List.mem_singleton.1 hu]; rfl) (pw_own_drewN H.out.own _) (pw_below_drewN (Below.refl 0 w) _) (Nat.zero_le _) (by omega) ?_); intro v1 w1 ho1 hb1 hg1 hf1; obtain ⟨A1, c1, rfl⟩ := own_slice ho1; go_loud (have N1 := Aside0.mk (blk_grown (blk_drewN H.out.blk nq) hg1 H.out.ne)); go_loud (have hc1 : w1.cell? ⟨g, 0, none⟩ = some (.slice A xs.length c) := (blk_cell N1.out 0).trans rfl); have hz1 := blk_frozen N1.out 0; have HO1 := Aside0.mk ho1; have HG1 := Aside0.mk hg1; have HF1 := Aside0.mk hf1; clear ho1 hb1 hg1 hf1)
  go_ret
  refine ⟨rfl, .slice A1 (xs.length + 1) c1, ⟨?_, ?_⟩, ?_, ?_⟩
  · exact blk_put (cs := #[.slice A xs.length c, .int .i64 room, .int .i64 lost]) N1.out 0 _ rfl
  · have e1 : (xs ++ [x]).length = xs.length + 1 := by simp
    have e2 : (xs ++ [x]).map (fun x => (.string x : Value)) = xs.map (fun x => .string x) ++ [.string x] := by simp
    rw [e1, e2]
    exact own_setCell HO1.out (own_ne HO1.out N1.out (show (9 : Nat) ≠ 58 by decide)) _
  · exact (((Upd.refl w _).drewN _).grown HG1.out (fun k hk => .inl (.inr hk.symm))).set (.inl (.inl rfl)) _
  · rcases HF1.out with h | ⟨b, h, hle⟩
    · exact .inl h
    · exact .inr fun b' hb' => by rw [h] at hb'; injection hb' with hb'; subst hb'; exact hle
set_option maxHeartbeats 4000000 in
set_option maxRecDepth 100000 in
theorem Take_none (g : Nat) (v : Value) (room lost : Int) (w : World) (h : Ln w g v [] room lost) :
    Calls Try.prog 19 #[ptr g] w fun e w' => e = .returned (.tuple #[.string ByteArray.empty, .bool false]) ∧ w' = w := by
  obtain ⟨A, c, rfl⟩ := own_slice h.own
  have a0 : w.cell? ⟨g, 0, none⟩ = some (.slice A 0 c) := (blk_cell h.blk 0).trans rfl
  clear h
  have b1 : ((0 : Int) == 0) = true := rfl
  have hu := Try.underlying58
  have hu2 := Try.underlying39
  go_enter Try.func19, Try.ntmps19
  go_wp2
  go_ret2
  exact ⟨rfl, rfl⟩
theorem own_some {w : World} {v : Value} {n : Nat} {cs : List Value} {e : TypeId} (h : w.ownsRow 0 e 1 v n cs) (hn : n ≠ 0) : ∃ b c, v = .slice (some ⟨b, 0, none⟩) n c ∧ n ≤ c ∧ ∀ j, j < n → w.cell? ⟨b, j, none⟩ = cs[j]? := by
  rcases h.2 with ⟨rfl, h0⟩ | ⟨b, cap, cur, rfl, h1, h2, h3, h4, h5, h6⟩
  · exact absurd h0 hn
  · exact ⟨b, cap, rfl, h3, fun j hj => h.cellAt j (by omega)⟩
set_option maxHeartbeats 4000000 in
set_option maxRecDepth 100000 in
theorem Take_some (g : Nat) (v : Value) (x : ByteArray) (xs : List ByteArray) (room lost : Int) (w : World) (hl : xs.length ≤ 1099511627776) (h : Ln w g v (x :: xs) room lost) :
    Calls Try.prog 19 #[ptr g] w fun e w' => e = .returned (.tuple #[.string x, .bool true]) ∧ ∃ v', Ln w' g v' xs room lost ∧ Upd w w' (foot g v) ∧ Fresh w v v' := by
  obtain ⟨b, c, hv, hc, hcell⟩ := own_some h.own (by simp)
  have en : (x :: xs).length = xs.length + 1 := by simp
  rw [en] at hv hc hcell
  have hcell0 : w.cell? ⟨b, 0, none⟩ = some (.string x) := hcell 0 (by omega)
  have hcs : ∀ j, j < xs.length → w.cell? ⟨b, 1 + j, none⟩ = some (.string (xs.getD j ByteArray.empty)) := by
    intro j hj
    rw [Nat.add_comm, hcell (j + 1) (by omega)]
    simp [List.getD_eq_getElem?_getD, List.getElem?_eq_getElem hj]
  have a0 : w.cell? ⟨g, 0, none⟩ = some (.slice (some ⟨b, 0, none⟩) (xs.length + 1) c) := hv ▸ (blk_cell h.blk 0).trans rfl
  have H := Aside0.mk h
  clear h hcell
  subst hv
  have b1 : (((xs.length + 1 : Nat) : Int) == 0) = false := beq_eq_false_iff_ne.mpr (by omega)
  have hu := Try.underlying58
  have hu2 := Try.underlying39
  by_cases hc1 : c = 1
  · subst hc1
    obtain rfl : xs = [] := List.eq_nil_of_length_eq_zero (by omega)
    have C := Aside0.mk (Try.slices_Clone_string_zero ⟨b, 0, none⟩ 0 w)
    clear hcs
    go_enter Try.func19, Try.ntmps19
    go_wp2_with (go_at_call 26; (with_reducible refine C.out.mono ?_); rintro e w1 ⟨v1, rfl, ho1, -, hb1⟩; obtain ⟨A1, c1, rfl⟩ := own_slice ho1; have N1 := Aside0.mk (blk_below H.out.blk hb1); have hc1 : w1.cell? ⟨g, 0, none⟩ = some (.slice (some ⟨b, 0, none⟩) 1 1) := (blk_cell N1.out 0).trans rfl; have hz1 := blk_frozen N1.out 0; have HO1 := Aside0.mk ho1; have HB1 := Aside0.mk hb1; clear ho1 hb1)
    go_ret2
    refine ⟨rfl, .slice A1 0 c1, ⟨?_, ?_⟩, ?_, ?_⟩
    · exact blk_put (cs := #[.slice (some ⟨b, 0, none⟩) 1 1, .int .i64 room, .int .i64 lost]) N1.out 0 _ rfl
    · exact own_weaken (own_setCell HO1.out (own_ne HO1.out N1.out (show (9 : Nat) ≠ 58 by decide)) _) (Nat.zero_le _)
    · exact ((Upd.refl w _).below HB1.out).set (.inl (.inl rfl)) _
    · exact .inr fun b' hb' => own_base HO1.out b' hb'
  · have C := Aside0.mk (Try.slices_Clone_string b 1 xs.length (c - 1) xs w (Nat.le_refl _) (by omega) hcs)
    have hcc : c - 1 ≠ 0 := by omega
    clear hcs
    go_enter Try.func19, Try.ntmps19
    go_wp2_with (go_at_call 26; (with_reducible refine C.out.mono ?_); rintro e w1 ⟨v1, rfl, ho1, -, hb1⟩; rw [List.take_of_length_le (Nat.le_refl _)] at ho1; obtain ⟨A1, c1, rfl⟩ := own_slice ho1; have N1 := Aside0.mk (blk_below H.out.blk hb1); have hc1 : w1.cell? ⟨g, 0, none⟩ = some (.slice (some ⟨b, 0, none⟩) (xs.length + 1) c) := (blk_cell N1.out 0).trans rfl; have hz1 := blk_frozen N1.out 0; have HO1 := Aside0.mk ho1; have HB1 := Aside0.mk hb1; clear ho1 hb1)
    go_ret2
    refine ⟨rfl, .slice A1 xs.length c1, ⟨?_, ?_⟩, ?_, ?_⟩
    · exact blk_put (cs := #[.slice (some ⟨b, 0, none⟩) (xs.length + 1) c, .int .i64 room, .int .i64 lost]) N1.out 0 _ rfl
    · exact own_weaken (own_setCell HO1.out (own_ne HO1.out N1.out (show (9 : Nat) ≠ 58 by decide)) _) (Nat.zero_le _)
    · exact ((Upd.refl w _).below HB1.out).set (.inl (.inl rfl)) _
    · exact .inr fun b' hb' => own_base HO1.out b' hb'
set_option maxHeartbeats 4000000 in
set_option maxRecDepth 100000 in
theorem cloned (g : Nat) (v : Value) (xs : List ByteArray) (room lost : Int) (w : World) (hl : xs.length ≤ 1099511627776) (h : Ln w g v xs room lost) :
    Calls Try.prog 26 #[v] w fun e w' => ∃ v', e = .returned v' ∧ w'.ownsRow w.heap.size 9 1 v' xs.length (xs.map fun x => .string x) ∧ Below w.heap.size w w' := by
  by_cases hx : xs.length = 0
  · obtain rfl : xs = [] := List.eq_nil_of_length_eq_zero hx
    rcases h.own.2 with ⟨rfl, h0⟩ | ⟨b, cap, cur, rfl, h1, h2, h3, h4, h5, h6⟩
    · refine (Try.slices_Clone_string_nil 0 0 w).mono ?_
      rintro e w' ⟨rfl, rfl⟩
      exact ⟨_, rfl, own_nil _ _ _ _, Below.refl _ _⟩
    · refine (Try.slices_Clone_string_zero ⟨b, 0, none⟩ cap w).mono ?_
      rintro e w' ⟨v', rfl, ho, -, hb⟩
      exact ⟨_, rfl, ho, hb⟩
  · obtain ⟨b, c, rfl, hc, hcell⟩ := own_some h.own hx
    refine (Try.slices_Clone_string b 0 xs.length c xs w (Nat.le_refl _) (by omega) ?_).mono ?_
    · intro j hj
      rw [Nat.zero_add, hcell j hj]
      simp [List.getD_eq_getElem?_getD, List.getElem?_eq_getElem hj]
    · rintro e w' ⟨v', rfl, ho, -, hb⟩
      rw [List.take_of_length_le (Nat.le_refl _)] at ho
      exact ⟨_, rfl, ho, hb⟩
end Strs

namespace Strs
theorem undrew {w w1 : World} (h : Below w.drew.heap.size w.drew w1) : Below w.heap.size w w1 := ⟨h.os, h.tape, h.output, h.size, h.block⟩
set_option maxHeartbeats 4000000 in
set_option maxRecDepth 100000 in
theorem List_ (g : Nat) (v : Value) (xs : List ByteArray) (room lost : Int) (w : World) (hl : xs.length ≤ 1099511627776) (h : Ln w g v xs room lost) :
    Calls Try.prog 17 #[ptr g] w fun e w' => ∃ v', e = .returned v' ∧ w'.ownsRow w.heap.size 9 1 v' xs.length (xs.map fun x => .string x) ∧ Below w.heap.size w w' := by
  have C := Aside0.mk (cloned g v xs room lost w hl h)
  obtain ⟨A, c, rfl⟩ := own_slice h.own
  have a0 : w.cell? ⟨g, 0, none⟩ = some (.slice A xs.length c) := (blk_cell h.blk 0).trans rfl
  clear h
  have hu := Try.underlying58
  have hu2 := Try.underlying39
  go_enter Try.func17, Try.ntmps17
  go_wp2_with (go_at_call 26; (with_reducible refine C.out.mono ?_); rintro e w1 ⟨v1, rfl, ho1, hb1⟩; have HO1 := Aside0.mk ho1; have HB1 := Aside0.mk hb1; clear ho1 hb1)
  go_ret
  exact ⟨_, rfl, HO1.out, HB1.out⟩
set_option maxHeartbeats 4000000 in
set_option maxRecDepth 100000 in
theorem Clone_ (g : Nat) (v : Value) (xs : List ByteArray) (room lost : Int) (w : World) (hl : xs.length ≤ 1099511627776) (h : Ln w g v xs room lost) :
    Calls Try.prog 23 #[ptr g] w fun e w' => ∃ g' v', e = .returned (ptr g') ∧ Ln w' g' v' xs room lost ∧ Below w.heap.size w w' ∧ w.heap.size ≤ g' ∧ ∀ b, v'.ownBlock = some b → w.heap.size ≤ b := by
  have C := Aside0.mk (cloned g v xs room lost w.drew hl ⟨h.blk, h.own⟩)
  obtain ⟨A, c, rfl⟩ := own_slice h.own
  have a0 : w.cell? ⟨g, 0, none⟩ = some (.slice A xs.length c) := (blk_cell h.blk 0).trans rfl
  have a1 : w.cell? ⟨g, 1, none⟩ = some (.int .i64 room) := (blk_cell h.blk 1).trans rfl
  have a2 : w.cell? ⟨g, 2, none⟩ = some (.int .i64 lost) := (blk_cell h.blk 2).trans rfl
  have H := Aside0.mk h
  clear h
  have hu := Try.underlying58
  have hu2 := Try.underlying39
  go_enter Try.func23, Try.ntmps23
  go_wp2
  go_region_with (go_at_call 26; (with_reducible refine C.out.mono ?_); rintro e w1 ⟨v1, rfl, ho1, hb1⟩; obtain ⟨A1, c1, rfl⟩ := own_slice ho1; have N1 := Aside0.mk (blk_below (blk_drew H.out.blk) hb1); have hd1 : w1.cell? ⟨g, 1, none⟩ = some (.int .i64 room) := (blk_cell N1.out 1).trans rfl; have hd2 : w1.cell? ⟨g, 2, none⟩ = some (.int .i64 lost) := (blk_cell N1.out 2).trans rfl; have HO1 := Aside0.mk ho1; have HB1 := Aside0.mk hb1; clear ho1 hb1)
  all_goals go_wp2
  all_goals go_ret
  all_goals exact ⟨_, _, rfl, ⟨blk_new _ _, own_weaken (World.ownsRow.alloc HO1.out _) (Nat.zero_le _)⟩, below_alloc (undrew HB1.out) _, HB1.out.size, fun b hb => own_base HO1.out b hb⟩
end Strs

end Go.Proofs.Ytbbboejcjcakbaa.Lane
