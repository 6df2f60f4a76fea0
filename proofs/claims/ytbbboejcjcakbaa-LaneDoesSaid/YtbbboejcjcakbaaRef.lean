/- What the calls on the document's lane do; two lanes at once. -/
import Derived.Test.YtbbboejcjcakbaaFix
namespace Go.Proofs.Ytbbboejcjcakbaa.Lane
open Go Go.RowKit Go.Proofs.YtbbboejcjcakbaaW.PrintWords Go.Proofs.YtbbboejcjcakbaaW.PrintLast Go.Proofs.YtbbboejcjcakbaaW.PrintMore Go.Proofs.Ytbbboejcjcakbaa.Own Go.Proofs.Ytbbboejcjcakbaa.P
set_option linter.unusedVariables false
set_option linter.unusedSimpArgs false
/-! ### The document's lane -/
namespace Ref
structure Ln (w : World) (g : Nat) (v : Value) (xs : List ByteArray) (room lost : Int) : Prop where
  blk : w.heap[g]? = some (.cells #[v, .int .i64 room, .int .i64 lost] 51 (0, 0))
  own : w.ownsRow 0 9 1 v xs.length (encs Value.string xs)
abbrev ptr (g : Nat) : Value := .pointer (some ⟨g, 0, none⟩)
abbrev foot (g : Nat) (v : Value) : Nat → Prop := fun k => k = g ∨ some k = v.ownBlock
def Fresh (w : World) (v v' : Value) : Prop := v'.ownBlock = v.ownBlock ∨ ∀ b, v'.ownBlock = some b → w.heap.size ≤ b
theorem Ln.ne {w : World} {g : Nat} {v : Value} {xs : List ByteArray} {room lost : Int} (h : Ln w g v xs room lost) : some g ≠ v.ownBlock := own_ne h.own h.blk (by decide)
theorem Ln.upd {w w' : World} {S : Nat → Prop} {g : Nat} {v : Value} {xs : List ByteArray} {room lost : Int} (h : Ln w g v xs room lost) (u : Upd w w' S) (hg : ¬ S g) (hv : ∀ k, v.ownBlock = some k → ¬ S k) : Ln w' g v xs room lost :=
  ⟨u.blk h.blk hg, u.own h.own hv⟩
set_option maxHeartbeats 4000000 in
set_option maxRecDepth 100000 in
theorem New_ok (room : Int) (w : World) (h : 1 ≤ room) (h2 : room ≤ 1024) :
    Calls Try.prog 9 #[.int .i64 room] w fun e w' => e = .returned (.tuple #[ptr w.heap.size, .int .i64 0]) ∧ Ln w' w.heap.size (.slice none 0 0) [] room 0 ∧ Below w.heap.size w w' := by
  have b1 : decide (room < 1) = false := decide_eq_false (by omega)
  have b2 : decide (1024 < room) = false := decide_eq_false (by omega)
  have hu := Try.underlying51
  go_enter Try.func9, Try.ntmps9
  go_wp2
  go_ret2
  exact ⟨rfl, ⟨blk_new _ _, own_nil _ _ _ _⟩, below_alloc (Below.refl _ _) _⟩
set_option maxHeartbeats 4000000 in
set_option maxRecDepth 100000 in
theorem Put_no (g : Nat) (v : Value) (xs : List ByteArray) (room lost : Int) (x : ByteArray) (w : World) (hr : room = (xs.length : Int)) (h0 : 0 ≤ lost) (h1 : lost < 1099511627776) (h : Ln w g v xs room lost) :
    Calls Try.prog 21 #[ptr g, .string x] w fun e w' => e = .returned (.bool false) ∧ Ln w' g v xs room (lost + 1) ∧ Upd w w' (foot g v) := by
  obtain ⟨A, c, hv⟩ := own_slice h.own
  have a0 : w.cell? ⟨g, 0, none⟩ = some (.slice A xs.length c) := hv ▸ (blk_cell h.blk 0).trans rfl
  have a1 : w.cell? ⟨g, 1, none⟩ = some (.int .i64 room) := (blk_cell h.blk 1).trans rfl
  have a2 : w.cell? ⟨g, 2, none⟩ = some (.int .i64 lost) := (blk_cell h.blk 2).trans rfl
  have f2 := blk_frozen h.blk 2
  have H := Aside0.mk h
  clear h hv
  have b1 : ((xs.length : Int) == room) = true := beq_iff_eq.2 hr.symm
  clear hr
  have b2 : IntKind.i64.wrap (lost + 1) = lost + 1 := by rw [IntKind.wrap_i64]; omega
  have hu := Try.underlying51
  have hu2 := Try.underlying39
  go_enter Try.func21, Try.ntmps21
  go_wp2
  go_quiet (fail)
  go_wp2
  go_ret
  refine ⟨rfl, ⟨?_, ?_⟩, ?_⟩
  · exact blk_put (cs := #[v, .int .i64 room, .int .i64 lost]) H.out.blk 2 _ rfl
  · exact own_setCell H.out.own H.out.ne _
  · exact ((Upd.refl w _).drewN _).set (.inl (.inl rfl)) _
theorem info : (Try.prog.info? 9).map (fun i => (i.zero, i.size, i.bytes)) = some (some (.string ByteArray.empty), 1, 16) := by kernel_rfl
theorem own_empty (w : World) (b : Nat) (hb : b ≤ w.heap.size) : (w.alloc (.cells #[] 9)).ownsRow b 9 1 (.slice (some ⟨w.heap.size, 0, none⟩) 0 0) ([] : List ByteArray).length (encs Value.string []) :=
  own_lit_of (enc := Value.string) w b 9 [] hb (by decide)
set_option maxHeartbeats 4000000 in
set_option maxRecDepth 100000 in
theorem Put_ok (g : Nat) (v : Value) (xs : List ByteArray) (room lost : Int) (x : ByteArray) (w : World) (hr : (xs.length : Int) ≠ room) (hl : xs.length ≤ 1099511627776) (h : Ln w g v xs room lost) :
    Calls Try.prog 21 #[ptr g, .string x] w fun e w' => e = .returned (.bool true) ∧ ∃ v', Ln w' g v' (xs ++ [x]) room lost ∧ Upd w w' (foot g v) ∧ Fresh w v v' := by
  obtain ⟨A, c, hv, hc, hrd⟩ := own_reads_of_le (enc := Value.string) (d := ByteArray.empty) (xs := xs) h.own
  have a0 : w.cell? ⟨g, 0, none⟩ = some (.slice A xs.length c) := hv ▸ (blk_cell h.blk 0).trans rfl
  have a1 : w.cell? ⟨g, 1, none⟩ = some (.int .i64 room) := (blk_cell h.blk 1).trans rfl
  have a4 : ∀ o n, ((w.drewN n).alloc o).cell? ⟨g, 0, none⟩ = some (.slice A xs.length c) := fun o n => (blk_cell (blk_alloc (blk_drewN h.blk n) o) 0).trans (hv ▸ rfl)
  have H := Aside0.mk h
  have HR := Aside0.mk hrd
  clear h hrd
  subst hv
  have b1 : ((xs.length : Int) == room) = false := beq_eq_false_iff_ne.2 hr
  clear hr
  have hu := Try.underlying51
  have hu2 := Try.underlying39
  go_enter Try.func21, Try.ntmps21
  go_wp2
  go_quiet (fail)
  go_wp2_with (first
    | (at_builtin; refine print_append_row_of (w0 := w) Value.string ByteArray.empty w.heap.size rfl (.tmp 23) (.tmp 27) 39 9 (.string ByteArray.empty) 16 rfl Try.underlying39 info rfl (by decide) (fun _ => rfl) (.slice (some ⟨w.heap.size, 0, none⟩) 0 0) [] xs A xs.length c rfl rfl ?c1 ?c2 ?c3 ?c4 ?c5 ?_; (case c1 => exact own_empty (w.drewN nq) w.heap.size (Nat.le_refl _)); (case c2 => exact HR.out.below (below_alloc (pw_below_drewN (Below.refl _ _) nq) _)); (case c3 => exact below_alloc (pw_below_drewN (Below.refl _ _) nq) _); (case c4 => simp); (case c5 => simp only [List.length_nil]; omega); intro v1 w1 ho1 hb1 hg1 hf1; have HO1 := Aside0.mk ho1; have HB1 := Aside0.mk hb1; obtain ⟨A1, c1_, rfl⟩ := own_slice ho1; simp only [List.nil_append] at HO1; clear ho1 hb1 hg1 hf1)
    | (at_builtin; refine print_append_of (w0 := w) Value.string w.heap.size rfl (.tmp 28) (.tmp 30) 39 9 (.string ByteArray.empty) 16 rfl Try.underlying39 info rfl (by decide) (.slice A1 xs.length c1_) xs x rfl rfl rfl HO1.out HB1.out HB1.out.size (by omega) ?_; intro v2 w2 ho2 hb2 hg2 hf2; rw [show (xs ++ [x]).length = xs.length + 1 from by simp] at ho2; obtain ⟨A2, c2_, rfl⟩ := own_slice ho2; have N2 := Aside0.mk (blk_below H.out.blk hb2); have hc2 := (blk_cell N2.out 0).trans rfl; have hz2 := blk_frozen N2.out 0; have HO2 := Aside0.mk ho2; have HB2 := Aside0.mk hb2; clear ho2 hb2 hg2 hf2))
  go_ret
  refine ⟨rfl, .slice A2 (xs.length + 1) c2_, ⟨?_, ?_⟩, ?_, ?_⟩
  · exact blk_put (cs := #[.slice A xs.length c, .int .i64 room, .int .i64 lost]) N2.out 0 _ rfl
  · rw [show (xs ++ [x]).length = xs.length + 1 from by simp]
    exact own_weaken (own_setCell HO2.out (own_ne HO2.out N2.out (show (9 : Nat) ≠ 51 by decide)) _) (Nat.zero_le _)
  · exact ((Upd.refl w _).below HB2.out).set (.inl (.inl rfl)) _
  · exact .inr fun b' hb' => own_base HO2.out b' hb'
set_option maxHeartbeats 4000000 in
set_option maxRecDepth 100000 in
theorem Take_none (g : Nat) (v : Value) (room lost : Int) (w : World) (h : Ln w g v [] room lost) :
    Calls Try.prog 22 #[ptr g] w fun e w' => e = .returned (.tuple #[.string ByteArray.empty, .bool false]) ∧ w' = w := by
  obtain ⟨A, c, rfl⟩ := own_slice h.own
  have a0 : w.cell? ⟨g, 0, none⟩ = some (.slice A 0 c) := (blk_cell h.blk 0).trans rfl
  clear h
  have b1 : ((0 : Int) == 0) = true := rfl
  have hu := Try.underlying51
  have hu2 := Try.underlying39
  go_enter Try.func22, Try.ntmps22
  go_wp2
  go_ret2
  exact ⟨rfl, rfl⟩
set_option maxHeartbeats 4000000 in
set_option maxRecDepth 100000 in
theorem Take_some (g : Nat) (v : Value) (x : ByteArray) (xs : List ByteArray) (room lost : Int) (w : World) (hl : xs.length ≤ 1099511627776) (h : Ln w g v (x :: xs) room lost) :
    Calls Try.prog 22 #[ptr g] w fun e w' => e = .returned (.tuple #[.string x, .bool true]) ∧ ∃ v', Ln w' g v' xs room lost ∧ Upd w w' (foot g v) ∧ Fresh w v v' := by
  obtain ⟨b, c0, hv0, -, hcell⟩ := Strs.own_some h.own (by simp)
  obtain ⟨A, c, hv, hc, hrd⟩ := own_reads_of_le (enc := Value.string) (d := ByteArray.empty) (xs := x :: xs) h.own
  rw [hv0] at hv
  have en : (x :: xs).length = xs.length + 1 := by simp
  rw [en] at hv0 hc hrd
  injection hv with hv1 hv2 hv3
  subst hv1
  subst hv3
  clear hv2
  have hv := hv0
  clear hv0
  have hcell0 : w.cell? ⟨b, 0, none⟩ = some (.string x) := hcell 0 (by simp)
  obtain ⟨i0, hi, hz0, hz1, hz2⟩ := info_parts info
  obtain ⟨A', hcut, hcr⟩ := print_cut_of (P := Try.prog) Value.string ByteArray.empty 39 9 .i64 Try.underlying39 hi hz1 (some ⟨b, 0, none⟩) (xs.length + 1) c0 1 (by omega)
  rw [show ((1 : Nat) : Int) = 1 from rfl] at hcut
  have HR := Aside0.mk (hcr w (x :: xs) hc hrd)
  simp only [Nat.add_sub_cancel, List.drop_succ_cons, List.drop_zero] at HR hcut
  have a0 : w.cell? ⟨g, 0, none⟩ = some (.slice (some ⟨b, 0, none⟩) (xs.length + 1) c0) := hv ▸ (blk_cell h.blk 0).trans rfl
  have a4 : ∀ o, (w.alloc o).cell? ⟨g, 0, none⟩ = some (.slice (some ⟨b, 0, none⟩) (xs.length + 1) c0) := fun o => (blk_cell (blk_alloc h.blk o) 0).trans (hv ▸ rfl)
  have H := Aside0.mk h
  clear h hrd hcr hcell hi hz0 hz1 hz2
  subst hv
  have b1 : (((xs.length + 1 : Nat) : Int) == 0) = false := beq_eq_false_iff_ne.mpr (by omega)
  have hu := Try.underlying51
  have hu2 := Try.underlying39
  go_enter Try.func22, Try.ntmps22
  go_wp2_with (at_builtin; go_loud (refine print_append_row_of (w0 := w) Value.string ByteArray.empty w.heap.size rfl (.tmp 18) (.tmp 23) 39 9 (.string ByteArray.empty) 16 rfl Try.underlying39 info rfl (by decide) (fun _ => rfl) (.slice (some ⟨w.heap.size, 0, none⟩) 0 0) [] xs A' xs.length (c0 - 1) rfl rfl ?c1 ?c2 ?c3 ?c4 ?c5 ?_); (case c1 => exact own_empty w w.heap.size (Nat.le_refl _)); (case c2 => exact HR.out.below (below_alloc (Below.refl _ _) _)); (case c3 => exact below_alloc (Below.refl _ _) _); (case c4 => simp); (case c5 => simp only [List.length_nil]; omega); intro v2 w2 ho2 hb2 hg2 hf2; rw [List.nil_append] at ho2; obtain ⟨A2, c2_, rfl⟩ := own_slice ho2; have N2 := Aside0.mk (blk_below H.out.blk hb2); have hc2 := (blk_cell N2.out 0).trans rfl; have hz2 := blk_frozen N2.out 0; have HO2 := Aside0.mk ho2; have HB2 := Aside0.mk hb2; clear ho2 hb2 hg2 hf2)
  go_ret2
  refine ⟨rfl, .slice A2 xs.length c2_, ⟨?_, ?_⟩, ?_, ?_⟩
  · exact blk_put (cs := #[.slice (some ⟨b, 0, none⟩) (xs.length + 1) c0, .int .i64 room, .int .i64 lost]) N2.out 0 _ rfl
  · exact own_weaken (own_setCell HO2.out (own_ne HO2.out N2.out (show (9 : Nat) ≠ 51 by decide)) _) (Nat.zero_le _)
  · exact ((Upd.refl w _).below HB2.out).set (.inl (.inl rfl)) _
  · exact .inr fun b' hb' => own_base HO2.out b' hb'
end Ref
end Go.Proofs.Ytbbboejcjcakbaa.Lane
