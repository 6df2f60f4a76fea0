/- A memory: its functions' contracts, by hand, and the laws over them. -/
import Derived.Test.YtllpfadjdecjiaaMemL
import Derived.Laws.Pointers
import Derived.WalkLawsBesides
import Derived.Deep.QuietTactic
import Derived.BigQuiet
import Derived.Deep.RegionWith
import Derived.Deep.RegionLaw
import Derived.Lib.BufferWrite
namespace Go.Proofs.Ytllpfadjdecjiaa.Mem
open Go Go.RowKit Go.Proofs.YtllpfadjdecjiaaW.PrintWords Go.Proofs.YtllpfadjdecjiaaW.PrintLast Go.Proofs.YtllpfadjdecjiaaW.PrintMore Go.Proofs.Ytllpfadjdecjiaa.Own Go.Proofs.Ytllpfadjdecjiaa.P Go.Proofs.Ytllpfadjdecjiaa
set_option linter.unusedVariables false
set_option linter.unusedSimpArgs false
theorem undrew {w w1 : World} (h : Below w.drew.heap.size w.drew w1) : Below w.heap.size w w1 := ⟨h.os, h.tape, h.output, h.size, h.block⟩
set_option maxHeartbeats 4000000 in
set_option maxRecDepth 100000 in
theorem Clone (g : Nat) (vb vl : Value) (s : ByteArray) (who : Int) (log : List S49) (w : World) (hs : s.size ≤ 1048576) (hl : log.length ≤ 8000) (h : Mm w g vb vl s who log) :
    Calls Try.prog 20 #[ptr g] w fun e w' => ∃ g' vb' vl', e = .returned (ptr g') ∧ Mm w' g' vb' vl' s who log ∧ Below w.heap.size w w' ∧ w.heap.size ≤ g' ∧ (∀ b, vb'.ownBlock = some b → w.heap.size ≤ b) ∧ (∀ b, vl'.ownBlock = some b → w.heap.size ≤ b) := by
  obtain ⟨A, c, rfl⟩ := own_slice h.ob
  obtain ⟨A2, c2, rfl⟩ := own_slice h.ol
  have hu := Try.underlying60
  have a0 : w.cell? ⟨g, 0, none⟩ = some (.slice A s.size c) := (blk_cell h.blk 0).trans rfl
  have a1 : w.cell? ⟨g, 1, none⟩ = some (.int .i64 who) := (blk_cell h.blk 1).trans rfl
  have a2 : w.cell? ⟨g, 2, none⟩ = some (.slice A2 log.length c2) := (blk_cell h.blk 2).trans rfl
  have H := Aside0.mk h
  clear h
  have C1 := Aside0.mk fun (W : World) (hW : Below w.heap.size w W) => clonedB (.slice A s.size c) s W hs (pw_own_below H.out.ob hW)
  have C2 := Aside0.mk fun (W : World) (hW : Below w.heap.size w W) => clonedA (.slice A2 log.length c2) log W (by omega) (pw_own_below H.out.ol hW)
  go_enter Try.func20, Try.ntmps20
  go_wp2
  go_region_with (first
    | (go_at_call 28; (with_reducible refine (C1.out _ (by first | exact below_drew1 (Below.refl _ _) | exact BA.out)).mono ?_); rintro e w1 ⟨v1, rfl, ho1, hb1⟩; obtain ⟨A1, c1, rfl⟩ := own_slice ho1; have BB := Aside0.mk (show Below w.heap.size w w1 from (by first | exact undrew hb1 | exact below_then BA.out BA.out.size hb1)); have OB := Aside0.mk ho1; (try have OA2 := Aside0.mk (pw_own_below OA.out hb1)); have N1 := Aside0.mk (blk_below H.out.blk BB.out); have d1 : w1.cell? ⟨g, 1, none⟩ = some (.int .i64 who) := (blk_cell N1.out 1).trans rfl; have d2 : w1.cell? ⟨g, 2, none⟩ = some (.slice A2 log.length c2) := (blk_cell N1.out 2).trans rfl; have d0 : w1.cell? ⟨g, 0, none⟩ = some (.slice A s.size c) := (blk_cell N1.out 0).trans rfl; clear ho1 hb1)
    | (go_at_call 26; (with_reducible refine (C2.out _ (by first | exact below_drew1 (Below.refl _ _) | exact BB.out)).mono ?_); rintro e w2 ⟨v2, rfl, ho2, hb2⟩; obtain ⟨A3, c3, rfl⟩ := own_slice ho2; have BA := Aside0.mk (show Below w.heap.size w w2 from (by first | exact undrew hb2 | exact below_then BB.out BB.out.size hb2)); have OA := Aside0.mk ho2; (try have OB2 := Aside0.mk (pw_own_below OB.out hb2)); have N2 := Aside0.mk (blk_below H.out.blk BA.out); have g1 : w2.cell? ⟨g, 1, none⟩ = some (.int .i64 who) := (blk_cell N2.out 1).trans rfl; have g0 : w2.cell? ⟨g, 0, none⟩ = some (.slice A s.size c) := (blk_cell N2.out 0).trans rfl; have g2 : w2.cell? ⟨g, 2, none⟩ = some (.slice A2 log.length c2) := (blk_cell N2.out 2).trans rfl; clear ho2 hb2))
  all_goals go_wp2
  all_goals go_ret
  all_goals first
    | exact ⟨_, _, _, rfl, ⟨blk_new _ _, own_weaken (World.ownsRow.alloc OB2.out _) (Nat.zero_le _), own_weaken (World.ownsRow.alloc OA.out _) (Nat.zero_le _)⟩, below_alloc BA.out _, BA.out.size, fun b hb => own_base OB.out b hb, fun b hb => Nat.le_trans BB.out.size (own_base OA.out b hb)⟩
    | exact ⟨_, _, _, rfl, ⟨blk_new _ _, own_weaken (World.ownsRow.alloc OB.out _) (Nat.zero_le _), own_weaken (World.ownsRow.alloc OA2.out _) (Nat.zero_le _)⟩, below_alloc BB.out _, BB.out.size, fun b hb => Nat.le_trans BA.out.size (own_base OB.out b hb), fun b hb => own_base OA.out b hb⟩
end Go.Proofs.Ytllpfadjdecjiaa.Mem
