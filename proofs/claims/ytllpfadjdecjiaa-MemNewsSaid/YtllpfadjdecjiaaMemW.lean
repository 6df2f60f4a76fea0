/- A memory: its functions' contracts, by hand, and the laws over them. -/
import Derived.Test.YtllpfadjdecjiaaMemR
import Derived.Laws.Pointers
import Derived.WalkLawsBesides
import Derived.Deep.QuietTactic
import Derived.BigQuiet
import Derived.Deep.RegionWith
import Derived.Deep.RegionLaw
import Derived.Lib.BufferWrite
namespace Go.Proofs.Ytllpfadjdecjiaa.Mem
open Go Go.RowKit Go.Proofs.YtllpfadjdecjiaaW.PrintWords Go.Proofs.YtllpfadjdecjiaaW.PrintLast Go.Proofs.YtllpfadjdecjiaaW.PrintMore Go.Proofs.Ytllpfadjdecjiaa.Own Go.Proofs.Ytllpfadjdecjiaa.P Go.Proofs.Ytllpfadjdecjiaa
set_option linter.unusedVariables false
set_option linter.unusedSimpArgs false
theorem Upd.setRow {w w' : World} {S : Nat → Prop} (h : Upd w w' S) (b : Nat) (hb : S b ∨ w.heap.size ≤ b) (X : Array Value) : Upd w (w'.setRow b X) S :=
  h.then_ (S2 := fun k => k = b) ⟨rfl, rfl, rfl, ⟨by simp [World.setRow], fun i _ hn => setRow_other w' b i X hn⟩⟩ (fun k hk => hk ▸ hb)
theorem info1 : (Try.prog.info? 5).map (·.size) = some 1 := by kernel_rfl
set_option maxHeartbeats 4000000 in
set_option maxRecDepth 100000 in
theorem Write_ok (g : Nat) (vb vl : Value) (s t : ByteArray) (who : Int) (log : List S49) (a : Nat) (w : World) (hz : 64 ≤ s.size) (hs : s.size ≤ 1048576) (han : a + t.size ≤ s.size) (hl : log.length ≤ 8000) (h : Mm w g vb vl s who log) :
    Calls Try.prog 10 #[ptr g, .int .i64 (a : Int), .string t] w fun e w' => e = .returned (.int .i64 0) ∧ ∃ vl', Mm w' g vb vl' (over s t a) who (noted log who a t.size true) ∧ Upd w w' (foot g vb vl) ∧ Fresh w vl vl' := by
  have D1 := Aside0.mk (May_yes g vb vl s who log a t.size w hs (by omega) (by omega) (by omega) h)
  have D2 := Aside0.mk (note g vb vl s who log a t.size true w hl h)
  obtain ⟨b, c, cur, rfl, hc, hc63, -, -, -, -⟩ := own_some h.ob (by omega)
  have s2 : decide ((a : Int) ≤ (s.size : Int)) = true := decide_eq_true (by omega)
  have s3 : decide (0 ≤ (a : Int)) = true := decide_eq_true (by omega)
  have hu := Try.underlying60
  have hu2 := Try.underlying41
  have hu3 := Try.underlying9
  have H := Aside0.mk h
  clear h
  go_enter Try.func10, Try.ntmps10
  go_wp2_with fail
  refine D1.out.mono ?_
  rintro e w1 ⟨rfl, rfl⟩
  go_wp2_with fail
  refine D2.out.mono ?_
  rintro e w2 ⟨rfl, vl', h2, u2, f2⟩
  obtain ⟨b', c', cur', hv', -, -, hheap, hsz, htk, hcell⟩ := own_some h2.ob (by omega)
  simp only [Value.slice.injEq, Option.some.injEq, Addr.mk.injEq, and_true, true_and] at hv'
  obtain ⟨rfl, rfl⟩ := hv'
  have a0 : w2.cell? ⟨g, 0, none⟩ = some (.slice (some ⟨b, 0, none⟩) s.size c) := (blk_cell h2.blk 0).trans rfl
  have H2 := Aside0.mk h2
  have U2 := Aside0.mk u2
  have F2 := Aside0.mk f2
  have HH := Aside0.mk hheap
  have HT := Aside0.mk htk
  clear h2 u2 f2 D1 D2 hcell htk
  by_cases hca : c - a = 0
  · have ht : t.size = 0 := by omega
    have hcp := fun ty d => Lib.run_copy_empty_string (P := Try.prog) w2 41 9 ty 5 d 0 0 t Try.underlying41 (by rw [Option.isSome_map]; decide +kernel) ht
    have e0 : s.size - a = 0 := by omega
    have ea : a ≤ s.size := by omega
    clear hheap
    go_wp2
    go_ret
    exact ⟨rfl, vl', by rw [over_empty s t a ht ea]; exact H2.out, U2.out, F2.out⟩
  · have hcp := fun ty => Lib.run_copy_row_string (P := Try.prog) w2 41 9 ty 5 b a (s.size - a) (c - a) t cur' 5 Try.underlying41 info1 hheap (by omega) (by omega)
    clear hheap
    go_wp2
    go_ret
    refine ⟨rfl, vl', ⟨?_, ?_, ?_⟩, Upd.setRow U2.out b (.inl (.inr (.inl rfl))) _, F2.out⟩
    · exact (setRow_other w2 b g _ (fun e => H2.out.ne_b (by rw [e]; rfl))).trans H2.out.blk
    · refine ⟨by rw [Nat.mul_one, over_size s t a han]; simp [nums, bytesOf_length, over_size s t a han], .inr ⟨b, c, _, by rw [over_size s t a han], Nat.zero_le _, setRow_heap w2 b cur' _ 5 (0, 0) HH.out, by rw [over_size s t a han]; exact hc, by unfold maxLen; omega, ?_, ?_⟩⟩
      · simp only [List.size_toArray, List.length_append, List.length_take, List.length_drop, Array.length_toList, Lib.byteCells_length]
        have : t.data.size = t.size := rfl
        omega
      · rw [Nat.mul_one, over_size s t a han]
        show List.take s.size (_ ++ (_ ++ _)) = _
        rw [← List.append_assoc]
        exact cells_over s t a cur' han (by omega) HT.out
    · exact own_move H2.out.ol fun k hk => setRow_other w2 b k _ (fun e => H2.out.ne_bl b rfl (by rw [hk, e]))
set_option maxHeartbeats 4000000 in
set_option maxRecDepth 100000 in
theorem Write_no (g : Nat) (vb vl : Value) (s t : ByteArray) (who : Int) (log : List S49) (a : Int) (w : World) (hs : s.size ≤ 1048576) (hn : ¬ (0 ≤ a ∧ a + t.size ≤ (s.size : Int))) (h : Mm w g vb vl s who log) :
    Calls Try.prog 10 #[ptr g, .int .i64 a, .string t] w fun e w' => e = .returned (.int .i64 41) ∧ w' = w := by
  have D1 := Aside0.mk (May_no g vb vl s who log a t.size w hs (by omega) h)
  clear h
  go_enter Try.func10, Try.ntmps10
  go_wp2_with fail
  refine D1.out.mono ?_
  rintro e w1 ⟨rfl, rfl⟩
  go_wp2
  go_ret
  exact ⟨rfl, rfl⟩
end Go.Proofs.Ytllpfadjdecjiaa.Mem
