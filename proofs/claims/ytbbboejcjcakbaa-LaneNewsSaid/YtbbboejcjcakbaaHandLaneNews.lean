/- The law LaneNews, walked by hand over the contracts of what it calls: for every input it returns true and leaves old memory as it was. -/
import Derived.Test.YtbbboejcjcakbaaFix
namespace Go.Proofs.Ytbbboejcjcakbaa.Hand
open Go Go.RowKit Go.Proofs.YtbbboejcjcakbaaW.PrintWords Go.Proofs.YtbbboejcjcakbaaW.PrintLast Go.Proofs.YtbbboejcjcakbaaW.PrintMore Go.Proofs.Ytbbboejcjcakbaa.Own Go.Proofs.Ytbbboejcjcakbaa.P Go.Proofs.Ytbbboejcjcakbaa.Lane
set_option linter.unusedVariables false
set_option linter.unusedSimpArgs false
namespace Ref
open Strs (ptr)
set_option maxHeartbeats 4000000 in
set_option maxRecDepth 100000 in
theorem New_no (room : Int) (w : World) (h : room < 1 ∨ 1024 < room) :
    Calls Try.prog 9 #[.int .i64 room] w fun e w' => e = .returned (.tuple #[.pointer none, .int .i64 190]) ∧ w' = w := by
  by_cases h1 : room < 1
  · have b1 : decide (room < 1) = true := decide_eq_true h1
    go_enter Try.func9, Try.ntmps9
    go_wp2
    go_ret2
    exact ⟨rfl, rfl⟩
  · have b1 : decide (room < 1) = false := decide_eq_false h1
    have b2 : decide (1024 < room) = true := decide_eq_true (by omega)
    go_enter Try.func9, Try.ntmps9
    go_wp2
    go_ret2
    exact ⟨rfl, rfl⟩
set_option maxHeartbeats 4000000 in
set_option maxRecDepth 100000 in
theorem New_ok (room : Int) (w : World) (h : 1 ≤ room) (h2 : room ≤ 1024) :
    Calls Try.prog 9 #[.int .i64 room] w fun e w' => e = .returned (.tuple #[ptr w.heap.size, .int .i64 0]) ∧ w'.heap[w.heap.size]? = some (.cells #[.slice none 0 0, .int .i64 room, .int .i64 0] 51 (0, 0)) ∧ Below w.heap.size w w' := by
  have b1 : decide (room < 1) = false := decide_eq_false (by omega)
  have b2 : decide (1024 < room) = false := decide_eq_false (by omega)
  have hu := Try.underlying51
  go_enter Try.func9, Try.ntmps9
  go_wp2
  go_ret2
  exact ⟨rfl, blk_new _ _, below_alloc (Below.refl _ _) _⟩
end Ref
set_option maxHeartbeats 4000000 in
set_option maxRecDepth 100000 in
theorem LaneNews (room : Int) (w : World) (h0 : (Lit.int .i64 room).wf = true) :
    Calls Try.prog 3 #[.int .i64 room] w fun e w' => e = .returned (.bool true) ∧ Below w.heap.size w w' := by
  by_cases h : 1 ≤ room ∧ room ≤ 1024
  · have C1 := Aside0.mk (Strs.texts (w0 := w) room (Below.refl _ _) h.1 h.2)
    go_enter Try.func3, Try.ntmps3
    go_wp2_with fail
    refine C1.out.mono ?_
    rintro e w1 ⟨g, rfl, -, hb1⟩
    have B1 := Aside0.mk hb1
    clear hb1
    go_wp2_with fail
    refine (Ints.New_ok room w1 h.1 h.2).mono ?_
    rintro e w2 ⟨rfl, -, hb2⟩
    have B2 := Aside0.mk (below_step B1.out hb2)
    clear hb2 B1
    go_wp2_with fail
    refine (Ref.New_ok room w2 h.1 h.2).mono ?_
    rintro e w3 ⟨rfl, -, hb3⟩
    have B3 := Aside0.mk (below_step B2.out hb3)
    clear hb3 B2
    go_wp2_with fail
    refine (fixed w3).mono ?_
    rintro e w4 ⟨rfl, hb4⟩
    have B4 := Aside0.mk (below_step B3.out hb4)
    clear hb4 B3
    go_wp2
    go_ret
    exact ⟨rfl, B4.out⟩
  · have h' : room < 1 ∨ 1024 < room := by omega
    go_enter Try.func3, Try.ntmps3
    go_wp2_with fail
    refine (Strs.texts_no room w h').mono ?_
    rintro e w1 ⟨rfl, rfl⟩
    go_wp2_with fail
    refine (Ints.New_no room w1 h').mono ?_
    rintro e w2 ⟨rfl, rfl⟩
    go_wp2_with fail
    refine (Ref.New_no room w2 h').mono ?_
    rintro e w3 ⟨rfl, rfl⟩
    go_wp2_with fail
    refine (fixed w3).mono ?_
    rintro e w4 ⟨rfl, hb4⟩
    have B4 := Aside0.mk hb4
    clear hb4
    go_wp2
    go_ret
    exact ⟨rfl, B4.out⟩
end Go.Proofs.Ytbbboejcjcakbaa.Hand
