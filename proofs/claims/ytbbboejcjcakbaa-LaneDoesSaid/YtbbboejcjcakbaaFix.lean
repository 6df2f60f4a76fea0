/- Lanes that a call made; what the document fixes. -/
import Derived.Test.YtbbboejcjcakbaaLane
namespace Go.Proofs.Ytbbboejcjcakbaa.Lane
open Go Go.RowKit Go.Proofs.YtbbboejcjcakbaaW.PrintWords Go.Proofs.YtbbboejcjcakbaaW.PrintLast Go.Proofs.YtbbboejcjcakbaaW.PrintMore Go.Proofs.Ytbbboejcjcakbaa.Own Go.Proofs.Ytbbboejcjcakbaa.P
set_option linter.unusedVariables false
set_option linter.unusedSimpArgs false
namespace Ints
/-- A lane that a call made, some calls later: what was there ahead of it is as it was. -/
structure St (w0 w : World) (g : Nat) (v : Value) (xs : List Int) (room lost : Int) : Prop where
  ln : Ln w g v xs room lost
  bel : Below w0.heap.size w0 w
  hg : w0.heap.size ≤ g
  hv : ∀ b, v.ownBlock = some b → w0.heap.size ≤ b
def Lane (w0 w : World) (g : Nat) (xs : List Int) (room lost : Int) : Prop := ∃ v, St w0 w g v xs room lost
theorem Lane.bel {w0 w : World} {g : Nat} {xs : List Int} {room lost : Int} (h : Lane w0 w g xs room lost) : Below w0.heap.size w0 w := h.elim fun _ s => s.bel
theorem St.step {w0 w w' : World} {g : Nat} {v v' : Value} {xs xs' : List Int} {room lost room' lost' : Int} (s : St w0 w g v xs room lost) (h : Ln w' g v' xs' room' lost') (u : Upd w w' (foot g v)) (f : Fresh w v v') : Lane w0 w' g xs' room' lost' := by
  refine ⟨v', h, s.bel.trans (u.toBelow ?_ s.bel.size), s.hg, ?_⟩
  · rintro k (rfl | hk)
    · exact s.hg
    · exact s.hv k hk.symm
  · intro b hb
    rcases f with f | f
    · exact s.hv b (f ▸ hb)
    · exact Nat.le_trans s.bel.size (f b hb)
/-- Beside calls that leave old memory alone. -/
theorem Lane.beside {w0 w w' : World} {g : Nat} {xs : List Int} {room lost : Int} (h : Lane w0 w g xs room lost) (hb : Below w.heap.size w w') : Lane w0 w' g xs room lost := by
  obtain ⟨v, s⟩ := h
  refine s.step ⟨blk_below s.ln.blk hb, pw_own_below s.ln.own hb⟩ (Upd.of_below hb _) (.inl rfl)
theorem new {w0 w : World} (room : Int) (hb : Below w0.heap.size w0 w) (h : 1 ≤ room) (h2 : room ≤ 1024) :
    Calls Try.prog 8 #[.int .i64 room] w fun e w' => ∃ g, e = .returned (.tuple #[ptr g, .int .i64 0]) ∧ Lane w0 w' g [] room 0 ∧ Below w.heap.size w w' := by
  refine (New_ok room w h h2).mono ?_
  rintro e w' ⟨rfl, hl, b⟩
  exact ⟨_, rfl, ⟨_, hl, below_step hb b, hb.size, fun b hb => by simp [Value.ownBlock] at hb⟩, b⟩
theorem put {w0 w : World} {g : Nat} {xs : List Int} {room lost : Int} (x : Int) (hr : (xs.length : Int) < room) (hl : xs.length ≤ 1099511627776) (h : Lane w0 w g xs room lost) :
    Calls Try.prog 13 #[ptr g, .int .i64 x] w fun e w' => e = .returned (.bool true) ∧ Lane w0 w' g (xs ++ [x]) room lost := by
  obtain ⟨v, s⟩ := h
  refine (Put_ok g v xs room lost x w hr hl s.ln).mono ?_
  rintro e w' ⟨rfl, v', h1, h2, h3⟩
  exact ⟨rfl, s.step h1 h2 h3⟩
theorem lose {w0 w : World} {g : Nat} {xs : List Int} {room lost : Int} (x : Int) (hr : room ≤ (xs.length : Int)) (h0 : 0 ≤ lost) (h1 : lost < 1099511627776) (h : Lane w0 w g xs room lost) :
    Calls Try.prog 13 #[ptr g, .int .i64 x] w fun e w' => e = .returned (.bool false) ∧ Lane w0 w' g xs room (lost + 1) := by
  obtain ⟨v, s⟩ := h
  refine (Put_no g v xs room lost x w hr h0 h1 s.ln).mono ?_
  rintro e w' ⟨rfl, h1, h2⟩
  exact ⟨rfl, s.step h1 h2 (.inl rfl)⟩
theorem take {w0 w : World} {g : Nat} {x : Int} {xs : List Int} {room lost : Int} (hl : xs.length ≤ 1099511627776) (h : Lane w0 w g (x :: xs) room lost) :
    Calls Try.prog 11 #[ptr g] w fun e w' => e = .returned (.tuple #[.int .i64 x, .bool true]) ∧ Lane w0 w' g xs room lost := by
  obtain ⟨v, s⟩ := h
  refine (Take_some g v x xs room lost w hl s.ln).mono ?_
  rintro e w' ⟨rfl, v', h1, h2, h3⟩
  exact ⟨rfl, s.step h1 h2 h3⟩
theorem none_ {w0 w : World} {g : Nat} {room lost : Int} (h : Lane w0 w g [] room lost) :
    Calls Try.prog 11 #[ptr g] w fun e w' => e = .returned (.tuple #[.int .i64 0, .bool false]) ∧ w' = w := by
  obtain ⟨v, s⟩ := h
  exact Take_none g v room lost w s.ln
theorem len {w0 w : World} {g : Nat} {xs : List Int} {room lost : Int} (h : Lane w0 w g xs room lost) :
    Calls Try.prog 12 #[ptr g] w fun e w' => e = .returned (.int .i64 (xs.length : Int)) ∧ w' = w := by
  obtain ⟨v, s⟩ := h
  exact Len g v xs room lost w s.ln
theorem lost_ {w0 w : World} {g : Nat} {xs : List Int} {room lost : Int} (h : Lane w0 w g xs room lost) :
    Calls Try.prog 14 #[ptr g] w fun e w' => e = .returned (.int .i64 lost) ∧ w' = w := by
  obtain ⟨v, s⟩ := h
  exact Lost g v xs room lost w s.ln
end Ints

namespace Strs
/-- A lane that a call made, some calls later: what was there ahead of it is as it was. -/
structure St (w0 w : World) (g : Nat) (v : Value) (xs : List ByteArray) (room lost : Int) : Prop where
  ln : Ln w g v xs room lost
  bel : Below w0.heap.size w0 w
  hg : w0.heap.size ≤ g
  hv : ∀ b, v.ownBlock = some b → w0.heap.size ≤ b
def Lane (w0 w : World) (g : Nat) (xs : List ByteArray) (room lost : Int) : Prop := ∃ v, St w0 w g v xs room lost
theorem Lane.bel {w0 w : World} {g : Nat} {xs : List ByteArray} {room lost : Int} (h : Lane w0 w g xs room lost) : Below w0.heap.size w0 w := h.elim fun _ s => s.bel
theorem St.step {w0 w w' : World} {g : Nat} {v v' : Value} {xs xs' : List ByteArray} {room lost room' lost' : Int} (s : St w0 w g v xs room lost) (h : Ln w' g v' xs' room' lost') (u : Upd w w' (foot g v)) (f : Fresh w v v') : Lane w0 w' g xs' room' lost' := by
  refine ⟨v', h, s.bel.trans (u.toBelow ?_ s.bel.size), s.hg, ?_⟩
  · rintro k (rfl | hk)
    · exact s.hg
    · exact s.hv k hk.symm
  · intro b hb
    rcases f with f | f
    · exact s.hv b (f ▸ hb)
    · exact Nat.le_trans s.bel.size (f b hb)
/-- Beside calls that leave old memory alone. -/
theorem Lane.beside {w0 w w' : World} {g : Nat} {xs : List ByteArray} {room lost : Int} (h : Lane w0 w g xs room lost) (hb : Below w.heap.size w w') : Lane w0 w' g xs room lost := by
  obtain ⟨v, s⟩ := h
  refine s.step ⟨blk_below s.ln.blk hb, pw_own_below s.ln.own hb⟩ (Upd.of_below hb _) (.inl rfl)
theorem new {w0 w : World} (room : Int) (hb : Below w0.heap.size w0 w) (h : 1 ≤ room) (h2 : room ≤ 1024) :
    Calls Try.prog 24 #[.int .i64 room] w fun e w' => ∃ g, e = .returned (.tuple #[ptr g, .int .i64 0]) ∧ Lane w0 w' g [] room 0 ∧ Below w.heap.size w w' := by
  refine (New_ok room w h h2).mono ?_
  rintro e w' ⟨rfl, hl, b⟩
  exact ⟨_, rfl, ⟨_, hl, below_step hb b, hb.size, fun b hb => by simp [Value.ownBlock] at hb⟩, b⟩
theorem put {w0 w : World} {g : Nat} {xs : List ByteArray} {room lost : Int} (x : ByteArray) (hr : (xs.length : Int) < room) (hl : xs.length ≤ 1099511627776) (h : Lane w0 w g xs room lost) :
    Calls Try.prog 15 #[ptr g, .string x] w fun e w' => e = .returned (.bool true) ∧ Lane w0 w' g (xs ++ [x]) room lost := by
  obtain ⟨v, s⟩ := h
  refine (Put_ok g v xs room lost x w hr hl s.ln).mono ?_
  rintro e w' ⟨rfl, v', h1, h2, h3⟩
  exact ⟨rfl, s.step h1 h2 h3⟩
theorem lose {w0 w : World} {g : Nat} {xs : List ByteArray} {room lost : Int} (x : ByteArray) (hr : room ≤ (xs.length : Int)) (h0 : 0 ≤ lost) (h1 : lost < 1099511627776) (h : Lane w0 w g xs room lost) :
    Calls Try.prog 15 #[ptr g, .string x] w fun e w' => e = .returned (.bool false) ∧ Lane w0 w' g xs room (lost + 1) := by
  obtain ⟨v, s⟩ := h
  refine (Put_no g v xs room lost x w hr h0 h1 s.ln).mono ?_
  rintro e w' ⟨rfl, h1, h2⟩
  exact ⟨rfl, s.step h1 h2 (.inl rfl)⟩
theorem take {w0 w : World} {g : Nat} {x : ByteArray} {xs : List ByteArray} {room lost : Int} (hl : xs.length ≤ 1099511627776) (h : Lane w0 w g (x :: xs) room lost) :
    Calls Try.prog 19 #[ptr g] w fun e w' => e = .returned (.tuple #[.string x, .bool true]) ∧ Lane w0 w' g xs room lost := by
  obtain ⟨v, s⟩ := h
  refine (Take_some g v x xs room lost w hl s.ln).mono ?_
  rintro e w' ⟨rfl, v', h1, h2, h3⟩
  exact ⟨rfl, s.step h1 h2 h3⟩
theorem none_ {w0 w : World} {g : Nat} {room lost : Int} (h : Lane w0 w g [] room lost) :
    Calls Try.prog 19 #[ptr g] w fun e w' => e = .returned (.tuple #[.string ByteArray.empty, .bool false]) ∧ w' = w := by
  obtain ⟨v, s⟩ := h
  exact Take_none g v room lost w s.ln
theorem len {w0 w : World} {g : Nat} {xs : List ByteArray} {room lost : Int} (h : Lane w0 w g xs room lost) :
    Calls Try.prog 20 #[ptr g] w fun e w' => e = .returned (.int .i64 (xs.length : Int)) ∧ w' = w := by
  obtain ⟨v, s⟩ := h
  exact Len g v xs room lost w s.ln
theorem lost_ {w0 w : World} {g : Nat} {xs : List ByteArray} {room lost : Int} (h : Lane w0 w g xs room lost) :
    Calls Try.prog 18 #[ptr g] w fun e w' => e = .returned (.int .i64 lost) ∧ w' = w := by
  obtain ⟨v, s⟩ := h
  exact Lost g v xs room lost w s.ln
end Strs

namespace Strs
set_option maxHeartbeats 4000000 in
set_option maxRecDepth 100000 in
theorem texts_no (room : Int) (w : World) (h : room < 1 ∨ 1024 < room) :
    Calls Try.prog 7 #[.int .i64 room] w fun e w' => e = .returned (.tuple #[.pointer none, .int .i64 190]) ∧ w' = w := by
  have C := Aside0.mk (New_no room w h)
  go_enter Try.func7, Try.ntmps7
  go_wp2_with fail
  refine C.out.mono ?_
  rintro e w' ⟨rfl, rfl⟩
  go_wp2
  go_ret2
  exact ⟨rfl, rfl⟩
set_option maxHeartbeats 4000000 in
set_option maxRecDepth 100000 in
theorem texts {w0 w : World} (room : Int) (hb : Below w0.heap.size w0 w) (h : 1 ≤ room) (h2 : room ≤ 1024) :
    Calls Try.prog 7 #[.int .i64 room] w fun e w' => ∃ g, e = .returned (.tuple #[ptr g, .int .i64 0]) ∧ Lane w0 w' g [] room 0 ∧ Below w.heap.size w w' := by
  have C := Aside0.mk (new room hb h h2)
  go_enter Try.func7, Try.ntmps7
  go_wp2_with fail
  refine C.out.mono ?_
  rintro e w' ⟨g, rfl, hl, hb1⟩
  have L := Aside0.mk hl
  have B := Aside0.mk hb1
  clear hl hb1
  go_wp2
  go_ret2
  exact ⟨_, rfl, L.out, B.out⟩
end Strs
def sa : ByteArray := ⟨#[97]⟩
def sb : ByteArray := ⟨#[98]⟩
set_option maxHeartbeats 4000000 in
set_option maxRecDepth 100000 in
theorem fixed (w : World) : Calls Try.prog 10 #[] w fun e w' => e = .returned (.bool true) ∧ Below w.heap.size w w' := by
  go_enter Try.func10, Try.ntmps10
  go_wp2_with fail
  refine (Strs.texts (w0 := w) 1 (Below.refl _ _) (by decide) (by decide)).mono ?_
  rintro e w1 ⟨g, rfl, h1, -⟩
  have L1 := Aside0.mk h1
  clear h1
  go_wp2_with fail
  refine (Strs.texts_no 0 w1 (.inl (by decide))).mono ?_
  rintro e w2 ⟨rfl, rfl⟩
  go_wp2_with fail
  refine (Strs.put sa (by decide) (by decide) L1.out).mono ?_
  rintro e w2 ⟨rfl, h2⟩
  have L2 := Aside0.mk h2
  clear L1 h2
  go_wp2_with fail
  refine (Strs.lose sb (by decide) (by decide) (by decide) L2.out).mono ?_
  rintro e w3 ⟨rfl, h3⟩
  have L3 := Aside0.mk h3
  clear L2 h3
  go_wp2_with fail
  refine (Strs.take (by decide) L3.out).mono ?_
  rintro e w4 ⟨rfl, h4⟩
  have L4 := Aside0.mk h4
  clear L3 h4
  go_wp2_with fail
  refine (Strs.none_ L4.out).mono ?_
  rintro e w5 ⟨rfl, rfl⟩
  go_wp2_with fail
  refine (Strs.lost_ L4.out).mono ?_
  rintro e w5 ⟨rfl, rfl⟩
  go_wp2_with fail
  refine (Strs.len L4.out).mono ?_
  rintro e w5 ⟨rfl, rfl⟩
  go_wp2
  · go_ret
    exact ⟨rfl, L4.out.bel⟩
  · exact absurd (show sa.toList = [97] by rw [ByteArray.toList_eq]; rfl) ‹_›

end Go.Proofs.Ytbbboejcjcakbaa.Lane
