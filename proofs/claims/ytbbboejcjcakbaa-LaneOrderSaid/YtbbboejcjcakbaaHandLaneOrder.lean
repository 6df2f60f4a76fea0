/- The law LaneOrder, walked by hand over the contracts of what it calls: for every input it returns true and leaves old memory as it was. -/
import Derived.Test.YtbbboejcjcakbaaFix
import Derived.Test.YtbbboejcjcakbaaMth
namespace Go.Proofs.Ytbbboejcjcakbaa.Hand
open Go Go.RowKit Go.Proofs.YtbbboejcjcakbaaW.PrintWords Go.Proofs.YtbbboejcjcakbaaW.PrintLast Go.Proofs.YtbbboejcjcakbaaW.PrintMore Go.Proofs.Ytbbboejcjcakbaa.Own Go.Proofs.Ytbbboejcjcakbaa.P Go.Proofs.Ytbbboejcjcakbaa.Lane
set_option linter.unusedVariables false
set_option linter.unusedSimpArgs false
/-- The numbers in the lane: rising, all behind the last one that was taken, all ahead of the next one to be put. -/
structure Inv (n : Int) (i : Nat) (xs : List Int) (lost put taken last : Int) : Prop where
  rise : xs.Pairwise (· < ·)
  low : ∀ x ∈ xs, last < x
  high : ∀ x ∈ xs, x < put
  sum : (xs.length : Int) + taken + lost = put
  room : (xs.length : Int) ≤ n
  l0 : 0 ≤ lost
  t0 : 0 ≤ taken
  p0 : 0 ≤ put
  pi : put ≤ i
  lp : last < put
theorem Inv.len {n : Int} {i : Nat} {xs : List Int} {lost put taken last : Int} (h : Inv n i xs lost put taken last) : (xs.length : Int) ≤ i := by
  have h1 := h.sum; have h2 := h.l0; have h3 := h.t0; have h4 := h.pi; omega
theorem Inv.start (n : Int) (h : 0 ≤ n) : Inv n 0 [] 0 0 0 (-1) := ⟨.nil, by simp, by simp, by simp, by simpa using h, by omega, by omega, by omega, by simp, by omega⟩
theorem Inv.put {n : Int} {i : Nat} {xs : List Int} {lost put taken last : Int} (h : Inv n i xs lost put taken last) (hr : (xs.length : Int) < n) : Inv n (i + 1) (xs ++ [put]) lost (put + 1) taken last := by
  have h1 := h.sum; have h2 := h.pi; have h3 := h.p0; have h5 := h.lp
  refine ⟨?_, ?_, ?_, ?_, ?_, h.l0, h.t0, by omega, by omega, by omega⟩
  · refine List.pairwise_append.2 ⟨h.rise, by simp, ?_⟩
    intro a ha b hb
    rw [List.mem_singleton.1 hb]
    exact h.high a ha
  · intro x hx
    rcases List.mem_append.1 hx with hx | hx
    · exact h.low x hx
    · rw [List.mem_singleton.1 hx]; exact h5
  · intro x hx
    rcases List.mem_append.1 hx with hx | hx
    · have := h.high x hx; omega
    · rw [List.mem_singleton.1 hx]; omega
  · simp only [List.length_append, List.length_singleton]; omega
  · simp only [List.length_append, List.length_singleton]; omega
theorem Inv.lose {n : Int} {i : Nat} {xs : List Int} {lost put taken last : Int} (h : Inv n i xs lost put taken last) : Inv n (i + 1) xs (lost + 1) (put + 1) taken last := by
  have h1 := h.sum; have h2 := h.pi; have h3 := h.p0; have h4 := h.l0; have h5 := h.lp
  exact ⟨h.rise, h.low, fun x hx => by have := h.high x hx; omega, by omega, h.room, by omega, h.t0, by omega, by omega, by omega⟩
theorem Inv.take {n : Int} {i : Nat} {x : Int} {xs : List Int} {lost put taken last : Int} (h : Inv n i (x :: xs) lost put taken last) : Inv n (i + 1) xs lost put (taken + 1) x ∧ last < x ∧ x < put := by
  have h1 := h.sum; have h2 := h.pi; have h3 := h.p0; have h4 := h.t0; have h6 := h.room
  have h7 := List.pairwise_cons.1 h.rise
  simp only [List.length_cons] at h1 h6
  exact ⟨⟨h7.2, h7.1, fun y hy => h.high y (List.mem_cons_of_mem _ hy), by omega, by omega, h.l0, by omega, h3, by omega, h.high x (by simp)⟩, h.low x (by simp), h.high x (by simp)⟩
theorem Inv.skip {n : Int} {i : Nat} {xs : List Int} {lost put taken last : Int} (h : Inv n i xs lost put taken last) : Inv n (i + 1) xs lost put taken last := by
  have h2 := h.pi
  exact ⟨h.rise, h.low, h.high, h.sum, h.room, h.l0, h.t0, h.p0, by omega, h.lp⟩
set_option maxHeartbeats 8000000 in
set_option maxRecDepth 100000 in
theorem LaneOrder (room : Int) (A : Option Addr) (c : Nat) (bs : List Bool) (w : World) (h0 : (Lit.int .i64 room).wf = true) (hle : bs.length ≤ c) (hmx : c ≤ 9223372036854775807) (hgd : ∀ b ∈ bs, True) (hcs : ReadsOf Value.bool false w A bs.length bs) :
    Calls Try.prog 4 #[.int .i64 room, .slice A bs.length c] w fun e w' => e = .returned (.bool true) ∧ Below w.heap.size w w' := by
  have e31 : Go.bits .and .i64 room 31 = room % 32 := Mth.and_i64 room 5 (by decide)
  obtain ⟨r, hr, hr0, hr1⟩ : ∃ r : Int, Go.bits .and .i64 room 31 = r ∧ 0 ≤ r ∧ r ≤ 31 := ⟨_, rfl, by omega, by omega⟩
  have hn : IntKind.i64.wrap (1 + r) = 1 + r := by rw [IntKind.wrap_i64]; omega
  obtain ⟨n, en⟩ : ∃ n : Int, 1 + r = n := ⟨_, rfl⟩
  rw [en] at hn
  have n1 : 1 ≤ n := by omega
  have n2 : n ≤ 1024 := by omega
  have HCS := Aside0.mk hcs
  clear hcs e31 h0 hle hmx hgd
  go_enter Try.func4, Try.ntmps4
  go_wp2_with fail
  try rw [hn]
  try rw [en]
  refine (Ints.new (w0 := w) n (Below.refl _ _) n1 n2).mono ?_
  rintro e w1 ⟨g, rfl, h1, -⟩
  have L := Aside0.mk h1
  clear h1
  go_wp2_with fail
  go_loopg [8, 9, 10, 11] 200 (fun k v8 v9 v10 v11 w' => ∃ (i : Nat) (xs : List Int) (lost put taken last : Int), v8 = .int .i64 put ∧ v9 = .int .i64 taken ∧ v10 = .int .i64 last ∧ v11 = .int .i64 (i : Int) ∧ Aside0 (i + k = 200) ∧ Aside0 (Inv n i xs lost put taken last) ∧ Aside0 (Ints.Lane w w' g xs n lost))
  case atStart => exact ⟨0, [], 0, 0, 0, -1, rfl, rfl, rfl, rfl, ⟨rfl⟩, ⟨Inv.start n (by omega)⟩, L⟩
  case round =>
    clear L
    obtain ⟨i, xs, lost, put, taken, last, rfl, rfl, rfl, rfl, hk, hI, L⟩ := hrel
    have hlen := hI.out.len
    have hkk := hk.out
    have wi : IntKind.i64.wrap ((i : Int) + 1) = ((i + 1 : Nat) : Int) := by rw [IntKind.wrap_i64]; omega
    by_cases hc : i < bs.length ∧ i < 200
    · have c1 : decide ((i : Int) < (bs.length : Int)) = true := decide_eq_true (by omega)
      have c2 : decide ((i : Int) < 200) = true := decide_eq_true (by omega)
      have R := HCS.out.below L.out.bel
      obtain ⟨ad, rfl, hcell⟩ := R.at_ (i : Int) (by omega) (by omega)
      have i0 : decide (0 ≤ (i : Int)) = true := decide_eq_true (by omega)
      clear R
      obtain ⟨kk, rfl⟩ : ∃ m, gk = m + 1 := ⟨gk - 1, by omega⟩
      obtain ⟨b, hb⟩ : ∃ b : Bool, rdOf false bs (i : Int) = b := ⟨_, rfl⟩
      rw [hb, Int.toNat_natCast] at hcell
      cases b with
      | true =>
        have wt : IntKind.i64.wrap (taken + 1) = taken + 1 := by
          have h1 := hI.out.sum; have h2 := hI.out.l0; have h3 := hI.out.t0; have h4 := hI.out.pi
          rw [IntKind.wrap_i64]; omega
        cases xs with
        | nil =>
          go_wp2_with fail
          refine (Ints.none_ L.out).mono ?_
          rintro e w2 ⟨rfl, rfl⟩
          go_wp2_with fail
          refine (Ints.len L.out).mono ?_
          rintro e w2 ⟨rfl, rfl⟩
          go_wp2_with fail
          try rw [wi]
          go_roundg kk
          case measure => omega
          case rel => exact ⟨i + 1, [], lost, put, taken, last, rfl, rfl, rfl, rfl, ⟨by omega⟩, ⟨hI.out.skip⟩, L⟩
        | cons x xs =>
          obtain ⟨hI2, q1, q2⟩ := hI.out.take
          have d1 : decide (x ≤ last) = false := decide_eq_false (by omega)
          have d2 : decide (put ≤ x) = false := decide_eq_false (by omega)
          have HI2 := Aside0.mk hI2
          clear hI2
          go_wp2_with fail
          refine (Ints.take (by simp only [List.length_cons] at hlen; omega) L.out).mono ?_
          rintro e w2 ⟨rfl, h2⟩
          have L2 := Aside0.mk h2
          clear h2
          go_wp2_with fail
          try rw [wi]
          try rw [wt]
          go_roundg kk
          case measure => omega
          case rel => exact ⟨i + 1, xs, lost, put, taken + 1, x, rfl, rfl, rfl, rfl, ⟨by omega⟩, HI2, L2⟩
      | false =>
        have wp1 : IntKind.i64.wrap (put + 1) = put + 1 := by
          have h3 := hI.out.p0; have h4 := hI.out.pi
          rw [IntKind.wrap_i64]; omega
        go_wp2_with fail
        refine (Ints.len L.out).mono ?_
        rintro e w2 ⟨rfl, rfl⟩
        go_wp2_with fail
        by_cases hr2 : (xs.length : Int) < n
        · have HI2 := Aside0.mk (hI.out.put hr2)
          have d1 : decide ((xs.length : Int) < n) = true := decide_eq_true hr2
          refine (Ints.put put hr2 (by omega) L.out).mono ?_
          rintro e w3 ⟨rfl, h3⟩
          have L3 := Aside0.mk h3
          clear h3
          have q1 := HI2.out.sum
          have q2 := HI2.out.room
          have q3 := HI2.out.t0
          have q4 := HI2.out.l0
          have q5 := HI2.out.pi
          have wa : IntKind.i64.wrap (((xs ++ [put]).length : Int) + taken) = ((xs ++ [put]).length : Int) + taken := by rw [IntKind.wrap_i64]; omega
          have wb : IntKind.i64.wrap (((xs ++ [put]).length : Int) + taken + lost) = put + 1 := by rw [IntKind.wrap_i64]; omega
          have d2 : decide (n < ((xs ++ [put]).length : Int)) = false := decide_eq_false (by omega)
          go_wp2_with fail
          refine (Ints.len L3.out).mono ?_
          rintro e w4 ⟨rfl, rfl⟩
          go_wp2_with fail
          refine (Ints.lost_ L3.out).mono ?_
          rintro e w4 ⟨rfl, rfl⟩
          go_wp2_with fail
          refine (Ints.len L3.out).mono ?_
          rintro e w4 ⟨rfl, rfl⟩
          go_wp2_with fail
          · try rw [wi]
            try rw [wp1]
            go_roundg kk
            case measure => omega
            case rel => exact ⟨i + 1, xs ++ [put], lost, put + 1, taken, last, rfl, rfl, rfl, rfl, ⟨by omega⟩, HI2, L3⟩
          all_goals (exfalso; have ql : (xs ++ [put]).length = xs.length + 1 := by simp
                     omega)
        · have HI2 := Aside0.mk hI.out.lose
          have d1 : decide ((xs.length : Int) < n) = false := decide_eq_false hr2
          refine (Ints.lose put (by omega) hI.out.l0 (by have h1 := hI.out.sum; have h3 := hI.out.t0; have h4 := hI.out.pi; omega) L.out).mono ?_
          rintro e w3 ⟨rfl, h3⟩
          have L3 := Aside0.mk h3
          clear h3
          have q1 := HI2.out.sum
          have q2 := HI2.out.room
          have q3 := HI2.out.t0
          have q4 := HI2.out.l0
          have q5 := HI2.out.pi
          have wa : IntKind.i64.wrap ((xs.length : Int) + taken) = (xs.length : Int) + taken := by rw [IntKind.wrap_i64]; omega
          have wb : IntKind.i64.wrap ((xs.length : Int) + taken + (lost + 1)) = put + 1 := by rw [IntKind.wrap_i64]; omega
          have d2 : decide (n < (xs.length : Int)) = false := decide_eq_false (by omega)
          go_wp2_with fail
          refine (Ints.len L3.out).mono ?_
          rintro e w4 ⟨rfl, rfl⟩
          go_wp2_with fail
          refine (Ints.lost_ L3.out).mono ?_
          rintro e w4 ⟨rfl, rfl⟩
          go_wp2_with fail
          refine (Ints.len L3.out).mono ?_
          rintro e w4 ⟨rfl, rfl⟩
          go_wp2_with fail
          · try rw [wi]
            try rw [wp1]
            go_roundg kk
            case measure => omega
            case rel => exact ⟨i + 1, xs, lost + 1, put + 1, taken, last, rfl, rfl, rfl, rfl, ⟨by omega⟩, HI2, L3⟩
          all_goals (exfalso; omega)
    · have B := Aside0.mk L.out.bel
      have C := fun W => fixed W
      by_cases hi : i < bs.length
      · have c1 : decide ((i : Int) < (bs.length : Int)) = true := decide_eq_true (by omega)
        have c2 : decide ((i : Int) < 200) = false := decide_eq_false (by omega)
        go_wp2_with fail
        refine (C wr).mono ?_
        rintro e w2 ⟨rfl, hb2⟩
        have B2 := Aside0.mk (below_step B.out hb2)
        clear hb2
        go_wp2_with fail
        go_ret
        exact ⟨rfl, B2.out⟩
      · have c1 : decide ((i : Int) < (bs.length : Int)) = false := decide_eq_false (by omega)
        go_wp2_with fail
        refine (C wr).mono ?_
        rintro e w2 ⟨rfl, hb2⟩
        have B2 := Aside0.mk (below_step B.out hb2)
        clear hb2
        go_wp2_with fail
        go_ret
        exact ⟨rfl, B2.out⟩
end Go.Proofs.Ytbbboejcjcakbaa.Hand
