/- A memory: its functions' contracts, by hand, and the laws over them. -/
import Derived.Test.YtllpfadjdecjiaaMemW
import Derived.Laws.Pointers
import Derived.WalkLawsBesides
import Derived.Deep.QuietTactic
import Derived.BigQuiet
import Derived.Deep.RegionWith
import Derived.Deep.RegionLaw
import Derived.Lib.BufferWrite
namespace Go.Proofs.Ytllpfadjdecjiaa.Mem
open Go Go.RowKit Go.Proofs.YtllpfadjdecjiaaW.PrintWords Go.Proofs.YtllpfadjdecjiaaW.PrintLast Go.Proofs.YtllpfadjdecjiaaW.PrintMore Go.Proofs.Ytllpfadjdecjiaa.Own Go.Proofs.Ytllpfadjdecjiaa.P Go.Proofs.Ytllpfadjdecjiaa
set_option linter.unusedVariables false
set_option linter.unusedSimpArgs false
theorem rowA_len (l : List S49) : (rowA l).length = l.length * 4 := by
  induction l with
  | nil => rfl
  | cons x l ih => simp only [rowA, List.flatMap_cons, List.length_append, List.length_cons] at ih ⊢; rw [ih]; simp; omega
theorem rowA_one (l : List S49) : ∀ u ∈ rowA l, u.oneCell' = true := by
  intro u hu
  obtain ⟨x, _, hx⟩ := List.mem_flatMap.1 hu
  simp at hx
  rcases hx with rfl | rfl | rfl | rfl <;> rfl
theorem info49 : ∃ i0, Try.prog.info? 49 = some i0 ∧ i0.zero = some (.agg #[.int .i64 0, .int .i64 0, .int .i64 0, .bool false]) ∧ i0.size = 4 ∧ i0.bytes = 32 := by
  obtain ⟨i0, h, e⟩ := Option.map_eq_some_iff.1 infoA
  simp only [Prod.mk.injEq] at e
  exact ⟨i0, h, e⟩
theorem info5' : ∃ i0, Try.prog.info? 5 = some i0 ∧ i0.zero = some (.int .u8 0) ∧ i0.size = 1 ∧ i0.bytes = 1 := by
  obtain ⟨i0, h, e⟩ := Option.map_eq_some_iff.1 infoB
  simp only [Prod.mk.injEq] at e
  exact ⟨i0, h, e⟩
theorem clonedA (v : Value) (l : List S49) (w : World) (hl : l.length ≤ 10000) (h : w.ownsRow 0 49 4 v l.length (rowA l)) :
    Calls Try.prog 26 #[v] w fun e w' => ∃ v', e = .returned v' ∧ w'.ownsRow w.heap.size 49 4 v' l.length (rowA l) ∧ Below w.heap.size w w' := by
  rcases h.2 with ⟨rfl, h0⟩ | ⟨b, cap, cur, rfl, h1, h2, h3, h4, h5, h6⟩
  · obtain rfl : l = [] := List.eq_nil_of_length_eq_zero h0
    refine (AnyE.slices_Clone_nil Try.laysA 0 0 w).mono ?_
    rintro e w' ⟨rfl, rfl⟩
    exact ⟨_, rfl, own_nil _ _ _ _, Below.refl _ _⟩
  · obtain ⟨i0, q1, q2, q3, q4⟩ := info49
    refine (AnyE.slices_Clone Try.laysA i0 _ 4 32 q1 q2 q3 q4 rfl (by decide) Try.sizeOf49 b 0 l.length cap (rowA l) w (rowA_len l) (by unfold maxLen; omega) (by omega) ?_ (rowA_one l)).mono ?_
    · intro j u hu
      have hj : j < l.length * 4 := by rw [← rowA_len]; exact (List.getElem?_eq_some_iff.1 hu).1
      rw [Nat.zero_add, h.cellAt j hj, hu]
    · rintro e w' ⟨v', rfl, ho, -, hb⟩
      exact ⟨_, rfl, ho, hb⟩
theorem clonedB (v : Value) (s : ByteArray) (w : World) (hl : s.size ≤ 1048576) (h : w.ownsRow 0 5 1 v s.size (nums .u8 (bytesOf s))) :
    Calls Try.prog 28 #[v] w fun e w' => ∃ v', e = .returned v' ∧ w'.ownsRow w.heap.size 5 1 v' s.size (nums .u8 (bytesOf s)) ∧ Below w.heap.size w w' := by
  have hlen : (nums .u8 (bytesOf s)).length = s.size := by simp [nums, bytesOf_length]
  rcases h.2 with ⟨rfl, h0⟩ | ⟨b, cap, cur, rfl, h1, h2, h3, h4, h5, h6⟩
  · refine (AnyE.slices_Clone_nil Try.laysB 0 0 w).mono ?_
    rintro e w' ⟨rfl, rfl⟩
    refine ⟨_, rfl, ⟨by rw [hlen, Nat.mul_one], .inl ⟨rfl, h0⟩⟩, Below.refl _ _⟩
  · obtain ⟨i0, q1, q2, q3, q4⟩ := info5'
    refine (AnyE.slices_Clone Try.laysB i0 _ 1 1 q1 q2 q3 q4 rfl (by decide) Try.sizeOf5 b 0 s.size cap (nums .u8 (bytesOf s)) w (by rw [hlen, Nat.mul_one]) (by unfold maxLen; omega) (by omega) ?_ ?_).mono ?_
    · intro j u hu
      have hj : j < s.size * 1 := by rw [Nat.mul_one, ← hlen]; exact (List.getElem?_eq_some_iff.1 hu).1
      rw [Nat.zero_add, h.cellAt j hj, hu]
    · intro u hu
      simp only [nums, List.mem_map] at hu
      obtain ⟨x, _, rfl⟩ := hu
      rfl
    · rintro e w' ⟨v', rfl, ho, -, hb⟩
      exact ⟨_, rfl, ho, hb⟩
theorem reps (w : World) : ∀ l : List S49, Reps (k49.K w) 4 l (rowA l)
  | [] => Reps.none _ _
  | x :: l => by
    have ih := reps w l
    have e : rowA (x :: l) = encA x ++ rowA l := by simp [rowA]
    refine ⟨by rw [rowA_len], fun j p hp => ?_⟩
    rw [e]
    cases j with
    | zero =>
      simp only [List.getElem?_cons_zero, Option.some.injEq] at hp
      subst hp
      simp
      exact k49_mk w x
    | succ j =>
      simp only [List.getElem?_cons_succ] at hp
      have q : (encA x ++ rowA l).drop ((j + 1) * 4) = (rowA l).drop (j * 4) := by
        rw [show (j + 1) * 4 = (encA x).length + j * 4 from by simp; omega, ← List.drop_drop]
        simp
      rw [q]
      exact ih.2 j p hp
/-- What a row tells. -/
theorem reads {w : World} {base : Nat} {v : Value} {l : List S49} (h : w.ownsRow base 49 4 v l.length (rowA l)) : ∃ A c, v = .slice A l.length c ∧ l.length ≤ c ∧ Kd.C k49 w A l.length l := by
  obtain ⟨A, c, rfl, hr⟩ := own_reads_row h (reps w l) rfl
  exact ⟨A, c, rfl, own_le h, hr⟩
set_option maxHeartbeats 4000000 in
set_option maxRecDepth 100000 in
theorem Log (g : Nat) (vb vl : Value) (s : ByteArray) (who : Int) (log : List S49) (w : World) (hl : log.length ≤ 4096) (h : Mm w g vb vl s who log) :
    Calls Try.prog 17 #[ptr g] w fun e w' => ∃ v', e = .returned v' ∧ w'.ownsRow w.heap.size 49 4 v' log.length (rowA log) ∧ Mm w' g vb (.slice none 0 0) s who [] ∧ Upd w w' (foot g vb vl) := by
  obtain ⟨A, c, rfl⟩ := own_slice h.ol
  have a2 : w.cell? ⟨g, 2, none⟩ = some (.slice A log.length c) := (blk_cell h.blk 2).trans rfl
  have f2 := blk_frozen h.blk 2
  have hc := own_le h.ol
  have H := Aside0.mk h
  clear h
  have w1 : IntKind.i64.wrap ((log.length : Int) - 4096) = (log.length : Int) - 4096 := by rw [IntKind.wrap_i64]; omega
  have m1 : max 0 ((log.length : Int) - 4096) = 0 := by omega
  have hu := Try.underlying60
  have hu2 := Try.underlying45
  go_enter Try.func17, Try.ntmps17
  go_wp2
  go_quiet (fail)
  go_wp2_with fail
  have hne : ∀ k, (Value.slice A log.length c).ownBlock = some k → k ≠ g := fun k hk e => H.out.ne_l (by rw [hk, e])
  have O1 : ((w.drewN nq).setCell ⟨g, 2, none⟩ (.slice none 0 0)).ownsRow 0 49 4 (.slice A log.length c) log.length (rowA log) := own_setCell (pw_own_drewN H.out.ol nq) H.out.ne_l _
  refine (clonedA _ log _ (by omega) O1).mono ?_
  rintro e w3 ⟨v', rfl, ho, hb⟩
  have M1 : Mm ((w.drewN nq).setCell ⟨g, 2, none⟩ (.slice none 0 0)) g vb (.slice none 0 0) s who [] :=
    ⟨blk_put (cs := #[vb, .int .i64 who, .slice A log.length c]) (blk_drewN H.out.blk nq) 2 _ rfl, own_setCell (pw_own_drewN H.out.ob nq) H.out.ne_b _, own_nil _ _ _ _⟩
  have M2 := Aside0.mk (M1.beside hb)
  have U2 := Aside0.mk ((((Upd.refl w (foot g vb (.slice A log.length c))).drewN nq).set (p := ⟨g, 2, none⟩) (.inl (.inl rfl)) (.slice none 0 0)).below hb)
  have O2 := Aside0.mk (own_weaken ho (show w.heap.size ≤ ((w.drewN nq).setCell ⟨g, 2, none⟩ (.slice none 0 0)).heap.size by simp [World.setCell]))
  clear ho hb M1 O1 hne
  go_wp2
  go_ret
  exact ⟨_, rfl, O2.out, M2.out, U2.out⟩
end Go.Proofs.Ytllpfadjdecjiaa.Mem
