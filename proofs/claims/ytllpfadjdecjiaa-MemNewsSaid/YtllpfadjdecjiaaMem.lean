/- A memory: its functions' contracts, by hand, and the laws over them. -/
import Derived.Test.YtllpfadjdecjiaaOwn
import Derived.Test.YtllpfadjdecjiaaMth
import Derived.Test.YtllpfadjdecjiaaShelf
import Derived.Test.YtllpfadjdecjiaaPx5
import Derived.Test.YtllpfadjdecjiaaPx6
import Derived.Laws.Pointers
import Derived.WalkLawsBesides
import Derived.Deep.QuietTactic
import Derived.BigQuiet
import Derived.Deep.RegionWith
import Derived.Deep.RegionLaw
import Derived.Lib.BufferWrite
namespace Go.Proofs.Ytllpfadjdecjiaa.Mem
open Go Go.RowKit Go.Proofs.YtllpfadjdecjiaaW.PrintWords Go.Proofs.YtllpfadjdecjiaaW.PrintLast Go.Proofs.YtllpfadjdecjiaaW.PrintMore Go.Proofs.Ytllpfadjdecjiaa.Own Go.Proofs.Ytllpfadjdecjiaa.P Go.Proofs.Ytllpfadjdecjiaa
set_option linter.unusedVariables false
set_option linter.unusedSimpArgs false
/-! ### A memory -/
abbrev encA (x : S49) : List Value := [.int .i64 x.f0, .int .i64 x.f1, .int .i64 x.f2, .bool x.f3]
abbrev rowA (l : List S49) : List Value := l.flatMap encA
abbrev ptr (g : Nat) : Value := .pointer (some ⟨g, 0, none⟩)
abbrev foot (g : Nat) (vb vl : Value) : Nat → Prop := fun k => k = g ∨ some k = vb.ownBlock ∨ some k = vl.ownBlock
def Fresh (w : World) (v v' : Value) : Prop := v'.ownBlock = v.ownBlock ∨ ∀ b, v'.ownBlock = some b → w.heap.size ≤ b
/-- A memory: block g; the row vb of its bytes s; who; the row vl of what was noted. -/
structure Mm (w : World) (g : Nat) (vb vl : Value) (s : ByteArray) (who : Int) (log : List S49) : Prop where
  blk : w.heap[g]? = some (.cells #[vb, .int .i64 who, vl] 60 (0, 0))
  ob : w.ownsRow 0 5 1 vb s.size (nums .u8 (bytesOf s))
  ol : w.ownsRow 0 49 4 vl log.length (rowA log)
theorem Mm.ne_b {w : World} {g : Nat} {vb vl : Value} {s : ByteArray} {who : Int} {log : List S49} (h : Mm w g vb vl s who log) : some g ≠ vb.ownBlock := own_ne h.ob h.blk (show (5 : Nat) ≠ 60 by decide)
theorem Mm.ne_l {w : World} {g : Nat} {vb vl : Value} {s : ByteArray} {who : Int} {log : List S49} (h : Mm w g vb vl s who log) : some g ≠ vl.ownBlock := own_ne h.ol h.blk (show (49 : Nat) ≠ 60 by decide)
theorem Mm.ne_bl {w : World} {g : Nat} {vb vl : Value} {s : ByteArray} {who : Int} {log : List S49} (h : Mm w g vb vl s who log) : ∀ k, vb.ownBlock = some k → vl.ownBlock ≠ some k := by
  intro k hb hl
  rcases own_type_ne h.ob h.ol (by decide) with q | q
  · rw [q] at hb; cases hb
  · exact q (hb.trans hl.symm)
theorem Mm.upd {w w' : World} {S : Nat → Prop} {g : Nat} {vb vl : Value} {s : ByteArray} {who : Int} {log : List S49} (h : Mm w g vb vl s who log) (u : Upd w w' S) (hg : ¬ S g) (hb : ∀ k, vb.ownBlock = some k → ¬ S k) (hl : ∀ k, vl.ownBlock = some k → ¬ S k) : Mm w' g vb vl s who log :=
  ⟨u.blk h.blk hg, u.own h.ob hb, u.own h.ol hl⟩
theorem Mm.beside {w w' : World} {g : Nat} {vb vl : Value} {s : ByteArray} {who : Int} {log : List S49} (h : Mm w g vb vl s who log) (b : Below w.heap.size w w') : Mm w' g vb vl s who log :=
  ⟨blk_below h.blk b, pw_own_below h.ob b, pw_own_below h.ol b⟩
theorem infoB : (Try.prog.info? 5).map (fun i => (i.zero, i.size, i.bytes)) = some (some (.int .u8 0), 1, 1) := by kernel_rfl
theorem infoA : (Try.prog.info? 49).map (fun i => (i.zero, i.size, i.bytes)) = some (some (.agg #[.int .i64 0, .int .i64 0, .int .i64 0, .bool false]), 4, 32) := by kernel_rfl
def zeros (n : Nat) : ByteArray := Mth.mk (List.replicate n 0)
theorem zeros_size (n : Nat) : (zeros n).size = n := by unfold zeros; rw [Mth.mk_size, List.length_replicate]
theorem zeros_bytes (n : Nat) : bytesOf (zeros n) = List.replicate n 0 := by
  unfold bytesOf zeros Mth.mk
  simp
theorem str_bytes (s : ByteArray) : strOfNums (bytesOf s) = s := by
  rw [Mth.strOfNums_mk]
  apply Mth.B_inj
  rw [Mth.B_mk]
  · unfold bytesOf Mth.B
    rw [List.map_map]
    apply List.map_congr_left
    intro a _
    simp
  · intro x hx
    simp only [bytesOf, List.map_map, List.mem_map] at hx
    obtain ⟨a, _, rfl⟩ := hx
    have := a.toNat_lt
    simpa using this
set_option maxHeartbeats 4000000 in
set_option maxRecDepth 100000 in
theorem New_no (n : Int) (w : World) (h : n < 64 ∨ 1048576 < n) :
    Calls Try.prog 9 #[.int .i64 n] w fun e w' => e = .returned (.tuple #[.pointer none, .int .i64 40]) ∧ w' = w := by
  by_cases h1 : n < 64
  · have b1 : decide (n < 64) = true := decide_eq_true h1
    go_enter Try.func9, Try.ntmps9
    go_wp2
    go_ret2
    exact ⟨rfl, rfl⟩
  · have b1 : decide (n < 64) = false := decide_eq_false h1
    have b2 : decide (1048576 < n) = true := decide_eq_true (by omega)
    go_enter Try.func9, Try.ntmps9
    go_wp2
    go_ret2
    exact ⟨rfl, rfl⟩
set_option maxHeartbeats 4000000 in
set_option maxRecDepth 100000 in
theorem New_ok (n : Nat) (w : World) (h : 64 ≤ n) (h2 : n ≤ 1048576) :
    Calls Try.prog 9 #[.int .i64 (n : Int)] w fun e w' => ∃ g vb, e = .returned (.tuple #[ptr g, .int .i64 0]) ∧ Mm w' g vb (.slice none 0 0) (zeros n) 0 [] ∧ Below w.heap.size w w' ∧ w.heap.size ≤ g ∧ (∀ b, vb.ownBlock = some b → w.heap.size ≤ b) := by
  have b1 : decide ((n : Int) < 64) = false := decide_eq_false (by omega)
  have b2 : decide ((1048576 : Int) < (n : Int)) = false := decide_eq_false (by omega)
  have hu := Try.underlying60
  have hmk := print_make (P := Try.prog) 41 5 .u8 1 Try.underlying41 infoB (by decide) n (by omega)
  go_enter Try.func9, Try.ntmps9
  go_wp2
  go_ret2
  have hnb := blk_new (w.alloc (.cells (madeCells #[.int .u8 0] n) 5)) (.cells #[.slice (some ⟨w.heap.size, 0, none⟩) n n, .int .i64 0, .slice none 0 0] 60)
  rw [World.size_alloc] at hnb
  refine ⟨_, _, rfl, ⟨hnb, ?_, own_nil _ _ _ _⟩, below_alloc (below_alloc (Below.refl _ _) _) _, ?_, ?_⟩
  · rw [zeros_size, zeros_bytes]
    exact World.ownsRow.alloc (own_made w 0 5 .u8 n (Nat.zero_le _) (by omega)) _
  · omega
  · intro b hb
    simp only [Value.ownBlock, Option.some.injEq] at hb
    omega
set_option maxHeartbeats 4000000 in
set_option maxRecDepth 100000 in
theorem May_yes (g : Nat) (vb vl : Value) (s : ByteArray) (who : Int) (log : List S49) (a n : Int) (w : World) (hs : s.size ≤ 1048576) (h0 : 0 ≤ a) (h1 : 0 ≤ n) (h2 : a + n ≤ (s.size : Int)) (h : Mm w g vb vl s who log) :
    Calls Try.prog 22 #[ptr g, .int .i64 a, .int .i64 n] w fun e w' => e = .returned (.bool true) ∧ w' = w := by
  obtain ⟨A, c, rfl⟩ := own_slice h.ob
  have a0 : w.cell? ⟨g, 0, none⟩ = some (.slice A s.size c) := (blk_cell h.blk 0).trans rfl
  clear h
  have d0 : decide (0 ≤ a) = true := decide_eq_true h0
  have d1 : decide (0 ≤ n) = true := decide_eq_true h1
  have d2 : decide (n ≤ (s.size : Int)) = true := decide_eq_true (by omega)
  have e1 : IntKind.i64.wrap ((s.size : Int) - n) = (s.size : Int) - n := by rw [IntKind.wrap_i64]; omega
  have d3 : decide (a ≤ (s.size : Int) - n) = true := decide_eq_true (by omega)
  have hu := Try.underlying60
  have hu2 := Try.underlying41
  go_enter Try.func22, Try.ntmps22
  go_wp2
  go_ret
  exact ⟨rfl, rfl⟩
set_option maxHeartbeats 4000000 in
set_option maxRecDepth 100000 in
theorem May_no (g : Nat) (vb vl : Value) (s : ByteArray) (who : Int) (log : List S49) (a n : Int) (w : World) (hs : s.size ≤ 1048576) (hn : ¬ (0 ≤ a ∧ 0 ≤ n ∧ a + n ≤ (s.size : Int))) (h : Mm w g vb vl s who log) :
    Calls Try.prog 22 #[ptr g, .int .i64 a, .int .i64 n] w fun e w' => e = .returned (.bool false) ∧ w' = w := by
  obtain ⟨A, c, rfl⟩ := own_slice h.ob
  have a0 : w.cell? ⟨g, 0, none⟩ = some (.slice A s.size c) := (blk_cell h.blk 0).trans rfl
  clear h
  have hu := Try.underlying60
  have hu2 := Try.underlying41
  by_cases h0 : 0 ≤ a
  · have d0 : decide (0 ≤ a) = true := decide_eq_true h0
    by_cases h1 : 0 ≤ n
    · have d1 : decide (0 ≤ n) = true := decide_eq_true h1
      by_cases h2 : n ≤ (s.size : Int)
      · have d2 : decide (n ≤ (s.size : Int)) = true := decide_eq_true h2
        have e1 : IntKind.i64.wrap ((s.size : Int) - n) = (s.size : Int) - n := by rw [IntKind.wrap_i64]; omega
        have d3 : decide (a ≤ (s.size : Int) - n) = false := decide_eq_false (by omega)
        go_enter Try.func22, Try.ntmps22
        go_wp2
        go_ret
        exact ⟨rfl, rfl⟩
      · have d2 : decide (n ≤ (s.size : Int)) = false := decide_eq_false h2
        go_enter Try.func22, Try.ntmps22
        go_wp2
        go_ret
        exact ⟨rfl, rfl⟩
    · have d1 : decide (0 ≤ n) = false := decide_eq_false h1
      go_enter Try.func22, Try.ntmps22
      go_wp2
      go_ret
      exact ⟨rfl, rfl⟩
  · have d0 : decide (0 ≤ a) = false := decide_eq_false h0
    go_enter Try.func22, Try.ntmps22
    go_wp2
    go_ret
    exact ⟨rfl, rfl⟩
set_option maxHeartbeats 4000000 in
set_option maxRecDepth 100000 in
theorem Size (g : Nat) (vb vl : Value) (s : ByteArray) (who : Int) (log : List S49) (w : World) (h : Mm w g vb vl s who log) :
    Calls Try.prog 15 #[ptr g] w fun e w' => e = .returned (.int .i64 (s.size : Int)) ∧ w' = w := by
  obtain ⟨A, c, rfl⟩ := own_slice h.ob
  have a0 : w.cell? ⟨g, 0, none⟩ = some (.slice A s.size c) := (blk_cell h.blk 0).trans rfl
  clear h
  have hu := Try.underlying60
  have hu2 := Try.underlying41
  go_enter Try.func15, Try.ntmps15
  go_wp2
  go_ret
  exact ⟨rfl, rfl⟩
set_option maxHeartbeats 4000000 in
set_option maxRecDepth 100000 in
theorem Image (g : Nat) (vb vl : Value) (s : ByteArray) (who : Int) (log : List S49) (w : World) (h : Mm w g vb vl s who log) :
    Calls Try.prog 16 #[ptr g] w fun e w' => e = .returned (.string s) ∧ w' = w := by
  have hcv := own_string (P := Try.prog) Try.underlying41 Try.underlying5 Try.underlying9 h.ob
  rw [str_bytes] at hcv
  obtain ⟨A, c, rfl⟩ := own_slice h.ob
  have a0 : w.cell? ⟨g, 0, none⟩ = some (.slice A s.size c) := (blk_cell h.blk 0).trans rfl
  clear h
  have hu := Try.underlying60
  go_enter Try.func16, Try.ntmps16
  go_wp2
  go_ret
  exact ⟨rfl, rfl⟩
set_option maxHeartbeats 4000000 in
set_option maxRecDepth 100000 in
theorem As (g : Nat) (vb vl : Value) (s : ByteArray) (who : Int) (log : List S49) (who' : Int) (w : World) (h : Mm w g vb vl s who log) :
    Calls Try.prog 21 #[ptr g, .int .i64 who'] w fun e w' => e = .returned (.tuple #[]) ∧ Mm w' g vb vl s who' log ∧ Upd w w' (foot g vb vl) := by
  have a1 : w.cell? ⟨g, 1, none⟩ = some (.int .i64 who) := (blk_cell h.blk 1).trans rfl
  have f1 := blk_frozen h.blk 1
  have H := Aside0.mk h
  clear h
  have hu := Try.underlying60
  go_enter Try.func21, Try.ntmps21
  go_wp2
  first | go_end0 | ((try simp only [Exit.inBlock, Exit.then]); refine bodyPost_ret (results_none rfl _ _ _) rfl ?_)
  refine ⟨rfl, ⟨blk_put (cs := #[vb, .int .i64 who, vl]) H.out.blk 1 _ rfl, own_setCell H.out.ob H.out.ne_b _, own_setCell H.out.ol H.out.ne_l _⟩, (Upd.refl w _).set (.inl (.inl rfl)) _⟩
set_option maxHeartbeats 4000000 in
set_option maxRecDepth 100000 in
theorem note_none (g : Nat) (a : Int) (b : Bool) (w : World) :
    Calls Try.prog 23 #[ptr g, .int .i64 a, .int .i64 0, .bool b] w fun e w' => e = .returned (.tuple #[]) ∧ w' = w := by
  have b1 : ((0 : Int) == 0) = true := rfl
  go_enter Try.func23, Try.ntmps23
  go_wp2
  first | go_end0 | ((try simp only [Exit.inBlock, Exit.then]); refine bodyPost_ret (results_none rfl _ _ _) rfl ?_)
  exact ⟨rfl, rfl⟩
theorem note_mm {w w1 : World} {g : Nat} {vb : Value} {A A1 : Option Addr} {c c1 : Nat} {s : ByteArray} {who : Int} {log : List S49} {x : S49} (h : Mm w g vb (.slice A log.length c) s who log)
    (n1 : w1.heap[g]? = some (.cells #[vb, .int .i64 who, .slice A log.length c] 60 (0, 0))) (o1 : w1.ownsRow 0 49 4 (.slice A1 (log.length + 1) c1) (log.length + 1) (rowA log ++ encA x)) (g1 : w.drew.grownBy w1 (Value.slice A log.length c).ownBlock) :
    Mm (w1.setCell ⟨g, 2, none⟩ (.slice A1 (log.length + 1) c1)) g vb (.slice A1 (log.length + 1) c1) s who (log ++ [x]) := by
  have hob : w1.ownsRow 0 5 1 vb s.size (nums .u8 (bytesOf s)) := by
    refine own_other (own_drew h.ob) g1 ?_
    cases hb : vb.ownBlock with
    | none => exact .inl rfl
    | some k => exact .inr fun e => h.ne_bl k hb e.symm
  refine ⟨blk_put (cs := #[vb, .int .i64 who, .slice A log.length c]) n1 2 _ rfl, own_setCell hob (own_ne hob n1 (show (5 : Nat) ≠ 60 by decide)) _, ?_⟩
  have e1 : (log ++ [x]).length = log.length + 1 := by simp
  have e2 : rowA (log ++ [x]) = rowA log ++ encA x := by simp [rowA]
  rw [e1, e2]
  exact own_setCell o1 (own_ne o1 n1 (show (49 : Nat) ≠ 60 by decide)) _
theorem note_fresh {w : World} {v v1 : Value} (h : v1.ownBlock = v.ownBlock ∨ ∃ b, v1.ownBlock = some b ∧ w.drew.heap.size ≤ b) : Fresh w v v1 := by
  rcases h with h | ⟨b, h, hle⟩
  · exact .inl h
  · exact .inr fun b' hb' => by rw [h] at hb'; injection hb' with hb'; subst hb'; exact hle
set_option maxHeartbeats 4000000 in
set_option maxRecDepth 100000 in
theorem note_one (g : Nat) (vb vl : Value) (s : ByteArray) (who : Int) (log : List S49) (a n : Int) (b : Bool) (w : World) (hn : n ≠ 0) (hl : log.length ≤ 8000) (h : Mm w g vb vl s who log) :
    Calls Try.prog 23 #[ptr g, .int .i64 a, .int .i64 n, .bool b] w fun e w' => e = .returned (.tuple #[]) ∧ ∃ vl', Mm w' g vb vl' s who (log ++ [⟨who, a, n, b⟩]) ∧ Upd w w' (foot g vb vl) ∧ Fresh w vl vl' := by
  obtain ⟨A, c, rfl⟩ := own_slice h.ol
  have a1 : w.cell? ⟨g, 1, none⟩ = some (.int .i64 who) := (blk_cell h.blk 1).trans rfl
  have a2 : w.cell? ⟨g, 2, none⟩ = some (.slice A log.length c) := (blk_cell h.blk 2).trans rfl
  have a3 : ∀ o, (w.alloc o).cell? ⟨g, 1, none⟩ = some (.int .i64 who) := fun o => (blk_cell (blk_alloc h.blk o) 1).trans rfl
  have a4 : ∀ o, (w.alloc o).cell? ⟨g, 2, none⟩ = some (.slice A log.length c) := fun o => (blk_cell (blk_alloc h.blk o) 2).trans rfl
  have H := Aside0.mk h
  clear h
  have d8 : decide ((8192 : Int) < ((log.length + 1 : Nat) : Int)) = false := decide_eq_false (by omega)
  have d9 : decide ((8192 : Int) < (log.length : Int) + 1) = false := decide_eq_false (by omega)
  have b1 : (n == 0) = false := beq_eq_false_iff_ne.mpr hn
  have hu := Try.underlying60
  have hu2 := Try.underlying45
  have hu3 := Try.underlying49
  go_enter Try.func23, Try.ntmps23
  go_wp2
  go_region_law (refine step_append_cells (w0 := w) (W := w.drew) 0 rfl (.tmp 14) (.tmp 23) 45 49 (.agg #[.int .i64 0, .int .i64 0, .int .i64 0, .bool false]) 4 32 rfl Try.underlying45 infoA rfl (by decide) (by decide) (.slice A log.length c) log.length (rowA log) (encA ⟨who, a, n, b⟩) rfl rfl rfl (by intro u hu; simp at hu; rcases hu with rfl | rfl | rfl | rfl <;> rfl) (own_drew H.out.ol) (below_drew1 (Below.refl 0 w)) (Nat.zero_le _) (by omega) ?_; intro v1 w1 ho1 hb1 hg1 hf1; obtain ⟨A1, c1, rfl⟩ := own_slice ho1; have N1 := Aside0.mk (blk_grown (blk_drew H.out.blk) hg1 H.out.ne_l); have hc1 : w1.cell? ⟨g, 2, none⟩ = some (.slice A log.length c) := (blk_cell N1.out 2).trans rfl; have hz1 := blk_frozen N1.out 2; have HO1 := Aside0.mk ho1; have HG1 := Aside0.mk hg1; have HF1 := Aside0.mk hf1; clear ho1 hb1 hg1 hf1)
  all_goals go_wp2
  all_goals first | go_end0 | ((try simp only [Exit.inBlock, Exit.then]); refine bodyPost_ret (results_none rfl _ _ _) rfl ?_)
  all_goals exact ⟨rfl, .slice A1 (log.length + 1) c1, note_mm H.out N1.out HO1.out HG1.out, (((Upd.refl w _).drew).grown HG1.out (fun k hk => .inl (.inr (.inr hk.symm)))).set (.inl (.inl rfl)) _, note_fresh HF1.out⟩
end Go.Proofs.Ytllpfadjdecjiaa.Mem
