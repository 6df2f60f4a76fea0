/- A memory: its functions' contracts, by hand, and the laws over them. -/
import Derived.Test.YtllpfadjdecjiaaMem
import Derived.Laws.Pointers
import Derived.WalkLawsBesides
import Derived.Deep.QuietTactic
import Derived.BigQuiet
import Derived.Deep.RegionWith
import Derived.Deep.RegionLaw
import Derived.Lib.BufferWrite
namespace Go.Proofs.Ytllpfadjdecjiaa.Mem
open Go Go.RowKit Go.Proofs.YtllpfadjdecjiaaW.PrintWords Go.Proofs.YtllpfadjdecjiaaW.PrintLast Go.Proofs.YtllpfadjdecjiaaW.PrintMore Go.Proofs.Ytllpfadjdecjiaa.Own Go.Proofs.Ytllpfadjdecjiaa.P Go.Proofs.Ytllpfadjdecjiaa
set_option linter.unusedVariables false
set_option linter.unusedSimpArgs false
def noted (log : List S49) (who a n : Int) (b : Bool) : List S49 := if n = 0 then log else log ++ [⟨who, a, n, b⟩]
theorem noted_len (log : List S49) (who a n : Int) (b : Bool) : (noted log who a n b).length ≤ log.length + 1 := by
  unfold noted; split <;> simp
theorem note (g : Nat) (vb vl : Value) (s : ByteArray) (who : Int) (log : List S49) (a n : Int) (b : Bool) (w : World) (hl : log.length ≤ 8000) (h : Mm w g vb vl s who log) :
    Calls Try.prog 23 #[ptr g, .int .i64 a, .int .i64 n, .bool b] w fun e w' => e = .returned (.tuple #[]) ∧ ∃ vl', Mm w' g vb vl' s who (noted log who a n b) ∧ Upd w w' (foot g vb vl) ∧ Fresh w vl vl' := by
  by_cases hn : n = 0
  · subst hn
    refine (note_none g a b w).mono ?_
    rintro e w' ⟨rfl, rfl⟩
    exact ⟨rfl, vl, by unfold noted; rw [if_pos rfl]; exact h, Upd.refl _ _, .inl rfl⟩
  · unfold noted
    rw [if_neg hn]
    exact note_one g vb vl s who log a n b w hn hl h
theorem own_some {w : World} {v : Value} {n : Nat} {cs : List Value} {e : TypeId} (h : w.ownsRow 0 e 1 v n cs) (hn : n ≠ 0) : ∃ b c cur, v = .slice (some ⟨b, 0, none⟩) n c ∧ n ≤ c ∧ c ≤ 9223372036854775807 ∧ w.heap[b]? = some (.cells cur e (0, 0)) ∧ cur.size = c ∧ cur.toList.take n = cs ∧ ∀ j, j < n → w.cell? ⟨b, j, none⟩ = cs[j]? := by
  rcases h.2 with ⟨rfl, h0⟩ | ⟨b, cap, cur, rfl, h1, h2, h3, h4, h5, h6⟩
  · exact absurd h0 hn
  · exact ⟨b, cap, cur, rfl, h3, by simpa [maxLen] using h4, h2, by simpa using h5, by simpa using h6, fun j hj => h.cellAt j (by omega)⟩
theorem bytes_ext (s : ByteArray) (a n : Nat) : bytesOf (s.extract a (a + n)) = ((bytesOf s).drop a).take n := by
  unfold bytesOf
  rw [ByteArray.data_extract, Array.toList_extract, List.extract_eq_take_drop, ← List.map_drop, ← List.map_take]
  simp
theorem bytes_getD (s : ByteArray) (a n i : Nat) (hi : i < n) (h : a + n ≤ s.size) : (nums .u8 (bytesOf s))[a + i]? = some (.int .u8 ((bytesOf (s.extract a (a + n))).getD i 0)) := by
  rw [bytes_ext]
  have hl := bytesOf_length s
  unfold nums
  rw [List.getElem?_map, List.getElem?_eq_getElem (by omega)]
  simp [List.getD_eq_getElem?_getD, List.getElem?_take, hi, List.getElem?_drop]
  rw [List.getElem?_eq_getElem (by omega)]
  rfl
set_option maxHeartbeats 4000000 in
set_option maxRecDepth 100000 in
theorem Read_ok (g : Nat) (vb vl : Value) (s : ByteArray) (who : Int) (log : List S49) (a n : Nat) (w : World) (hz : 64 ≤ s.size) (hs : s.size ≤ 1048576) (han : a + n ≤ s.size) (hl : log.length ≤ 8000) (h : Mm w g vb vl s who log) :
    Calls Try.prog 11 #[ptr g, .int .i64 (a : Int), .int .i64 (n : Int)] w fun e w' => e = .returned (.tuple #[.string (s.extract a (a + n)), .int .i64 0]) ∧ ∃ vl', Mm w' g vb vl' s who (noted log who a n false) ∧ Upd w w' (foot g vb vl) ∧ Fresh w vl vl' := by
  have C1 := May_yes g vb vl s who log a n w hs (by omega) (by omega) (by omega) h
  have C2 := note g vb vl s who log a n false w hl h
  have D1 := Aside0.mk C1
  have D2 := Aside0.mk C2
  clear C1 C2
  obtain ⟨b, c, cur, rfl, hc, hc63, -, -, -, -⟩ := own_some h.ob (by omega)
  have b1 : decide ((n : Int) < 0) = false := decide_eq_false (by omega)
  have wr_ : IntKind.i64.wrap ((a : Int) + (n : Int)) = ((a + n : Nat) : Int) := by rw [IntKind.wrap_i64]; omega
  have s1 : decide ((a : Int) ≤ ((a + n : Nat) : Int)) = true := decide_eq_true (by omega)
  have s2 : decide (((a + n : Nat) : Int) ≤ (c : Int)) = true := decide_eq_true (by omega)
  have s3 : decide (0 ≤ (a : Int)) = true := decide_eq_true (by omega)
  have hu := Try.underlying60
  have hu2 := Try.underlying41
  have H := Aside0.mk h
  clear h
  go_enter Try.func11, Try.ntmps11
  go_wp2_with fail
  refine D1.out.mono ?_
  rintro e w1 ⟨rfl, rfl⟩
  go_wp2_with fail
  refine D2.out.mono ?_
  rintro e w2 ⟨rfl, vl', h2, u2, f2⟩
  obtain ⟨b', c', cur', hv', -, -, -, -, -, hcell⟩ := own_some h2.ob (by omega)
  simp only [Value.slice.injEq, Option.some.injEq, Addr.mk.injEq, and_true, true_and] at hv'
  obtain ⟨rfl, rfl⟩ := hv'
  have a0 : w2.cell? ⟨g, 0, none⟩ = some (.slice (some ⟨b, 0, none⟩) s.size c) := (blk_cell h2.blk 0).trans rfl
  have hcv := run_convert_bytes_arg (P := Try.prog) (w := w2) 41 5 Try.underlying41 Try.underlying5 b a n (c - a) (bytesOf (s.extract a (a + n))) (by rw [bytesOf_length, ByteArray.size_extract]; omega) (fun i hi => by rw [hcell _ (by omega)]; exact bytes_getD s a n i hi han) 9 Try.underlying9
  rw [str_bytes] at hcv
  have H2 := Aside0.mk h2
  have U2 := Aside0.mk u2
  have F2 := Aside0.mk f2
  clear h2 u2 f2 D1 D2 hcell
  by_cases hca : c - a = 0
  · obtain rfl : n = 0 := by omega
    have hcv0 := run_convert_bytes_arg (P := Try.prog) (w := w2) 41 5 Try.underlying41 Try.underlying5 b 0 0 0 (bytesOf (s.extract a (a + 0))) (by rw [bytesOf_length, ByteArray.size_extract]; omega) (fun i hi => by omega) 9 Try.underlying9
    rw [str_bytes] at hcv0
    have e0 : s.extract a (a + 0) = ByteArray.empty := by
      apply Mth.B_inj
      rw [Mth.B_extract]
      simp [Mth.B]
    rw [e0] at hcv0
    go_wp2
    go_ret2
    exact ⟨by rw [e0]; rfl, vl', H2.out, U2.out, F2.out⟩
  · go_wp2
    go_ret2
    exact ⟨rfl, vl', H2.out, U2.out, F2.out⟩
set_option maxHeartbeats 4000000 in
set_option maxRecDepth 100000 in
theorem Read_neg (g : Nat) (a n : Int) (w : World) (hn : n < 0) :
    Calls Try.prog 11 #[ptr g, .int .i64 a, .int .i64 n] w fun e w' => e = .returned (.tuple #[.string ⟨#[]⟩, .int .i64 1]) ∧ w' = w := by
  have b1 : decide (n < 0) = true := decide_eq_true hn
  go_enter Try.func11, Try.ntmps11
  go_wp2
  go_ret2
  exact ⟨rfl, rfl⟩
set_option maxHeartbeats 4000000 in
set_option maxRecDepth 100000 in
theorem Read_no (g : Nat) (vb vl : Value) (s : ByteArray) (who : Int) (log : List S49) (a n : Int) (w : World) (hs : s.size ≤ 1048576) (h0 : 0 ≤ n) (hn : ¬ (0 ≤ a ∧ a + n ≤ (s.size : Int))) (h : Mm w g vb vl s who log) :
    Calls Try.prog 11 #[ptr g, .int .i64 a, .int .i64 n] w fun e w' => e = .returned (.tuple #[.string ⟨#[]⟩, .int .i64 41]) ∧ w' = w := by
  have D1 := Aside0.mk (May_no g vb vl s who log a n w hs (by omega) h)
  clear h
  have b1 : decide (n < 0) = false := decide_eq_false (by omega)
  go_enter Try.func11, Try.ntmps11
  go_wp2_with fail
  refine D1.out.mono ?_
  rintro e w1 ⟨rfl, rfl⟩
  go_wp2
  go_ret2
  exact ⟨rfl, rfl⟩
/-- Bytes s with t written over it from place a on. -/
def over (s t : ByteArray) (a : Nat) : ByteArray := Mth.mk ((Mth.B s).take a ++ Mth.B t ++ (Mth.B s).drop (a + t.size))
theorem over_B (s t : ByteArray) (a : Nat) : Mth.B (over s t a) = (Mth.B s).take a ++ Mth.B t ++ (Mth.B s).drop (a + t.size) :=
  Mth.B_mk (((Mth.B_bt s).take a).append (Mth.B_bt t) |>.append ((Mth.B_bt s).drop _))
theorem over_size (s t : ByteArray) (a : Nat) (h : a + t.size ≤ s.size) : (over s t a).size = s.size := by
  rw [← Mth.B_length, over_B]
  simp only [List.length_append, List.length_take, List.length_drop, Mth.B_length]
  omega
theorem bytesOf_B (s : ByteArray) : bytesOf s = (Mth.B s).map fun (x : Nat) => (x : Int) := by
  unfold bytesOf Mth.B
  rw [List.map_map]
  rfl
theorem over_empty (s t : ByteArray) (a : Nat) (h : t.size = 0) (ha : a ≤ s.size) : over s t a = s := by
  apply Mth.B_inj
  have e : Mth.B t = [] := List.eq_nil_of_length_eq_zero (by rw [Mth.B_length]; exact h)
  rw [over_B, e, h, List.append_nil, Nat.add_zero, List.take_append_drop]
theorem cells_over (s t : ByteArray) (a : Nat) (cur : Array Value) (h : a + t.size ≤ s.size) (hc : s.size ≤ cur.size) (hcur : cur.toList.take s.size = nums .u8 (bytesOf s)) :
    (cur.toList.take a ++ Lib.byteCells t.data.toList ++ cur.toList.drop (a + t.size)).take s.size = nums .u8 (bytesOf (over s t a)) := by
  have e1 : Lib.byteCells t.data.toList = nums .u8 (bytesOf t) := by simp [Lib.byteCells, nums, bytesOf, List.map_map]
  have hn : ∀ l : List Nat, nums .u8 (l.map fun (x : Nat) => (x : Int)) = l.map fun (x : Nat) => Value.int .u8 x := by intro l; simp [nums, List.map_map]
  rw [e1]
  simp only [bytesOf_B, hn] at hcur ⊢
  rw [over_B]
  simp only [List.map_append, List.map_take, List.map_drop]
  rw [← hcur]
  have lt : (Mth.B t).length = t.size := Mth.B_length t
  have q1 : (cur.toList.take a).length = a := by rw [List.length_take, Array.length_toList]; omega
  have q2 : ((Mth.B t).map fun (x : Nat) => Value.int .u8 x).length = t.size := by rw [List.length_map, lt]
  have q3 : (cur.toList.take a ++ (Mth.B t).map fun (x : Nat) => Value.int .u8 x).length = a + t.size := by rw [List.length_append, q1, q2]
  rw [List.take_append, List.take_of_length_le (by rw [q3]; omega), q3, List.drop_take, List.take_take, show min a s.size = a from by omega]
end Go.Proofs.Ytllpfadjdecjiaa.Mem
