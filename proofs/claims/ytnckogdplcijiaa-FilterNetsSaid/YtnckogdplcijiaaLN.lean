/- Filters: contracts by hand, and the laws over them. -/
import Derived.Test.YtnckogdplcijiaaOwn
import Derived.Test.YtnckogdplcijiaaLT
import Derived.Test.YtnckogdplcijiaaFN
import Derived.Test.YtnckogdplcijiaaWVal
namespace Go.Proofs.Ytnckogdplcijiaa.Fl
open Go Go.RowKit Go.Proofs.YtnckogdplcijiaaW.PrintWords Go.Proofs.YtnckogdplcijiaaW.PrintLast Go.Proofs.YtnckogdplcijiaaW.PrintMore Go.Proofs.Ytnckogdplcijiaa.Mth Go.Proofs.Ytnckogdplcijiaa.P Go.Proofs.Ytnckogdplcijiaa.Own Go.Proofs
set_option linter.unusedVariables false
set_option linter.unusedSimpArgs false
/-! ### The plain laws of FilterNets -/
theorem del_len {n : Int} : ∀ {l : List Int}, l.Pairwise (· < ·) → n ∈ l → (delS n l).length + 1 = l.length
  | [], _, h => absurd h (by simp)
  | a :: r, hp, h => by
    obtain ⟨ha, hr⟩ := List.pairwise_cons.1 hp
    unfold delS
    by_cases e : a = n
    · subst e
      rw [List.filter_cons_of_neg (by simp), List.filter_eq_self.2 (fun x hx => by have := ha x hx; simp; omega), List.length_cons]
    · rw [List.filter_cons_of_pos (by simp [e]), List.length_cons, List.length_cons]
      have := del_len hr ((List.mem_cons.1 h).resolve_left (fun q => e q.symm))
      unfold delS at this
      omega
theorem del_ins_len {n : Int} {vs : List Int} (h : netsS vs = true) : ((delS n (insS n vs)).length : Int) = (insS n vs).length - 1 := by
  have := del_len (n := n) (ins_rise (nets_iff.1 h).1) (ins_mem.2 (.inl rfl))
  omega
def onF (F : Flt) : Flt := { F with b1 := true, b9 := true }
theorem onF_fv {w : World} {F : Flt} {S : Sl} (h : FV w F S) : FV w (onF F) S := ⟨h.r7, h.r8, h.r10, h.l7, h.l8, h.l10⟩
abbrev two (n : Int) : ByteArray := ⟨#[UInt8.ofNat (n / 256).toNat, UInt8.ofNat (n % 256).toNat]⟩
abbrev sent (n : Int) (body : ByteArray) : ByteArray := (((⟨#[65, 66, 67, 68, 69, 70, 71, 72, 73, 74, 75, 76, 129, 0]⟩ : ByteArray) ++ two n) ++ (⟨#[8, 0]⟩ : ByteArray)) ++ body
theorem parse_sent {n : Int} {c : ByteArray} (h0 : 0 ≤ n) (h1 : n ≤ 4094) (hc : c.size ≤ 500) : (parseS (B (sent n c))).e = 0 ∧ (parseS (B (sent n c))).v = n := by
  obtain ⟨k, rfl⟩ : ∃ k : Nat, n = (k : Int) := ⟨n.toNat, by omega⟩
  have hk : k ≤ 4094 := by omega
  have q1 : ((k : Int) / 256).toNat = k / 256 := by omega
  have q2 : ((k : Int) % 256).toNat = k % 256 := by omega
  have e : B (sent (k : Int) c) = [65, 66, 67, 68, 69, 70, 71, 72, 73, 74, 75, 76, 129, 0, k / 256, k % 256, 8, 0] ++ B c := by
    unfold sent two
    rw [B_append, B_append, B_append, q1, q2]
    have t : B (⟨#[UInt8.ofNat (k / 256), UInt8.ofNat (k % 256)]⟩ : ByteArray) = [k / 256, k % 256] := by
      show [(UInt8.ofNat (k / 256)).toNat, (UInt8.ofNat (k % 256)).toNat] = _
      rw [UInt8.toNat_ofNat', UInt8.toNat_ofNat', Nat.mod_eq_of_lt (by omega), Nat.mod_eq_of_lt (by omega)]
    rw [t]
    rfl
  have lc : (B c).length = c.size := B_length c
  rw [e]
  have hlen : ([65, 66, 67, 68, 69, 70, 71, 72, 73, 74, 75, 76, 129, 0, k / 256, k % 256, 8, 0] ++ B c).length = 18 + c.size := by rw [List.length_append, lc]; rfl
  have n12 : n2 ([65, 66, 67, 68, 69, 70, 71, 72, 73, 74, 75, 76, 129, 0, k / 256, k % 256, 8, 0] ++ B c) 12 = 33024 := by unfold n2; simp
  have n14 : n2 ([65, 66, 67, 68, 69, 70, 71, 72, 73, 74, 75, 76, 129, 0, k / 256, k % 256, 8, 0] ++ B c) 14 = k := by unfold n2; simp; omega
  have n16 : n2 ([65, 66, 67, 68, 69, 70, 71, 72, 73, 74, 75, 76, 129, 0, k / 256, k % 256, 8, 0] ++ B c) 16 = 2048 := by unfold n2; simp
  unfold parseS
  rw [hlen, n12, n14, n16, if_neg (by omega), if_neg (by omega), if_pos rfl, if_neg (by omega), if_neg (by rintro (h | h | h); omega; omega; revert h; decide)]
  refine ⟨rfl, ?_⟩
  show ((k % 4096 : Nat) : Int) = (k : Int)
  omega
theorem adm_sent {F : Flt} {n : Int} {c : ByteArray} (h0 : 0 ≤ n) (h1 : n ≤ 4094) (hc : c.size ≤ 500) : adm (onF F) (sent n c) = F.vs.contains n := by
  unfold adm admitsS
  rw [(parse_sent h0 h1 hc).1, (parse_sent h0 h1 hc).2]
  show (((0 : Int) == 0) && !(true && decide (0 ≤ n) && !F.vs.contains n) && (true || _)) = _
  rw [decide_eq_true h0]
  simp
theorem sent_in {F X : Flt} {n : Int} {c : ByteArray} (hX : insF n F = X) (h0 : 0 ≤ n) (h1 : n ≤ 4094) (hc : c.size ≤ 500) : adm (onF X) (sent n c) = true := by
  rw [adm_sent h0 h1 hc, ← hX]
  exact List.contains_iff_mem.2 (ins_mem.2 (.inl rfl))
theorem sent_out {F X : Flt} {n : Int} {c : ByteArray} (hX : delF n F = X) (h0 : 0 ≤ n) (h1 : n ≤ 4094) (hc : c.size ≤ 500) : adm (onF X) (sent n c) = false := by
  rw [adm_sent h0 h1 hc, ← hX, Bool.eq_false_iff]
  intro q
  exact (del_mem.1 (List.contains_iff_mem.1 q)).2 rfl
theorem has_ins {F X : Flt} {n : Int} (hX : insF n F = X) {i : Nat} (hi : i < F.vs.length) : X.vs.contains (F.vs.getD i 0) = true := by
  rw [← hX]
  refine List.contains_iff_mem.2 (ins_mem.2 (.inr ?_))
  rw [List.getD_eq_getElem?_getD, List.getElem?_eq_getElem hi]
  exact List.getElem_mem hi
theorem has_del {F X D : Flt} {n : Int} (hX : insF n F = X) (hD : delF n X = D) {i : Nat} (hi : i < F.vs.length) (hne : F.vs.getD i 0 ≠ n) : D.vs.contains (F.vs.getD i 0) = true := by
  rw [← hD]
  exact List.contains_iff_mem.2 (del_mem.2 ⟨List.contains_iff_mem.1 (has_ins hX hi), hne⟩)
theorem adm_onf {X : Flt} {SX : Sl} {b : Bool} (s : ByteArray) (w : World) (hb : adm (onF X) s = b) (h : FV w X SX) (hs : Small X) : Calls Try.prog 13 #[.agg #[.string X.m, .bool true, .bool X.b2, .bool X.b3, .bool X.b4, .bool X.b5, .bool X.b6, .slice SX.A7 X.us.length SX.c7, .slice SX.A8 X.ms.length SX.c8, .bool true, .slice SX.A10 X.vs.length SX.c10], .string s] w fun e w' => e = .returned (.bool b) ∧ Below w.heap.size w w' :=
  adm_at (onF X) SX s w hb (onF_fv h) hs
theorem net_true {A : Option Addr} {c : Nat} {l : List Int} {x : Int} (w : World) (hx : l.contains x = true) (hr : ReadsOf (Value.int .i64) 0 w A l.length l) (hc : l.length ≤ c) (hs : l.length ≤ 100000) :
    Calls Try.prog 20 #[.slice A l.length c, .int .i64 x] w fun e w' => e = .returned (.bool true) ∧ Below w.heap.size w w' :=
  (net_at A c l x w hr hc hs).mono fun _ _ h => ⟨by rw [h.1, hx], h.2⟩
theorem del_zero (n : Int) (w : World) (h0 : 0 ≤ n) (h1 : n ≤ 4094) : Calls Try.prog 18 #[.agg zeroF, .int .i64 n] w fun e w' => ∃ X S', e = .returned (.tuple #[.agg (cellsF X S'), .int .i64 0]) ∧ Below w.heap.size w w' :=
  (del_f ⟨⟨#[]⟩, false, false, false, false, false, false, [], [], false, []⟩ ⟨none, 0, none, 0, none, 0⟩ n w ⟨⟨rfl, Nat.zero_le _, fun h => absurd h (Nat.lt_irrefl _)⟩, ⟨rfl, Nat.zero_le _, fun h => absurd h (Nat.lt_irrefl _)⟩, ⟨rfl, Nat.zero_le _, fun h => absurd h (Nat.lt_irrefl _)⟩, Nat.le_refl _, Nat.le_refl _, Nat.le_refl _⟩ ⟨Nat.zero_le _, Nat.zero_le _, Nat.zero_le _⟩ (argS_iff.2 ⟨⟨h0, h1⟩, rfl⟩)).mono fun _ _ ⟨S', h⟩ => ⟨_, S', h.1, h.2.2⟩
theorem two_cells (w : World) (x y : Int) (i : Nat) (hi : i < 2) : (w.alloc (.cells #[.int .u8 x, .int .u8 y] 5)).drew.cell? ⟨w.heap.size, 0 + i, none⟩ = some (.int .u8 ([x, y].getD i 0)) := by
  have h : (w.alloc (.cells #[.int .u8 x, .int .u8 y] 5)).drew.heap[w.heap.size]? = some (.cells #[.int .u8 x, .int .u8 y] 5 (0, 0)) := blk_new w _
  match i, hi with
  | 0, _ => exact (blk_cell h 0).trans rfl
  | 1, _ => exact (blk_cell h 1).trans rfl
theorem strOfNums_two {n : Int} (h0 : 0 ≤ n) (h1 : n ≤ 4094) : strOfNums [IntKind.u8.wrap (n / 256), IntKind.u8.wrap n] = two n := by
  have e1 : IntKind.u8.wrap (n / 256) = n / 256 := by rw [IntKind.wrap_u8]; omega
  have e2 : IntKind.u8.wrap n = n % 256 := by rw [IntKind.wrap_u8]
  rw [e1, e2]
  rfl
theorem May.vs {j : Nat} {F : Flt} (h : May j F) (hj : j ≤ 1000) : F.vs.length ≤ 100000 := (h.small hj).2.2
end Go.Proofs.Ytnckogdplcijiaa.Fl
