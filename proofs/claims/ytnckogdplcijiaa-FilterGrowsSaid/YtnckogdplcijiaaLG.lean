/- Filters: contracts by hand, and the laws over them. -/
import Derived.Test.YtnckogdplcijiaaOwn
import Derived.Test.YtnckogdplcijiaaFF
import Derived.Test.YtnckogdplcijiaaLT
import Derived.Test.YtnckogdplcijiaaWApp
namespace Go.Proofs.Ytnckogdplcijiaa.Fl
open Go Go.RowKit Go.Proofs.YtnckogdplcijiaaW.PrintWords Go.Proofs.YtnckogdplcijiaaW.PrintLast Go.Proofs.YtnckogdplcijiaaW.PrintMore Go.Proofs.Ytnckogdplcijiaa.Mth Go.Proofs.Ytnckogdplcijiaa.P Go.Proofs.Ytnckogdplcijiaa.Own Go.Proofs
set_option linter.unusedVariables false
set_option linter.unusedSimpArgs false
/-! ### The plain laws of FilterGrows -/
theorem takes_uni {m : ByteArray} {b2 b3 b4 b5 b6 : Bool} {us ms : List ByteArray} {d x : ByteArray} (h : takes m b2 b3 b4 b5 b6 us ms d = true) : takes m b2 b3 b4 b5 b6 (us ++ [x]) ms d = true := by
  unfold takes at h ⊢
  by_cases h3 : kindB d = 3
  · rw [if_pos h3] at h ⊢; exact h
  · rw [if_neg h3] at h ⊢
    by_cases h2 : kindB d = 2
    · rw [if_pos h2] at h ⊢; exact h
    · rw [if_neg h2] at h ⊢
      unfold hasS at h ⊢
      rw [List.any_append]
      revert h
      cases b2 <;> cases b4 <;> cases (d.toList == m.toList) <;> cases (us.any fun x => x.toList == d.toList) <;> simp
theorem takes_multi {m : ByteArray} {b2 b3 b4 b5 b6 : Bool} {us ms : List ByteArray} {d x : ByteArray} (h : takes m b2 b3 b4 b5 b6 us ms d = true) : takes m b2 b3 b4 b5 b6 us (ms ++ [x]) d = true := by
  unfold takes at h ⊢
  by_cases h3 : kindB d = 3
  · rw [if_pos h3] at h ⊢; exact h
  · rw [if_neg h3] at h ⊢
    by_cases h2 : kindB d = 2
    · rw [if_pos h2] at h ⊢
      unfold hasS at h ⊢
      rw [List.any_append]
      revert h
      cases b3 <;> cases b5 <;> cases (ms.any fun x => x.toList == d.toList) <;> simp
    · rw [if_neg h2] at h ⊢; exact h
theorem takes_all {m : ByteArray} {b2 b3 b4 b5 b6 : Bool} {us ms : List ByteArray} {d : ByteArray} (h : takes m b2 b3 b4 b5 b6 us ms d = true) : takes m true b3 b4 b5 b6 us ms d = true ∧ takes m b2 true b4 b5 b6 us ms d = true := by
  unfold takes at h ⊢
  by_cases h3 : kindB d = 3
  · rw [if_pos h3] at h; rw [if_pos h3, if_pos h3]; exact ⟨h, h⟩
  · rw [if_neg h3] at h; rw [if_neg h3, if_neg h3]
    by_cases h2 : kindB d = 2
    · rw [if_pos h2] at h; rw [if_pos h2, if_pos h2]; exact ⟨h, rfl⟩
    · rw [if_neg h2] at h; rw [if_neg h2, if_neg h2]; exact ⟨rfl, h⟩
/-- The six filters that take more. -/
def growF (F : Flt) (mac : ByteArray) : Nat → Flt
  | 0 => { F with b1 := true }
  | 1 => { F with b2 := true }
  | 2 => { F with b3 := true }
  | 3 => { F with us := F.us ++ [mac] }
  | 4 => { F with ms := F.ms ++ [mac] }
  | _ => { F with b9 := false }
theorem grow_adm {F : Flt} {s : ByteArray} (mac : ByteArray) (h : adm F s = true) (j : Nat) : adm (growF F mac j) s = true := by
  unfold adm admitsS at h
  simp only [Bool.and_eq_true, Bool.or_eq_true] at h
  obtain ⟨⟨h1, h2⟩, h3⟩ := h
  have go : ∀ {b1 b9 : Bool} {t : Bool}, (b1 = true ∨ t = true) → (!(b9 && decide (0 ≤ (parseS (B s)).v) && !F.vs.contains (parseS (B s)).v)) = true → ((parseS (B s)).e == 0 && !(b9 && decide (0 ≤ (parseS (B s)).v) && !F.vs.contains (parseS (B s)).v) && (b1 || t)) = true := by
    intro b1 b9 t q r
    rw [h1, r, Bool.true_and, Bool.true_and, Bool.or_eq_true]; exact q
  match j with
  | 0 => exact go (.inl rfl) h2
  | 1 => exact go (h3.imp id fun q => (takes_all q).1) h2
  | 2 => exact go (h3.imp id fun q => (takes_all q).2) h2
  | 3 => exact go (h3.imp id fun q => takes_uni q) h2
  | 4 => exact go (h3.imp id fun q => takes_multi q) h2
  | j + 5 => exact go h3 rfl
theorem infoG : (Try.prog.info? 9).map (fun i => (i.zero, i.size, i.bytes)) = some (some (.string ByteArray.empty), 1, 16) := by kernel_rfl
theorem own_empty9 (w : World) (b : Nat) (hb : b ≤ w.heap.size) : (w.alloc (.cells #[] 9)).ownsRow b 9 1 (.slice (some ⟨w.heap.size, 0, none⟩) 0 0) ([] : List ByteArray).length (encs Value.string []) :=
  own_lit_of (enc := Value.string) w b 9 [] hb (by decide)
/-- A list of texts of its own. -/
structure R9 (base : Nat) (w : World) (A : Option Addr) (c : Nat) (l : List ByteArray) : Prop where
  own : w.ownsRow base 9 1 (.slice A l.length c) l.length (encs Value.string l)
theorem R9.below {base : Nat} {w w' : World} {A : Option Addr} {c : Nat} {l : List ByteArray} (h : R9 base w A c l) (hb : Below w.heap.size w w') : R9 base w' A c l := ⟨pw_own_below h.own hb⟩
theorem R9.box {base g : Nat} {w w' : World} {A : Option Addr} {c : Nat} {l : List ByteArray} {cs : Array Value} (h : R9 base w A c l) (hg : w.heap[g]? = some (.cells cs 25 (0, 0))) (u : Upd w w' (fun k => k = g)) : R9 base w' A c l :=
  ⟨u.own h.own (fun k hk e => own_ne h.own hg (by decide) (by rw [hk, ← e]))⟩
theorem grow_fv {w : World} {F : Flt} {S : Sl} (mac : ByteArray) (h : FV w F S) : FV w (growF F mac 0) S ∧ FV w (growF F mac 1) S ∧ FV w (growF F mac 2) S ∧ FV w (growF F mac 5) S :=
  ⟨⟨h.r7, h.r8, h.r10, h.l7, h.l8, h.l10⟩, ⟨h.r7, h.r8, h.r10, h.l7, h.l8, h.l10⟩, ⟨h.r7, h.r8, h.r10, h.l7, h.l8, h.l10⟩, ⟨h.r7, h.r8, h.r10, h.l7, h.l8, h.l10⟩⟩
theorem grow_fv3 {w : World} {F : Flt} {S : Sl} {base c : Nat} {A : Option Addr} {mac : ByteArray} (h : FV w F S) (r : R9 base w A c (F.us ++ [mac])) : FV w (growF F mac 3) ⟨A, c, S.A8, S.c8, S.A10, S.c10⟩ :=
  ⟨own_reads_of' r.own, h.r8, h.r10, own_cap r.own, h.l8, h.l10⟩
theorem grow_fv4 {w : World} {F : Flt} {S : Sl} {base c : Nat} {A : Option Addr} {mac : ByteArray} (h : FV w F S) (r : R9 base w A c (F.ms ++ [mac])) : FV w (growF F mac 4) ⟨S.A7, S.c7, A, c, S.A10, S.c10⟩ :=
  ⟨h.r7, own_reads_of' r.own, h.r10, h.l7, own_cap r.own, h.l10⟩
theorem grow_small (F : Flt) (mac : ByteArray) (j : Nat) : Small (growF (boundF F) mac j) := by
  have h7 : (boundF F).us.length ≤ 20 := by show (F.us.take 20).length ≤ 20; rw [List.length_take]; omega
  have h8 : (boundF F).ms.length ≤ 20 := by show (F.ms.take 20).length ≤ 20; rw [List.length_take]; omega
  have h10 : (boundF F).vs.length ≤ 60 := by show (F.vs.take 60).length ≤ 60; rw [List.length_take]; omega
  match j with
  | 0 => exact ⟨by show (boundF F).us.length ≤ _; omega, by show (boundF F).ms.length ≤ _; omega, by show (boundF F).vs.length ≤ _; omega⟩
  | 1 => exact ⟨by show (boundF F).us.length ≤ _; omega, by show (boundF F).ms.length ≤ _; omega, by show (boundF F).vs.length ≤ _; omega⟩
  | 2 => exact ⟨by show (boundF F).us.length ≤ _; omega, by show (boundF F).ms.length ≤ _; omega, by show (boundF F).vs.length ≤ _; omega⟩
  | 3 => exact ⟨by show ((boundF F).us ++ [mac]).length ≤ _; rw [List.length_append, List.length_singleton]; omega, by show (boundF F).ms.length ≤ _; omega, by show (boundF F).vs.length ≤ _; omega⟩
  | 4 => exact ⟨by show (boundF F).us.length ≤ _; omega, by show ((boundF F).ms ++ [mac]).length ≤ _; rw [List.length_append, List.length_singleton]; omega, by show (boundF F).vs.length ≤ _; omega⟩
  | j + 5 => exact ⟨by show (boundF F).us.length ≤ _; omega, by show (boundF F).ms.length ≤ _; omega, by show (boundF F).vs.length ≤ _; omega⟩
theorem adm_g3 {F : Flt} {S : Sl} {s mac : ByteArray} {A : Option Addr} {c base : Nat} (w : World) (h : adm F s = true) (hf : FV w F S) (r : R9 base w A c (F.us ++ [mac])) (hs : Small (growF F mac 3)) :
    Calls Try.prog 13 #[.agg #[.string F.m, .bool F.b1, .bool F.b2, .bool F.b3, .bool F.b4, .bool F.b5, .bool F.b6, .slice A (F.us.length + 1) c, .slice S.A8 F.ms.length S.c8, .bool F.b9, .slice S.A10 F.vs.length S.c10], .string s] w fun e w' => e = .returned (.bool true) ∧ Below w.heap.size w w' := by
  rw [show F.us.length + 1 = (F.us ++ [mac]).length by simp]
  exact adm_at (growF F mac 3) ⟨A, c, S.A8, S.c8, S.A10, S.c10⟩ s w (grow_adm mac h 3) (grow_fv3 hf r) hs
theorem adm_g4 {F : Flt} {S : Sl} {s mac : ByteArray} {A : Option Addr} {c base : Nat} (w : World) (h : adm F s = true) (hf : FV w F S) (r : R9 base w A c (F.ms ++ [mac])) (hs : Small (growF F mac 4)) :
    Calls Try.prog 13 #[.agg #[.string F.m, .bool F.b1, .bool F.b2, .bool F.b3, .bool F.b4, .bool F.b5, .bool F.b6, .slice S.A7 F.us.length S.c7, .slice A (F.ms.length + 1) c, .bool F.b9, .slice S.A10 F.vs.length S.c10], .string s] w fun e w' => e = .returned (.bool true) ∧ Below w.heap.size w w' := by
  rw [show F.ms.length + 1 = (F.ms ++ [mac]).length by simp]
  exact adm_at (growF F mac 4) ⟨S.A7, S.c7, A, c, S.A10, S.c10⟩ s w (grow_adm mac h 4) (grow_fv4 hf r) hs
end Go.Proofs.Ytnckogdplcijiaa.Fl
