/- A memory: its functions' contracts, by hand, and the laws over them. -/
import Derived.Test.YtllpfadjdecjiaaMemP
import Derived.Laws.Pointers
import Derived.WalkLawsBesides
import Derived.Deep.QuietTactic
import Derived.BigQuiet
import Derived.Deep.RegionWith
import Derived.Deep.RegionLaw
import Derived.Lib.BufferWrite
namespace Go.Proofs.Ytllpfadjdecjiaa.Mem
open Go Go.RowKit Go.Proofs.YtllpfadjdecjiaaW.PrintWords Go.Proofs.YtllpfadjdecjiaaW.PrintLast Go.Proofs.YtllpfadjdecjiaaW.PrintMore Go.Proofs.Ytllpfadjdecjiaa.Own Go.Proofs.Ytllpfadjdecjiaa.P Go.Proofs.Ytllpfadjdecjiaa
set_option linter.unusedVariables false
set_option linter.unusedSimpArgs false
def NeB (a b : Value) : Prop := ∀ k, a.ownBlock = some k → b.ownBlock ≠ some k
theorem NeB.symm {a b : Value} (h : NeB a b) : NeB b a := fun k hb ha => h k ha hb
/-- A memory, and two rows of accesses beside it. -/
structure Lg (w0 w : World) (g : Nat) (vb vl vW vG : Value) (s : ByteArray) (who : Int) (log want got : List S49) : Prop where
  m : St w0 w g vb vl s who log
  ow : w.ownsRow 0 49 4 vW want.length (rowA want)
  og : w.ownsRow 0 49 4 vG got.length (rowA got)
  n1 : NeB vW vG
  n2 : NeB vl vW
  n3 : NeB vl vG
  bW : ∀ k, vW.ownBlock = some k → w0.heap.size ≤ k
  bG : ∀ k, vG.ownBlock = some k → w0.heap.size ≤ k
section
variable {w0 w w' : World} {g : Nat} {vb vl vl' vW vG v1 : Value} {s s' : ByteArray} {who who' : Int} {log log' want got : List S49}
theorem far {v : Value} {n : Nat} {cs : List Value} (h : w.ownsRow 0 49 4 v n cs) (m : Mm w g vb vl s who log) (hn : NeB vl v) : ∀ k, v.ownBlock = some k → ¬ foot g vb vl k := by
  intro k hk
  rintro (e | e | e)
  · exact own_ne h m.blk (show (49 : Nat) ≠ 60 by decide) (by rw [hk, e])
  · rcases own_type_ne h m.ob (by decide) with q | q
    · rw [q] at hk; cases hk
    · exact q (hk.trans e)
  · exact hn k e.symm hk
theorem fresh_ne {v : Value} {n : Nat} {cs : List Value} (h : w.ownsRow 0 49 4 v n cs) (hn : NeB vl v) (f : Fresh w vl vl') : NeB vl' v := by
  intro k hk hv
  rcases f with f | f
  · exact hn k (f ▸ hk) hv
  · have := f k hk
    have := own_lt h k hv
    omega
theorem Lg.step (h : Lg w0 w g vb vl vW vG s who log want got) (hm : Mm w' g vb vl' s' who' log') (e : s'.size = s.size) (u : Upd w w' (foot g vb vl)) (f : Fresh w vl vl') : Lg w0 w' g vb vl' vW vG s' who' log' want got := by
  refine ⟨⟨hm, h.m.bel.trans (u.toBelow ?_ h.m.bel.size), h.m.hg, h.m.hb, fresh_le f h.m.hl h.m.bel.size, e ▸ h.m.z, e ▸ h.m.m⟩, u.own h.ow (far h.ow h.m.ln h.n2), u.own h.og (far h.og h.m.ln h.n3), h.n1, fresh_ne h.ow h.n2 f, fresh_ne h.og h.n3 f, h.bW, h.bG⟩
  rintro k (rfl | hk | hk)
  · exact h.m.hg
  · exact h.m.hb k hk.symm
  · exact h.m.hl k hk.symm
theorem Lg.beside (h : Lg w0 w g vb vl vW vG s who log want got) (b : Below w.heap.size w w') : Lg w0 w' g vb vl vW vG s who log want got :=
  h.step (h.m.ln.beside b) rfl (Upd.of_below b _) (.inl rfl)
theorem grown_upd {row : Option Nat} (hg : w.grownBy w' row) : Upd w w' (fun k => row = some k) := ⟨hg.os, hg.tape, hg.output, ⟨hg.size, fun i hi hn => hg.block i hi (fun e => hn e.symm)⟩⟩
theorem at_ne {v v2 : Value} {n : Nat} {cs : List Value} (hat : v1.ownBlock = v.ownBlock ∨ ∃ b, v1.ownBlock = some b ∧ w.heap.size ≤ b) (hn : NeB v v2) (h2 : w.ownsRow 0 49 4 v2 n cs) : NeB v1 v2 := by
  intro k hk hv
  rcases hat with e | ⟨b, e, hle⟩
  · exact hn k (e ▸ hk) hv
  · rw [e] at hk; injection hk with hk; subst hk; have := own_lt h2 b hv; omega
theorem at_le {v : Value} (hat : v1.ownBlock = v.ownBlock ∨ ∃ b, v1.ownBlock = some b ∧ w.heap.size ≤ b) (hb : ∀ k, v.ownBlock = some k → w0.heap.size ≤ k) (hs : w0.heap.size ≤ w.heap.size) : ∀ k, v1.ownBlock = some k → w0.heap.size ≤ k := by
  intro k hk
  rcases hat with e | ⟨b, e, hle⟩
  · exact hb k (e ▸ hk)
  · rw [e] at hk; injection hk with hk; omega
theorem Lg.growW {want' : List S49} (h : Lg w0 w g vb vl vW vG s who log want got) (ho : w'.ownsRow 0 49 4 v1 want'.length (rowA want')) (hg : w.grownBy w' vW.ownBlock) (hat : v1.ownBlock = vW.ownBlock ∨ ∃ b, v1.ownBlock = some b ∧ w.heap.size ≤ b) : Lg w0 w' g vb vl v1 vG s who log want' got := by
  have u := grown_upd hg
  have hf := far h.ow h.m.ln h.n2
  have m' : Mm w' g vb vl s who log := h.m.ln.upd u (fun e => hf g e (.inl rfl)) (fun k hk e => hf k e (.inr (.inl hk.symm))) (fun k hk e => hf k e (.inr (.inr hk.symm)))
  refine ⟨⟨m', h.m.bel.trans (u.toBelow (fun k e => h.bW k e) h.m.bel.size), h.m.hg, h.m.hb, h.m.hl, h.m.z, h.m.m⟩, ho, u.own h.og (fun k hk e => h.n1 k e hk), at_ne hat h.n1 h.og, ?_, h.n3, at_le hat h.bW h.m.bel.size, h.bG⟩
  exact (at_ne hat h.n2.symm h.m.ln.ol).symm
theorem Lg.growG {got' : List S49} (h : Lg w0 w g vb vl vW vG s who log want got) (ho : w'.ownsRow 0 49 4 v1 got'.length (rowA got')) (hg : w.grownBy w' vG.ownBlock) (hat : v1.ownBlock = vG.ownBlock ∨ ∃ b, v1.ownBlock = some b ∧ w.heap.size ≤ b) : Lg w0 w' g vb vl vW v1 s who log want got' := by
  have u := grown_upd hg
  have hf := far h.og h.m.ln h.n3
  have m' : Mm w' g vb vl s who log := h.m.ln.upd u (fun e => hf g e (.inl rfl)) (fun k hk e => hf k e (.inr (.inl hk.symm))) (fun k hk e => hf k e (.inr (.inr hk.symm)))
  refine ⟨⟨m', h.m.bel.trans (u.toBelow (fun k e => h.bG k e) h.m.bel.size), h.m.hg, h.m.hb, h.m.hl, h.m.z, h.m.m⟩, u.own h.ow (fun k hk e => h.n1 k hk e), ho, (at_ne hat h.n1.symm h.ow).symm, h.n2, (at_ne hat h.n3.symm h.m.ln.ol).symm, h.bW, at_le hat h.bG h.m.bel.size⟩
set_option maxHeartbeats 4000000 in
set_option maxRecDepth 100000 in
theorem storeR (a : Nat) (ha : a ≤ 31) (hl : log.length ≤ 4000) (h : St w0 w g vb vl s who log) :
    Calls Try.prog 19 #[ptr g, .int .i64 (a : Int), .int .i64 4, .int .u64 7] w fun e w' => e = .returned (.int .i64 0) ∧ ∃ vl', Mm w' g vb vl' (over s (le 4 7) a) who (noted log who a 4 true) ∧ Upd w w' (foot g vb vl) ∧ Fresh w vl vl' := by
  have C1 := Aside0.mk fun W => gmem_sized.calls 4 true W (sized_f 4 true (by simp [sizedP]))
  obtain ⟨k, hk⟩ := Wd.put 7 (by decide) 4 false
  have hk := hk k (Nat.le_refl _)
  have e7 : (Mth.mk (Wd.putS 7 4 false).1, (Wd.putS 7 4 false).2) = (le 4 7, (0 : Int)) := rfl
  rw [e7] at hk
  have C2 := Aside0.mk fun W => words_Put.calls k (7 : Int) 4 false (le 4 7) 0 W hk
  have H := Aside0.mk h
  clear h hk e7
  have b1 : ((0 : Int) != 0) = false := rfl
  go_enter Try.func19, Try.ntmps19
  go_wp2_with fail
  refine (C1.out w).mono ?_
  rintro e w1 ⟨rfl, d1⟩
  have B1 := Aside0.mk (drawn_below d1)
  clear d1
  go_wp2_with fail
  refine (C2.out w1).mono ?_
  rintro e w2 ⟨rfl, d2⟩
  have B2 := Aside0.mk (below_step B1.out d2)
  clear d2
  go_wp2_with fail
  refine (Write_ok g vb vl s (le 4 7) who log a w2 H.out.z H.out.m (by rw [le_size]; have := H.out.z; omega) (by omega) (H.out.ln.beside B2.out)).mono ?_
  rintro e w3 ⟨rfl, vl', h3, u3, f3⟩
  rw [le_size] at h3
  have H3 := Aside0.mk h3
  have U3 := Aside0.mk ((Upd.of_below B2.out (foot g vb vl)).trans u3)
  have F3 : Aside0 (Fresh w vl vl') := ⟨by
    rcases f3 with f | f
    · exact .inl f
    · exact .inr fun b hb => Nat.le_trans B2.out.size (f b hb)⟩
  clear h3 u3 f3
  go_wp2
  go_ret
  exact ⟨rfl, vl', H3.out, U3.out, F3.out⟩
end
end Go.Proofs.Ytllpfadjdecjiaa.Mem
