/- What the calls on the document's lane do; two lanes at once. -/
import Derived.Test.YtbbboejcjcakbaaRef
namespace Go.Proofs.Ytbbboejcjcakbaa.Lane
open Go Go.RowKit Go.Proofs.YtbbboejcjcakbaaW.PrintWords Go.Proofs.YtbbboejcjcakbaaW.PrintLast Go.Proofs.YtbbboejcjcakbaaW.PrintMore Go.Proofs.Ytbbboejcjcakbaa.Own Go.Proofs.Ytbbboejcjcakbaa.P
set_option linter.unusedVariables false
set_option linter.unusedSimpArgs false
/-! ### Two lanes at once: the lane g of texts, the document's k -/
structure Both (w0 w : World) (g k : Nat) (v u : Value) (xs : List ByteArray) (la : Int) (ys : List ByteArray) (lb room : Int) : Prop where
  a : Strs.Ln w g v xs room la
  b : Ref.Ln w k u ys room lb
  ne : NeRow v u
  bel : Below w0.heap.size w0 w
  hg : w0.heap.size ≤ g
  hk : w0.heap.size ≤ k
  hv : ∀ b, v.ownBlock = some b → w0.heap.size ≤ b
  hu : ∀ b, u.ownBlock = some b → w0.heap.size ≤ b
section
variable {w0 w w' : World} {g k : Nat} {v v' u u' : Value} {xs xs' ys ys' : List ByteArray} {la la' lb lb' room : Int}
theorem fresh_ne {a a' c : Value} {n : Nat} {zs : List Value} (h : NeRow a c) (f : a'.ownBlock = a.ownBlock ∨ ∀ b, a'.ownBlock = some b → w.heap.size ≤ b) (ho : w.ownsRow 0 9 1 c n zs) : NeRow a' c := by
  intro j hj hc
  rcases f with f | f
  · exact h j (f ▸ hj) hc
  · have := f j hj
    have := own_lt ho j hc
    omega
theorem fresh_ge {a a' : Value} {B : Nat} (h : ∀ b, a.ownBlock = some b → B ≤ b) (hB : B ≤ w.heap.size) (f : a'.ownBlock = a.ownBlock ∨ ∀ b, a'.ownBlock = some b → w.heap.size ≤ b) : ∀ b, a'.ownBlock = some b → B ≤ b := by
  intro b hb
  rcases f with f | f
  · exact h b (f ▸ hb)
  · exact Nat.le_trans hB (f b hb)
theorem Both.stepA (h : Both w0 w g k v u xs la ys lb room) (hl : Strs.Ln w' g v' xs' room la') (U : Upd w w' (Strs.foot g v)) (f : Strs.Fresh w v v') : Both w0 w' g k v' u xs' la' ys lb room := by
  refine ⟨hl, h.b.upd U ?_ ?_, fresh_ne h.ne f h.b.own, h.bel.trans (U.toBelow ?_ h.bel.size), h.hg, h.hk, fresh_ge h.hv h.bel.size f, h.hu⟩
  · rintro (e | e)
    · exact blk_ne h.b.blk h.a.blk (by decide) e
    · exact own_ne h.a.own h.b.blk (by decide) e
  · rintro j hj (rfl | e)
    · exact own_ne h.b.own h.a.blk (by decide) hj.symm
    · exact h.ne j e.symm hj
  · rintro j (rfl | hj)
    · exact h.hg
    · exact h.hv j hj.symm
theorem Both.stepB (h : Both w0 w g k v u xs la ys lb room) (hl : Ref.Ln w' k u' ys' room lb') (U : Upd w w' (Ref.foot k u)) (f : Ref.Fresh w u u') : Both w0 w' g k v u' xs la ys' lb' room := by
  refine ⟨h.a.upd U ?_ ?_, hl, ne_symm (fresh_ne (ne_symm h.ne) f h.a.own), h.bel.trans (U.toBelow ?_ h.bel.size), h.hg, h.hk, h.hv, fresh_ge h.hu h.bel.size f⟩
  · rintro (e | e)
    · exact blk_ne h.a.blk h.b.blk (by decide) e
    · exact own_ne h.b.own h.a.blk (by decide) e
  · rintro j hj (rfl | e)
    · exact own_ne h.a.own h.b.blk (by decide) hj.symm
    · exact h.ne j hj e.symm
  · rintro j (rfl | hj)
    · exact h.hk
    · exact h.hu j hj.symm
theorem Both.beside (h : Both w0 w g k v u xs la ys lb room) (hb : Below w.heap.size w w') : Both w0 w' g k v u xs la ys lb room :=
  ⟨⟨blk_below h.a.blk hb, pw_own_below h.a.own hb⟩, ⟨blk_below h.b.blk hb, pw_own_below h.b.own hb⟩, h.ne, below_step h.bel hb, h.hg, h.hk, h.hv, h.hu⟩
end
/-- The lane of texts (xs, la lost) and the document's (ys, lb lost), of one room. -/
def Mid (w0 w : World) (g k : Nat) (xs : List ByteArray) (la : Int) (ys : List ByteArray) (lb room : Int) : Prop := ∃ v u, Both w0 w g k v u xs la ys lb room
theorem Mid.bel {w0 w : World} {g k : Nat} {xs ys : List ByteArray} {la lb room : Int} (h : Mid w0 w g k xs la ys lb room) : Below w0.heap.size w0 w := by
  obtain ⟨v, u, h⟩ := h
  exact h.bel
theorem Mid.beside {w0 w w' : World} {g k : Nat} {xs ys : List ByteArray} {la lb room : Int} (h : Mid w0 w g k xs la ys lb room) (hb : Below w.heap.size w w') : Mid w0 w' g k xs la ys lb room := by
  obtain ⟨v, u, h⟩ := h
  exact ⟨v, u, h.beside hb⟩
/-- What else is there stays. -/
def Keeps (w w' : World) : Prop := ∀ (j : Nat) (cs : Array Value) (t : Nat), w.heap[j]? = some (.cells cs t (0, 0)) → t ≠ 9 → t ≠ 58 → w'.heap[j]? = some (.cells cs t (0, 0))
theorem Both.keeps {w0 w w' : World} {g k : Nat} {v u : Value} {xs ys : List ByteArray} {la lb room : Int} (h : Both w0 w g k v u xs la ys lb room) (U : Upd w w' (Strs.foot g v)) : Keeps w w' := by
  intro j cs t hj h9 h58
  refine U.blk hj ?_
  rintro (e | e)
  · exact blk_ne hj h.a.blk h58 e
  · exact own_ne h.a.own hj (fun q => h9 q.symm) e
namespace Mid
section
variable {w0 w : World} {g k : Nat} {xs ys : List ByteArray} {la lb room : Int}
theorem putA (x : ByteArray) (hr : (xs.length : Int) < room) (hl : xs.length ≤ 1099511627776) (h : Mid w0 w g k xs la ys lb room) :
    Calls Try.prog 15 #[Strs.ptr g, .string x] w fun e w' => e = .returned (.bool true) ∧ Mid w0 w' g k (xs ++ [x]) la ys lb room ∧ Keeps w w' := by
  obtain ⟨v, u, s⟩ := h
  refine (Strs.Put_ok g v xs room la x w hr hl s.a).mono ?_
  rintro e w' ⟨rfl, v', h1, h2, h3⟩
  exact ⟨rfl, ⟨v', u, s.stepA h1 h2 h3⟩, s.keeps h2⟩
theorem loseA (x : ByteArray) (hr : room ≤ (xs.length : Int)) (h0 : 0 ≤ la) (h1 : la < 1099511627776) (h : Mid w0 w g k xs la ys lb room) :
    Calls Try.prog 15 #[Strs.ptr g, .string x] w fun e w' => e = .returned (.bool false) ∧ Mid w0 w' g k xs (la + 1) ys lb room ∧ Keeps w w' := by
  obtain ⟨v, u, s⟩ := h
  refine (Strs.Put_no g v xs room la x w hr h0 h1 s.a).mono ?_
  rintro e w' ⟨rfl, h1, h2⟩
  exact ⟨rfl, ⟨v, u, s.stepA h1 h2 (.inl rfl)⟩, s.keeps h2⟩
theorem putB (x : ByteArray) (hr : (ys.length : Int) ≠ room) (hl : ys.length ≤ 1099511627776) (h : Mid w0 w g k xs la ys lb room) :
    Calls Try.prog 21 #[Ref.ptr k, .string x] w fun e w' => e = .returned (.bool true) ∧ Mid w0 w' g k xs la (ys ++ [x]) lb room := by
  obtain ⟨v, u, s⟩ := h
  refine (Ref.Put_ok k u ys room lb x w hr hl s.b).mono ?_
  rintro e w' ⟨rfl, v', h1, h2, h3⟩
  exact ⟨rfl, v, v', s.stepB h1 h2 h3⟩
theorem loseB (x : ByteArray) (hr : room = (ys.length : Int)) (h0 : 0 ≤ lb) (h1 : lb < 1099511627776) (h : Mid w0 w g k xs la ys lb room) :
    Calls Try.prog 21 #[Ref.ptr k, .string x] w fun e w' => e = .returned (.bool false) ∧ Mid w0 w' g k xs la ys (lb + 1) room := by
  obtain ⟨v, u, s⟩ := h
  refine (Ref.Put_no k u ys room lb x w hr h0 h1 s.b).mono ?_
  rintro e w' ⟨rfl, h1, h2⟩
  exact ⟨rfl, v, u, s.stepB h1 h2 (.inl rfl)⟩
theorem takeA (x : ByteArray) (hl : xs.length ≤ 1099511627776) (h : Mid w0 w g k (x :: xs) la ys lb room) :
    Calls Try.prog 19 #[Strs.ptr g] w fun e w' => e = .returned (.tuple #[.string x, .bool true]) ∧ Mid w0 w' g k xs la ys lb room := by
  obtain ⟨v, u, s⟩ := h
  refine (Strs.Take_some g v x xs room la w hl s.a).mono ?_
  rintro e w' ⟨rfl, v', h1, h2, h3⟩
  exact ⟨rfl, v', u, s.stepA h1 h2 h3⟩
theorem noneA (h : Mid w0 w g k [] la ys lb room) :
    Calls Try.prog 19 #[Strs.ptr g] w fun e w' => e = .returned (.tuple #[.string ByteArray.empty, .bool false]) ∧ w' = w := by
  obtain ⟨v, u, s⟩ := h
  exact Strs.Take_none g v room la w s.a
theorem takeB (x : ByteArray) (hl : ys.length ≤ 1099511627776) (h : Mid w0 w g k xs la (x :: ys) lb room) :
    Calls Try.prog 22 #[Ref.ptr k] w fun e w' => e = .returned (.tuple #[.string x, .bool true]) ∧ Mid w0 w' g k xs la ys lb room := by
  obtain ⟨v, u, s⟩ := h
  refine (Ref.Take_some k u x ys room lb w hl s.b).mono ?_
  rintro e w' ⟨rfl, v', h1, h2, h3⟩
  exact ⟨rfl, v, v', s.stepB h1 h2 h3⟩
theorem noneB (h : Mid w0 w g k xs la [] lb room) :
    Calls Try.prog 22 #[Ref.ptr k] w fun e w' => e = .returned (.tuple #[.string ByteArray.empty, .bool false]) ∧ w' = w := by
  obtain ⟨v, u, s⟩ := h
  exact Ref.Take_none k u room lb w s.b
theorem len (h : Mid w0 w g k xs la ys lb room) : Calls Try.prog 20 #[Strs.ptr g] w fun e w' => e = .returned (.int .i64 (xs.length : Int)) ∧ w' = w := by
  obtain ⟨v, u, s⟩ := h
  exact Strs.Len g v xs room la w s.a
theorem lost (h : Mid w0 w g k xs la ys lb room) : Calls Try.prog 18 #[Strs.ptr g] w fun e w' => e = .returned (.int .i64 la) ∧ w' = w := by
  obtain ⟨v, u, s⟩ := h
  exact Strs.Lost g v xs room la w s.a
theorem list (n : Nat) (hn : xs.length = n) (hl : xs.length ≤ 1099511627776) (h : Mid w0 w g k xs la ys lb room) :
    Calls Try.prog 17 #[Strs.ptr g] w fun e w' => ∃ A c, e = .returned (.slice A n c) ∧ n ≤ c ∧ w'.ownsRow w.heap.size 9 1 (.slice A n c) n (encs Value.string xs) ∧ Below w.heap.size w w' := by
  subst hn
  obtain ⟨v, u, s⟩ := h
  refine (Strs.List_ g v xs room la w hl s.a).mono ?_
  rintro e w' ⟨v', rfl, ho, hb⟩
  obtain ⟨A, c, rfl, hc, hr⟩ := own_reads_of_le (enc := Value.string) (d := ByteArray.empty) (xs := xs) ho
  exact ⟨A, c, rfl, hc, ho, hb⟩
/-- The document's lane, its cells. -/
theorem ref (h : Mid w0 w g k xs la ys lb room) : ∃ A c, w.cell? ⟨k, 0, none⟩ = some (.slice A ys.length c) ∧ w.cell? ⟨k, 2, none⟩ = some (.int .i64 lb) ∧ ys.length ≤ c ∧ ReadsOf Value.string ByteArray.empty w A ys.length ys := by
  obtain ⟨v, u, s⟩ := h
  obtain ⟨A, c, rfl, hc, hr⟩ := own_reads_of_le (enc := Value.string) (d := ByteArray.empty) (xs := ys) s.b.own
  exact ⟨A, c, (blk_cell s.b.blk 0).trans rfl, (blk_cell s.b.blk 2).trans rfl, hc, hr⟩
end
end Mid
/-- The same, and the lane g0 of which g is a clone. -/
structure Three (w0 w : World) (g0 g k : Nat) (v0 v u : Value) (zs : List ByteArray) (lz : Int) (xs : List ByteArray) (la : Int) (ys : List ByteArray) (lb room : Int) : Prop where
  old : Strs.Ln w g0 v0 zs room lz
  two : Both w0 w g k v u xs la ys lb room
  ng : g0 ≠ g
  nv : NeRow v0 v
  nu : NeRow v0 u
  hg0 : w0.heap.size ≤ g0
  hv0 : ∀ b, v0.ownBlock = some b → w0.heap.size ≤ b
def Tri (w0 w : World) (g0 g k : Nat) (zs : List ByteArray) (lz : Int) (xs : List ByteArray) (la : Int) (ys : List ByteArray) (lb room : Int) : Prop := ∃ v0 v u, Three w0 w g0 g k v0 v u zs lz xs la ys lb room
theorem Tri.mid {w0 w : World} {g0 g k : Nat} {zs xs ys : List ByteArray} {lz la lb room : Int} (h : Tri w0 w g0 g k zs lz xs la ys lb room) : Mid w0 w g k xs la ys lb room := by
  obtain ⟨v0, v, u, h⟩ := h
  exact ⟨v, u, h.two⟩
theorem Three.step {w0 w w' : World} {g0 g k : Nat} {v0 v0' v u : Value} {zs zs' xs ys : List ByteArray} {lz lz' la lb room : Int} (h : Three w0 w g0 g k v0 v u zs lz xs la ys lb room)
    (hl : Strs.Ln w' g0 v0' zs' room lz') (U : Upd w w' (Strs.foot g0 v0)) (f : Strs.Fresh w v0 v0') : Three w0 w' g0 g k v0' v u zs' lz' xs la ys lb room := by
  have t := h.two
  refine ⟨hl, ⟨t.a.upd U ?_ ?_, t.b.upd U ?_ ?_, t.ne, t.bel.trans (U.toBelow ?_ t.bel.size), t.hg, t.hk, t.hv, t.hu⟩, h.ng, fresh_ne h.nv f t.a.own, fresh_ne h.nu f t.b.own, h.hg0, fresh_ge h.hv0 t.bel.size f⟩
  · rintro (e | e)
    · exact h.ng e.symm
    · exact own_ne h.old.own t.a.blk (by decide) e
  · rintro j hj (rfl | e)
    · exact own_ne t.a.own h.old.blk (by decide) hj.symm
    · exact h.nv j e.symm hj
  · rintro (e | e)
    · exact blk_ne t.b.blk h.old.blk (by decide) e
    · exact own_ne h.old.own t.b.blk (by decide) e
  · rintro j hj (rfl | e)
    · exact own_ne t.b.own h.old.blk (by decide) hj.symm
    · exact h.nu j e.symm hj
  · rintro j (rfl | hj)
    · exact h.hg0
    · exact h.hv0 j hj.symm
theorem Mid.clone {w0 w : World} {g k : Nat} {xs ys : List ByteArray} {la lb room : Int} (hl : xs.length ≤ 1099511627776) (h : Mid w0 w g k xs la ys lb room) :
    Calls Try.prog 23 #[Strs.ptr g] w fun e w' => ∃ g', e = .returned (Strs.ptr g') ∧ Tri w0 w' g g' k xs la xs la ys lb room := by
  obtain ⟨v, u, s⟩ := h
  refine (Strs.Clone_ g v xs room la w hl s.a).mono ?_
  rintro e w' ⟨g', v', rfl, h1, hb, hg, hv⟩
  have s' := s.beside hb
  refine ⟨g', rfl, v, v', u, s'.a, ⟨h1, s'.b, ?_, s'.bel, Nat.le_trans s.bel.size hg, s'.hk, fun b hb => Nat.le_trans s.bel.size (hv b hb), s'.hu⟩, ?_, ?_, s.ne, s.hg, s.hv⟩
  · intro j hj hu
    have := hv j hj
    have := own_lt s.b.own j hu
    omega
  · have := blk_lt s.a.blk
    omega
  · intro j hj hu
    have := hv j hu
    have := own_lt s.a.own j hj
    omega
theorem Tri.take {w0 w : World} {g0 g k : Nat} {zs xs ys : List ByteArray} {lz la lb room : Int} (hl : zs.length ≤ 10995116277) (h : Tri w0 w g0 g k zs lz xs la ys lb room) :
    Calls Try.prog 19 #[Strs.ptr g0] w fun e w' => ∃ s b, e = .returned (.tuple #[.string s, .bool b]) ∧ Tri w0 w' g0 g k zs.tail lz xs la ys lb room := by
  obtain ⟨v0, v, u, s⟩ := h
  cases zs with
  | nil =>
    refine (Strs.Take_none g0 v0 room lz w s.old).mono ?_
    rintro e w' ⟨rfl, rfl⟩
    exact ⟨_, _, rfl, v0, v, u, s⟩
  | cons z zs =>
    refine (Strs.Take_some g0 v0 z zs room lz w (by simp only [List.length_cons] at hl; omega) s.old).mono ?_
    rintro e w' ⟨rfl, v', h1, h2, h3⟩
    exact ⟨_, _, rfl, v', v, u, s.step h1 h2 h3⟩
theorem Tri.put {w0 w : World} {g0 g k : Nat} {zs xs ys : List ByteArray} {lz la lb room : Int} (x : ByteArray) (hl : zs.length ≤ 1099511627776) (h0 : 0 ≤ lz) (h1 : lz < 1099511627776) (h : Tri w0 w g0 g k zs lz xs la ys lb room) :
    Calls Try.prog 15 #[Strs.ptr g0, .string x] w fun e w' => ∃ b zs' lz', e = .returned (.bool b) ∧ zs'.length ≤ zs.length + 1 ∧ 0 ≤ lz' ∧ lz' ≤ lz + 1 ∧ Tri w0 w' g0 g k zs' lz' xs la ys lb room := by
  obtain ⟨v0, v, u, s⟩ := h
  by_cases hr : (zs.length : Int) < room
  · refine (Strs.Put_ok g0 v0 zs room lz x w hr hl s.old).mono ?_
    rintro e w' ⟨rfl, v', k1, k2, k3⟩
    exact ⟨_, zs ++ [x], lz, rfl, by simp, h0, by omega, v', v, u, s.step k1 k2 k3⟩
  · refine (Strs.Put_no g0 v0 zs room lz x w (by omega) h0 h1 s.old).mono ?_
    rintro e w' ⟨rfl, k1, k2⟩
    exact ⟨_, zs, lz + 1, rfl, by omega, by omega, by omega, v0, v, u, s.step k1 k2 (.inl rfl)⟩
end Go.Proofs.Ytbbboejcjcakbaa.Lane
