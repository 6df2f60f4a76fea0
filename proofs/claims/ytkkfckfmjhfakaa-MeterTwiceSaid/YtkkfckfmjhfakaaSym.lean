/- Floats and the meter: contracts by hand, and the laws over them. -/
import Derived.Test.YtkkfckfmjhfakaaOwn
import Derived.Test.YtkkfckfmjhfakaaSrt2
import Derived.Sort.WalkC
import Derived.BigRegion
import Derived.RegionTactic
import Derived.Deep.QuietTactic
import Derived.BigQuiet
namespace Go.Proofs.Ytkkfckfmjhfakaa.Mt
open Go Go.RowKit Go.Proofs.YtkkfckfmjhfakaaW.PrintWords Go.Proofs.YtkkfckfmjhfakaaW.PrintLast Go.Proofs.YtkkfckfmjhfakaaW.PrintMore Go.Proofs.Ytkkfckfmjhfakaa.Mth Go.Proofs.Ytkkfckfmjhfakaa.Own Go.Proofs
set_option linter.unusedVariables false
set_option linter.unusedSimpArgs false
/-! ### Merging in place: the plain part -/
/-- no greater -/
theorem le_trans' {α : Type} {lt : α → α → Bool} (hS : Go.Sort.SWO lt) {x y z : α} (h1 : lt y x = false) (h2 : lt z y = false) : lt z x = false := hS.ntrans z y x h2 h1
theorem le_of_lt' {α : Type} {lt : α → α → Bool} (hS : Go.Sort.SWO lt) {x y : α} (h : lt x y = true) : lt y x = false := hS.asymmA h
section
variable {α : Type} [Inhabited α] {lt : α → α → Bool}
open Go.Sort
/-- The place that is told at k, when [a, m) and [m, b) are exchanged. -/
def rotI (a m b k : Nat) : Nat := if a ≤ k ∧ k < a + (b - m) then k + (m - a) else if a + (b - m) ≤ k ∧ k < b then k - (b - m) else k
/-- The place that is told at k, when n places from a and n from b are exchanged. -/
def swI (a b n k : Nat) : Nat := if a ≤ k ∧ k < a + n then k - a + b else if b ≤ k ∧ k < b + n then k - b + a else k
def Rot (a m b : Nat) (d d' : Array α) : Prop := d'.size = d.size ∧ PermIn a b d d' ∧ ∀ k : Nat, d'[k]! = d[rotI a m b k]!
def Swr (a b n lo hi : Nat) (d d' : Array α) : Prop := d'.size = d.size ∧ PermIn lo hi d d' ∧ ∀ k : Nat, d'[k]! = d[swI a b n k]!
theorem swp_at (d : Array α) {i j : Nat} (hi : i < d.size) (hj : j < d.size) (k : Nat) : (swp d i j)[k]! = d[if k = i then j else if k = j then i else k]! := by
  by_cases h1 : k = i
  · subst h1
    rw [if_pos rfl]
    by_cases h2 : k = j
    · subst h2; exact swp_right d k k hi
    · exact swp_left d k j hi h2
  · rw [if_neg h1]
    by_cases h2 : k = j
    · subst h2; rw [if_pos rfl]; exact swp_right d i k hj
    · rw [if_neg h2]; exact swp_other d i j k h1 h2
theorem swr_nil (a b lo hi : Nat) (d : Array α) : Swr a b 0 lo hi d d := ⟨rfl, permIn_refl _ _ _, fun k => by unfold swI; rw [if_neg (by omega), if_neg (by omega)]⟩
theorem swr_step {a b n lo hi : Nat} {d c : Array α} (h : Swr a b n lo hi d c) (hab : a + (n + 1) ≤ b ∨ b + (n + 1) ≤ a) (ha : lo ≤ a) (hb : lo ≤ b) (ha2 : a + (n + 1) ≤ hi) (hb2 : b + (n + 1) ≤ hi) (hh : hi ≤ d.size) :
    Swr a b (n + 1) lo hi d (swp c (a + n) (b + n)) := by
  obtain ⟨h1, h2, h3⟩ := h
  refine ⟨by rw [size_swp, h1], permIn_trans _ _ _ _ _ h2 (swp_permIn c lo hi (a + n) (b + n) (by omega) (by omega) (by omega) (by omega) (by omega)), fun k => ?_⟩
  rw [swp_at c (by omega) (by omega), h3]
  congr 1
  unfold swI
  by_cases q1 : k = a + n
  · subst q1; rw [if_pos rfl]; split <;> split <;> (try split) <;> (try split) <;> omega
  · rw [if_neg q1]
    by_cases q2 : k = b + n
    · subst q2; rw [if_pos rfl]; split <;> (try split) <;> (try split) <;> (try split) <;> omega
    · rw [if_neg q2]; split <;> (try split) <;> (try split) <;> (try split) <;> omega
/-- What a rotation has still to do: behind what is done, it leads to F. -/
def RotTo (F : Nat → α) (lo hi m i j : Nat) (d c : Array α) : Prop := c.size = d.size ∧ PermIn lo hi d c ∧ ∀ k : Nat, c[rotI (m - i) m (m + j) k]! = F k
theorem rotTo_start {a m b : Nat} (d : Array α) (h1 : a ≤ m) (h2 : m ≤ b) : RotTo (fun k => d[rotI a m b k]!) a b m (m - a) (b - m) d d :=
  ⟨rfl, permIn_refl _ _ _, fun k => by rw [show m - (m - a) = a by omega, show m + (b - m) = b by omega]⟩
theorem rotTo_left {F : Nat → α} {lo hi m i j : Nat} {d c c' : Array α} (h : RotTo F lo hi m i j d c) (hij : j < i) (hm : i ≤ m) (s : Swr (m - i) m j lo hi c c') : RotTo F lo hi m (i - j) j d c' := by
  obtain ⟨h1, h2, h3⟩ := h
  obtain ⟨s1, s2, s3⟩ := s
  refine ⟨by rw [s1, h1], permIn_trans _ _ _ _ _ h2 s2, fun k => ?_⟩
  rw [s3, ← h3]
  congr 1
  unfold swI rotI
  split <;> (try split) <;> (try split) <;> (try split) <;> (try split) <;> (try split) <;> omega
theorem rotTo_right {F : Nat → α} {lo hi m i j : Nat} {d c c' : Array α} (h : RotTo F lo hi m i j d c) (hij : i < j) (hm : i ≤ m) (s : Swr (m - i) (m + j - i) i lo hi c c') : RotTo F lo hi m i (j - i) d c' := by
  obtain ⟨h1, h2, h3⟩ := h
  obtain ⟨s1, s2, s3⟩ := s
  refine ⟨by rw [s1, h1], permIn_trans _ _ _ _ _ h2 s2, fun k => ?_⟩
  rw [s3, ← h3]
  congr 1
  unfold swI rotI
  split <;> (try split) <;> (try split) <;> (try split) <;> (try split) <;> (try split) <;> omega
theorem rotTo_end {F : Nat → α} {lo hi m i : Nat} {d c c' : Array α} (h : RotTo F lo hi m i i d c) (hm : i ≤ m) (s : Swr (m - i) m i lo hi c c') : c'.size = d.size ∧ PermIn lo hi d c' ∧ ∀ k : Nat, c'[k]! = F k := by
  obtain ⟨h1, h2, h3⟩ := h
  obtain ⟨s1, s2, s3⟩ := s
  refine ⟨by rw [s1, h1], permIn_trans _ _ _ _ _ h2 s2, fun k => ?_⟩
  rw [s3, ← h3]
  congr 1
  unfold swI rotI
  split <;> (try split) <;> (try split) <;> (try split) <;> omega
/-- One place moved up, one at a time. -/
theorem rot_up_nil (a : Nat) (d : Array α) : Rot a (a + 1) (a + 1) d d := ⟨rfl, permIn_refl _ _ _, fun k => by congr 1; unfold rotI; split <;> (try split) <;> omega⟩
theorem rot_up {a k : Nat} {d c : Array α} (h : Rot a (a + 1) (k + 1) d c) (hk : a ≤ k) (hs : k + 1 < d.size) : Rot a (a + 1) (k + 2) d (swp c k (k + 1)) := by
  obtain ⟨h1, h2, h3⟩ := h
  refine ⟨by rw [size_swp, h1], permIn_trans _ _ _ _ _ (permIn_mono _ _ _ _ a (k + 2) (Nat.le_refl _) (by omega) (by omega) h2) (swp_permIn c a (k + 2) k (k + 1) (by omega) (by omega) (by omega) (by omega) (by omega)), fun x => ?_⟩
  rw [swp_at c (by omega) (by omega), h3]
  congr 1
  unfold rotI
  split <;> (try split) <;> (try split) <;> (try split) <;> (try split) <;> (try split) <;> omega
/-- One place moved down, one at a time: it stands at k. -/
theorem rot_down_nil (m : Nat) (d : Array α) : Rot m m (m + 1) d d := ⟨rfl, permIn_refl _ _ _, fun k => by congr 1; unfold rotI; split <;> (try split) <;> omega⟩
theorem rot_down {m k : Nat} {d c : Array α} (h : Rot (k + 1) m (m + 1) d c) (hk : k + 1 ≤ m) (hs : m < d.size) : Rot k m (m + 1) d (swp c (k + 1) k) := by
  obtain ⟨h1, h2, h3⟩ := h
  refine ⟨by rw [size_swp, h1], permIn_trans _ _ _ _ _ (permIn_mono _ _ _ _ k (m + 1) (by omega) (Nat.le_refl _) (by omega) h2) (swp_permIn c k (m + 1) (k + 1) k (by omega) (by omega) (by omega) (by omega) (by omega)), fun x => ?_⟩
  rw [swp_at c (by omega) (by omega), h3]
  congr 1
  unfold rotI
  split <;> (try split) <;> (try split) <;> (try split) <;> (try split) <;> (try split) <;> omega
theorem rot_none_left {m b : Nat} (d : Array α) : Rot m m b d d := ⟨rfl, permIn_refl _ _ _, fun k => by congr 1; unfold rotI; split <;> (try split) <;> omega⟩
theorem rot_none_right {a m : Nat} (d : Array α) : Rot a m m d d := ⟨rfl, permIn_refl _ _ _, fun k => by congr 1; unfold rotI; split <;> (try split) <;> omega⟩
/-! order -/
theorem sorted_le (hS : SWO lt) {a b : Nat} {d : Array α} (h : SortedIn lt a b d) {i j : Nat} (hi : a ≤ i) (hij : i ≤ j) (hj : j < b) : lt d[j]! d[i]! = false := by
  rcases Nat.lt_or_ge i j with q | q
  · exact h i j hi q hj
  · obtain rfl : i = j := by omega
    exact hS.irrefl _
/-- A run and what is behind it. -/
theorem sorted_join {a m b : Nat} {d : Array α} (h1 : SortedIn lt a m d) (h2 : SortedIn lt m b d) (h : ∀ i j, a ≤ i → i < m → m ≤ j → j < b → lt d[j]! d[i]! = false) : SortedIn lt a b d := by
  intro i j hi hij hj
  by_cases q1 : j < m
  · exact h1 i j hi hij q1
  · by_cases q2 : i < m
    · exact h i j hi q2 (by omega) hj
    · exact h2 i j (by omega) hij hj
theorem sorted_perm_out {lo hi a b : Nat} {d d' : Array α} (h : PermIn lo hi d d') (ho : b ≤ lo ∨ hi ≤ a) (hs : SortedIn lt a b d) : SortedIn lt a b d' := by
  intro i j hi hij hj
  rw [h.2.1 i (by omega), h.2.1 j (by omega)]
  exact hs i j hi hij hj
theorem sorted_part {a b a' b' : Nat} {d : Array α} (h : SortedIn lt a b d) (h1 : a ≤ a') (h2 : b' ≤ b) : SortedIn lt a' b' d := fun i j hi hij hj => h i j (by omega) hij (by omega)
/-- m - a = 1: what stood first stands ahead of the first that is no less. -/
theorem sym_one_left (hS : SWO lt) {a b i : Nat} {d d' : Array α} (hr : Rot a (a + 1) i d d') (hi : a + 1 ≤ i) (hib : i ≤ b) (h2 : SortedIn lt (a + 1) b d)
    (lo : ∀ k, a + 1 ≤ k → k < i → lt d[k]! d[a]! = true) (hi2 : i < b → lt d[i]! d[a]! = false) : SortedIn lt a b d' := by
  intro p q hp hpq hq
  rw [hr.2.2, hr.2.2]
  have ep : rotI a (a + 1) i p = if p < i - 1 then p + 1 else if p = i - 1 then a else p := by unfold rotI; split <;> (try split) <;> (try split) <;> (try split) <;> omega
  have eq : rotI a (a + 1) i q = if q < i - 1 then q + 1 else if q = i - 1 then a else q := by unfold rotI; split <;> (try split) <;> (try split) <;> (try split) <;> omega
  rw [ep, eq]
  by_cases p1 : p < i - 1
  · rw [if_pos p1]
    by_cases q1 : q < i - 1
    · rw [if_pos q1]; exact h2 _ _ (by omega) (by omega) (by omega)
    · rw [if_neg q1]
      by_cases q2 : q = i - 1
      · rw [if_pos q2]; exact hS.asymmA (lo (p + 1) (by omega) (by omega))
      · rw [if_neg q2]; exact h2 _ _ (by omega) (by omega) (by omega)
  · rw [if_neg p1, if_neg (show ¬ q < i - 1 by omega), if_neg (show ¬ q = i - 1 by omega)]
    by_cases p2 : p = i - 1
    · rw [if_pos p2]
      exact le_trans' hS (hi2 (by omega)) (sorted_le hS h2 (by omega) (show i ≤ q by omega) hq)
    · rw [if_neg p2]; exact h2 _ _ (by omega) (by omega) (by omega)
/-- b - m = 1: what stood last stands ahead of the first that is greater. -/
theorem sym_one_right (hS : SWO lt) {a m i : Nat} {d d' : Array α} (hr : Rot i m (m + 1) d d') (hi : a ≤ i) (him : i ≤ m) (h1 : SortedIn lt a m d)
    (lo : ∀ k, a ≤ k → k < i → lt d[m]! d[k]! = false) (hi2 : i < m → lt d[m]! d[i]! = true) : SortedIn lt a (m + 1) d' := by
  intro p q hp hpq hq
  rw [hr.2.2, hr.2.2]
  have e : ∀ x, x ≤ m → rotI i m (m + 1) x = if x < i then x else if x = i then m else x - 1 := fun x hx => by unfold rotI; split <;> (try split) <;> (try split) <;> (try split) <;> omega
  rw [e p (by omega), e q (by omega)]
  by_cases p1 : p < i
  · rw [if_pos p1]
    by_cases q1 : q < i
    · rw [if_pos q1]; exact h1 _ _ hp hpq (by omega)
    · rw [if_neg q1]
      by_cases q2 : q = i
      · rw [if_pos q2]; exact lo p hp p1
      · rw [if_neg q2]; exact h1 _ _ hp (by omega) (by omega)
  · rw [if_neg p1, if_neg (show ¬ q < i by omega), if_neg (show ¬ q = i by omega)]
    by_cases p2 : p = i
    · rw [if_pos p2]
      exact le_trans' hS (le_of_lt' hS (hi2 (by omega))) (sorted_le hS h1 hi (show i ≤ q - 1 by omega) (by omega))
    · rw [if_neg p2]; exact h1 _ _ (by omega) (by omega) (by omega)
/-- Behind the rotation all on the left are no greater than all on the right; each side is two runs. -/
theorem sym_split (hS : SWO lt) {a m b mid s lo hi : Nat} {d d' : Array α} (ha : a < m) (hb : m < b) (hmid : mid = (a + b) / 2)
    (hlo : lo = if mid < m then mid + m - b else a) (hhi : hi = if mid < m then mid else m) (s1 : lo ≤ s) (s2 : s ≤ hi)
    (below : lo < s → lt d[mid + m - 1 - (s - 1)]! d[s - 1]! = false) (above : s < hi → lt d[mid + m - 1 - s]! d[s]! = true)
    (h1 : SortedIn lt a m d) (h2 : SortedIn lt m b d) (hr : Rot s m (mid + m - s) d d') :
    SortedIn lt a s d' ∧ SortedIn lt s mid d' ∧ SortedIn lt mid (mid + m - s) d' ∧ SortedIn lt (mid + m - s) b d' ∧ ∀ i j, a ≤ i → i < mid → mid ≤ j → j < b → lt d'[j]! d'[i]! = false := by
  have g : ∀ x, rotI s m (mid + m - s) x = if x < s then x else if x < mid then x + (m - s) else if x < mid + m - s then x - (mid - s) else x := fun x => by
    unfold rotI
    by_cases q : mid < m
    · rw [if_pos q] at hlo hhi; split <;> (try split) <;> (try split) <;> (try split) <;> (try split) <;> omega
    · rw [if_neg q] at hlo hhi; split <;> (try split) <;> (try split) <;> (try split) <;> (try split) <;> omega
  have G : ∀ x, d'[x]! = d[if x < s then x else if x < mid then x + (m - s) else if x < mid + m - s then x - (mid - s) else x]! := fun x => by rw [hr.2.2, g]
  have bs : a ≤ s ∧ s ≤ m ∧ s ≤ mid ∧ mid ≤ mid + m - s ∧ m ≤ mid + m - s ∧ mid + m - s ≤ b := by
    by_cases q : mid < m
    · rw [if_pos q] at hlo hhi; omega
    · rw [if_neg q] at hlo hhi; omega
  obtain ⟨b1, b2, b3, b4, b5, b6⟩ := bs
  have G1 : ∀ x, x < s → d'[x]! = d[x]! := fun x h => by rw [G, if_pos h]
  have G2 : ∀ x, s ≤ x → x < mid → d'[x]! = d[x + (m - s)]! := fun x h h2 => by rw [G, if_neg (by omega), if_pos h2]
  have G3 : ∀ x, mid ≤ x → x < mid + m - s → d'[x]! = d[x - (mid - s)]! := fun x h h2 => by rw [G, if_neg (by omega), if_neg (by omega), if_pos h2]
  have G4 : ∀ x, mid + m - s ≤ x → d'[x]! = d[x]! := fun x h => by rw [G, if_neg (by omega), if_neg (by omega), if_neg (by omega)]
  -- the two facts that the search found
  have lowR : ∀ x y, a ≤ x → x < s → mid + m - s ≤ y → y < b → lt d[y]! d[x]! = false := by
    intro x y hx hxs hy hyb
    have h : lo < s := by
      by_cases q : mid < m
      · rw [if_pos q] at hlo; omega
      · rw [if_neg q] at hlo; omega
    have e := below h
    rw [show mid + m - 1 - (s - 1) = mid + m - s by omega] at e
    exact le_trans' hS (sorted_le hS h1 hx (show x ≤ s - 1 by omega) (by omega)) (le_trans' hS e (sorted_le hS h2 (show m ≤ mid + m - s by omega) hy hyb))
  have upL : ∀ x y, m ≤ x → x < mid + m - s → s ≤ y → y < m → lt d[y]! d[x]! = false := by
    intro x y hx hxe hy hym
    have h : s < hi := by
      by_cases q : mid < m
      · rw [if_pos q] at hhi; omega
      · rw [if_neg q] at hhi; omega
    have e := above h
    exact le_trans' hS (sorted_le hS h2 hx (show x ≤ mid + m - 1 - s by omega) (by omega)) (le_trans' hS (le_of_lt' hS e) (sorted_le hS h1 b1 hy hym))
  refine ⟨?_, ?_, ?_, ?_, ?_⟩
  · intro i j hi hij hj
    rw [G1 i (by omega), G1 j hj]; exact h1 i j hi hij (by omega)
  · intro i j hi hij hj
    rw [G2 i hi (by omega), G2 j (by omega) hj]; exact h2 _ _ (by omega) (by omega) (by omega)
  · intro i j hi hij hj
    rw [G3 i hi (by omega), G3 j (by omega) hj]; exact h1 _ _ (by omega) (by omega) (by omega)
  · intro i j hi hij hj
    rw [G4 i hi, G4 j (by omega)]; exact h2 _ _ (by omega) (by omega) hj
  · intro i j hi him hj hjb
    by_cases q1 : i < s
    · rw [G1 i q1]
      by_cases q2 : j < mid + m - s
      · rw [G3 j hj q2]; exact h1 _ _ hi (by omega) (by omega)
      · rw [G4 j (by omega)]; exact lowR i j hi q1 (by omega) hjb
    · rw [G2 i (by omega) him]
      by_cases q2 : j < mid + m - s
      · rw [G3 j hj q2]; exact upL _ _ (by omega) (by omega) (by omega) (by omega)
      · rw [G4 j (by omega)]; exact h2 _ _ (by omega) (by omega) hjb
end
/-! ### The row in memory -/
open Go.Sort
/-- w is w0 with the row's cells holding d, some draws on. -/
def RW (w0 : World) (blk off : Nat) (d : Array F64) (w : World) : Prop := (∃ D : Array F64, D.size = d.size ∧ Holds encF w0 blk off D) ∧ ∃ n, w = (putRow encF w0 blk off d).drewN n
theorem rw_start {w0 : World} {blk off : Nat} {d : Array F64} (h : Holds encF w0 blk off d) : RW w0 blk off d w0 := ⟨⟨d, rfl, h⟩, 0, by rw [putRow_self _ _ _ _ _ h]; rfl⟩
theorem rw_holds {w0 w : World} {blk off : Nat} {d : Array F64} (h : RW w0 blk off d w) : Holds encF w blk off d := by
  obtain ⟨⟨D, hs, hH⟩, n, rfl⟩ := h
  intro j hj
  refine ⟨?_, ?_⟩
  · show (putRow encF w0 blk off d).cell? _ = _
    exact cell?_putRow _ _ _ _ D d hH hs.symm j (by omega)
  · show (putRow encF w0 blk off d).frozen? _ = _
    rw [frozen?_putRow]; exact (hH j (by omega)).2
theorem rw_cell {w0 w : World} {blk off : Nat} {d : Array F64} (h : RW w0 blk off d w) {j : Nat} (hj : j < d.size) : w.cell? ⟨blk, off + j, none⟩ = some (.float .f64 d[j]!.1) := (rw_holds h j hj).1
theorem rw_frozen {w0 w : World} {blk off : Nat} {d : Array F64} (h : RW w0 blk off d w) {j : Nat} (hj : j < d.size) : w.frozen? ⟨blk, off + j, none⟩ = false := (rw_holds h j hj).2
theorem rw_drew {w0 w : World} {blk off : Nat} {d : Array F64} (h : RW w0 blk off d w) (k : Nat) : RW w0 blk off d (w.drewN k) := by
  obtain ⟨hD, n, rfl⟩ := h
  exact ⟨hD, n + k, by rw [World.drewN_drewN]⟩
theorem rw_swp {w0 w : World} {blk off : Nat} {d : Array F64} (h : RW w0 blk off d w) {i j : Nat} (hi : i < d.size) (hj : j < d.size) :
    RW w0 blk off (swp d i j) (((w.setCell ⟨blk, off + i, none⟩ (.float .f64 d[j]!.1)).setCell ⟨blk, off + j, none⟩ (.float .f64 d[i]!.1)).drew) := by
  obtain ⟨⟨D, hs, hH⟩, n, rfl⟩ := h
  exact ⟨⟨D, by rw [size_swp, hs], hH⟩, n + 1, swap_worldC encF w0 blk off d n i j hi hj⟩
set_option maxHeartbeats 4000000 in
set_option maxRecDepth 1000000 in
theorem swapRange_calls (blk off cap a b n lo hi : Nat) (d : Array F64) (w0 w : World) (hR : RW w0 blk off d w) (hab : a + n ≤ b ∨ b + n ≤ a) (ha : lo ≤ a) (hb : lo ≤ b) (ha2 : a + n ≤ hi) (hb2 : b + n ≤ hi) (hh : hi ≤ d.size) (hsz : d.size ≤ 1000000) :
    Calls Try.prog 40 #[.slice (some ⟨blk, off, none⟩) d.size cap, .int .i64 a, .int .i64 b, .int .i64 n, .func (.func 30) #[] #[]] w fun e w' => e = .returned (.tuple #[]) ∧ ∃ d', Swr a b n lo hi d d' ∧ RW w0 blk off d' w' := by
  have HR := Aside0.mk hR
  clear hR
  go_enter Try.func40, Try.ntmps40
  go_wp2_with fail
  go_loopg [10] n (fun gk v10 w' => ∃ (i : Nat) (c : Array F64), v10 = .int .i64 (i : Int) ∧ Aside0 (i + gk = n) ∧ Aside0 (Swr a b i lo hi d c) ∧ Aside0 (RW w0 blk off c w'))
  case atStart => exact ⟨0, d, rfl, ⟨by omega⟩, ⟨swr_nil _ _ _ _ _⟩, HR⟩
  case round =>
    clear HR
    obtain ⟨i, c, rfl, hk, HS, HR⟩ := hrel
    have hkk := hk.out
    have hcs := HS.out.1
    by_cases hi' : i < n
    · have c1 : decide ((i : Int) < (n : Int)) = true := decide_eq_true (by omega)
      have wi : IntKind.i64.wrap ((i : Int) + 1) = ((i + 1 : Nat) : Int) := by rw [IntKind.wrap_i64]; omega
      have HS2 := Aside0.mk (swr_step HS.out (by omega) ha hb (by omega) (by omega) hh)
      have HR2 := Aside0.mk (rw_swp HR.out (i := a + i) (j := b + i) (by omega) (by omega))
      have ca := rw_cell HR.out (j := a + i) (by omega)
      have cb := rw_cell HR.out (j := b + i) (by omega)
      have fa := rw_frozen HR.out (j := a + i) (by omega)
      have fb := rw_frozen HR.out (j := b + i) (by omega)
      obtain ⟨p, hp⟩ : ∃ p, a + i = p := ⟨_, rfl⟩
      obtain ⟨q, hq⟩ : ∃ q, b + i = q := ⟨_, rfl⟩
      have ep : (a : Int) + (i : Int) = (p : Int) := by omega
      have eq : (b : Int) + (i : Int) = (q : Int) := by omega
      have rp : IntKind.i64.wrap (p : Int) = (p : Int) := by rw [IntKind.wrap_i64]; omega
      have rq : IntKind.i64.wrap (q : Int) = (q : Int) := by rw [IntKind.wrap_i64]; omega
      have p0 : (0 : Int) ≤ (p : Int) := by omega
      have q0 : (0 : Int) ≤ (q : Int) := by omega
      have p1 : (p : Int) < (d.size : Int) := by omega
      have q1 : (q : Int) < (d.size : Int) := by omega
      have npq : q ≠ p := by omega
      rw [hp, hq] at HS2 HR2
      rw [hp] at ca fa
      rw [hq] at cb fb
      obtain ⟨x, hx⟩ : ∃ x, c[p]!.1 = x := ⟨_, rfl⟩
      obtain ⟨y, hy⟩ : ∃ y, c[q]!.1 = y := ⟨_, rfl⟩
      rw [hx, hy] at HR2
      rw [hx] at ca
      rw [hy] at cb
      obtain ⟨ki, hki⟩ : ∃ m, gk = m + 1 := ⟨gk - 1, by omega⟩
      have HK : Aside0 (i + 1 + ki = n) := ⟨by omega⟩
      have HP := Aside0.mk (And.intro hp hq)
      subst hki
      clear HR HS hx hy hp hq hcs hkk hk
      have hst := fun (a : Addr) (v : Nat) (m : Mode) (w : World) => run_store Try.prog w a (.float .f64 v) m rfl
      go_wp2_with fail
      go_region
      all_goals go_wp2
      try rw [wi]
      go_roundg ki
      case measure => omega
      case rel => exact ⟨i + 1, _, rfl, HK, HS2, HR2⟩
    · have c1 : decide ((i : Int) < (n : Int)) = false := decide_eq_false (by omega)
      obtain rfl : i = n := by omega
      go_wp2
      go_end0
      exact ⟨rfl, c, HS.out, HR.out⟩
set_option maxHeartbeats 8000000 in
set_option maxRecDepth 1000000 in
theorem rotate_calls (blk off cap a m b : Nat) (d : Array F64) (w0 w : World) (hR : RW w0 blk off d w) (h1 : a < m) (h2 : m < b) (hb : b ≤ d.size) (hsz : d.size ≤ 1000000) :
    Calls Try.prog 39 #[.slice (some ⟨blk, off, none⟩) d.size cap, .int .i64 a, .int .i64 m, .int .i64 b, .func (.func 30) #[] #[]] w fun e w' => e = .returned (.tuple #[]) ∧ ∃ d', Rot a m b d d' ∧ RW w0 blk off d' w' := by
  have HR := Aside0.mk hR
  clear hR
  have ei : IntKind.i64.wrap ((m : Int) - (a : Int)) = ((m - a : Nat) : Int) := by rw [IntKind.wrap_i64]; omega
  have ej : IntKind.i64.wrap ((b : Int) - (m : Int)) = ((b - m : Nat) : Int) := by rw [IntKind.wrap_i64]; omega
  have ei2 : (m : Int) - (a : Int) = ((m - a : Nat) : Int) := by omega
  have ej2 : (b : Int) - (m : Int) = ((b - m : Nat) : Int) := by omega
  obtain ⟨i0, hi0⟩ : ∃ i0, m - a = i0 := ⟨_, rfl⟩
  obtain ⟨j0, hj0⟩ : ∃ j0, b - m = j0 := ⟨_, rfl⟩
  have H0 := Aside0.mk (And.intro hi0 hj0)
  rw [hi0] at ei ei2
  rw [hj0] at ej ej2
  have St : Aside0 (RotTo (fun k => d[rotI a m b k]!) a b m i0 j0 d d) := ⟨by have := rotTo_start (a := a) (m := m) (b := b) d (by omega) (by omega); rw [hi0, hj0] at this; exact this⟩
  clear hi0 hj0
  go_enter Try.func39, Try.ntmps39
  go_wp2_with fail
  go_loopg [10, 11] (i0 + j0) (fun gk v10 v11 w' => ∃ (i j : Nat) (c : Array F64), v10 = .int .i64 (i : Int) ∧ v11 = .int .i64 (j : Int) ∧ Aside0 (1 ≤ i ∧ 1 ≤ j ∧ i ≤ m - a ∧ j ≤ b - m ∧ i + j ≤ gk) ∧ Aside0 (RotTo (fun k => d[rotI a m b k]!) a b m i j d c) ∧ Aside0 (RW w0 blk off c w'))
  case atStart => exact ⟨i0, j0, d, rfl, rfl, ⟨by have := H0.out; omega⟩, St, HR⟩
  case round =>
    clear HR St ei ej ei2 ej2 H0
    obtain ⟨i, j, c, rfl, rfl, hb_, HT, HR⟩ := hrel
    have hbb := hb_.out
    have hcs := HT.out.1
    obtain ⟨p, hp⟩ : ∃ p, m - i = p := ⟨_, rfl⟩
    have ep : (m : Int) - (i : Int) = (p : Int) := by omega
    have rp : IntKind.i64.wrap (p : Int) = (p : Int) := by rw [IntKind.wrap_i64]; omega
    have HP := Aside0.mk hp
    rcases Nat.lt_trichotomy i j with hij | hij | hij
    · have t1 : ((i : Int) != (j : Int)) = true := bne_iff_ne.2 (by omega)
      have t2 : decide ((j : Int) < (i : Int)) = false := decide_eq_false (by omega)
      have t3 : decide (j < i) = false := decide_eq_false (by omega)
      obtain ⟨s, hs⟩ : ∃ s, m + j = s := ⟨_, rfl⟩
      obtain ⟨q, hq⟩ : ∃ q, s - i = q := ⟨_, rfl⟩
      obtain ⟨r, hr⟩ : ∃ r, j - i = r := ⟨_, rfl⟩
      have es : (m : Int) + (j : Int) = (s : Int) := by omega
      have rs : IntKind.i64.wrap (s : Int) = (s : Int) := by rw [IntKind.wrap_i64]; omega
      have eq : (s : Int) - (i : Int) = (q : Int) := by omega
      have rq : IntKind.i64.wrap (q : Int) = (q : Int) := by rw [IntKind.wrap_i64]; omega
      have er : (j : Int) - (i : Int) = (r : Int) := by omega
      have rr : IntKind.i64.wrap (r : Int) = (r : Int) := by rw [IntKind.wrap_i64]; omega
      have C := Aside0.mk (swapRange_calls blk off cap p q i a b c w0 wr HR.out (by omega) (by omega) (by omega) (by omega) (by omega) (by omega) (by omega))
      rw [hcs] at C
      have HB : Aside0 (1 ≤ i ∧ 1 ≤ r ∧ i ≤ m - a ∧ r ≤ b - m ∧ i + r ≤ gk - 1) := ⟨by omega⟩
      have HG : Aside0 (gk - 1 < gk) := ⟨by omega⟩
      have HT2 : Aside0 (∀ c', Swr p q i a b c c' → RotTo (fun k => d[rotI a m b k]!) a b m i r d c') := ⟨fun c' s' => by
        subst hr
        refine rotTo_right HT.out hij (by omega) ?_
        rw [← hp, ← hq, ← hs] at s'
        exact s'⟩
      clear hp hs hq hr hcs hbb hb_ HT HR hij
      go_wp2_with fail
      refine C.out.mono ?_
      rintro e w2 ⟨rfl, c', hs', hr'⟩
      have HS' := Aside0.mk (HT2.out c' hs')
      have HR' := Aside0.mk hr'
      clear hs' hr' C
      go_wp2_with fail
      go_roundg (gk - 1)
      case measure => have := HG.out; omega
      case rel => exact ⟨i, r, c', rfl, rfl, HB, HS', HR'⟩
    · subst hij
      have t1 : ((i : Int) != (i : Int)) = false := by simp
      have C := Aside0.mk (swapRange_calls blk off cap p m i a b c w0 wr HR.out (by omega) (by omega) (by omega) (by omega) (by omega) (by omega) (by omega))
      rw [hcs] at C
      have HT2 : Aside0 (∀ c', Swr p m i a b c c' → Rot a m b d c') := ⟨fun c' s' => by
        rw [← hp] at s'
        exact rotTo_end HT.out (by omega) s'⟩
      clear hp hcs hbb hb_ HT HR
      go_wp2_with fail
      refine C.out.mono ?_
      rintro e w2 ⟨rfl, c', hs', hr'⟩
      have HS' := Aside0.mk (HT2.out c' hs')
      have HR' := Aside0.mk hr'
      clear hs' hr' C
      go_wp2
      go_end0
      exact ⟨rfl, c', HS'.out, HR'.out⟩
    · have t1 : ((i : Int) != (j : Int)) = true := bne_iff_ne.2 (by omega)
      have t2 : decide ((j : Int) < (i : Int)) = true := decide_eq_true (by omega)
      have t3 : decide (j < i) = true := decide_eq_true (by omega)
      obtain ⟨r, hr⟩ : ∃ r, i - j = r := ⟨_, rfl⟩
      have er : (i : Int) - (j : Int) = (r : Int) := by omega
      have rr : IntKind.i64.wrap (r : Int) = (r : Int) := by rw [IntKind.wrap_i64]; omega
      have C := Aside0.mk (swapRange_calls blk off cap p m j a b c w0 wr HR.out (by omega) (by omega) (by omega) (by omega) (by omega) (by omega) (by omega))
      rw [hcs] at C
      have HB : Aside0 (1 ≤ r ∧ 1 ≤ j ∧ r ≤ m - a ∧ j ≤ b - m ∧ r + j ≤ gk - 1) := ⟨by omega⟩
      have HG : Aside0 (gk - 1 < gk) := ⟨by omega⟩
      have HT2 : Aside0 (∀ c', Swr p m j a b c c' → RotTo (fun k => d[rotI a m b k]!) a b m r j d c') := ⟨fun c' s' => by
        subst hr
        refine rotTo_left HT.out hij (by omega) ?_
        rw [← hp] at s'
        exact s'⟩
      clear hp hr hcs hbb hb_ HT HR hij
      go_wp2_with fail
      refine C.out.mono ?_
      rintro e w2 ⟨rfl, c', hs', hr'⟩
      have HS' := Aside0.mk (HT2.out c' hs')
      have HR' := Aside0.mk hr'
      clear hs' hr' C
      go_wp2_with fail
      go_roundg (gk - 1)
      case measure => have := HG.out; omega
      case rel => exact ⟨r, j, c', rfl, rfl, HB, HS', HR'⟩
end Go.Proofs.Ytkkfckfmjhfakaa.Mt
