/- Floats and the meter: contracts by hand, and the laws over them. -/
import Derived.Test.YtkkfckfmjhfakaaOwn
import Derived.Test.YtkkfckfmjhfakaaSym4
namespace Go.Proofs.Ytkkfckfmjhfakaa.Mt
open Go Go.RowKit Go.Proofs.YtkkfckfmjhfakaaW.PrintWords Go.Proofs.YtkkfckfmjhfakaaW.PrintLast Go.Proofs.YtkkfckfmjhfakaaW.PrintMore Go.Proofs.Ytkkfckfmjhfakaa.Mth Go.Proofs.Ytkkfckfmjhfakaa.Own Go.Proofs
set_option linter.unusedVariables false
set_option linter.unusedSimpArgs false
/-! ### The merge, and the stable sort -/
open Go.Sort
theorem sym_all (blk off cap N : Nat) (w0 : World) (hN : N ≤ 1000000) : ∀ n a m b, b - a ≤ n → a < m → m < b → b ≤ N → SymC blk off cap w0 N a m b := by
  intro n
  induction n with
  | zero => intro a m b h1 h2 h3; omega
  | succ n ih =>
    intro a m b h1 h2 h3 h4 d w hs hR s1 s2
    subst hs
    by_cases q1 : m = a + 1
    · exact sym_left blk off cap a m b d w0 w hR q1 h3 h4 hN s2
    · by_cases q2 : b = m + 1
      · exact sym_right blk off cap a m b d w0 w hR (by omega) q2 h4 hN s1
      · exact sym_mid blk off cap a m b d w0 w hR (by omega) (by omega) h4 hN s1 s2 (fun a' m' b' k1 k2 k3 k4 k5 => ih a' m' b' (by omega) k2 k3 (by omega))
theorem putRow_twice (w : World) (blk off : Nat) (d x : Array F64) (h : x.size = d.size) : putRow encF (putRow encF w blk off d) blk off x = putRow encF w blk off x := by
  unfold putRow
  rw [mapBlock_mapBlock]
  refine mapBlock_congr _ _ _ _ fun c e fr _ => ?_
  unfold putCells
  apply Array.ext_getElem?
  intro k
  simp only [Function.comp_def, Array.getElem?_mapIdx, Option.map_map]
  cases c[k]? with
  | none => rfl
  | some y =>
    simp only [Option.map_some, Function.comp_def]
    rw [h]
    split <;> rfl
theorem ins_rw (blk off cap a b : Nat) (d : Array F64) (w0 w : World) (hR : RW w0 blk off d w) (hab : a ≤ b) (hb : b ≤ d.size) (hsz : d.size ≤ 1000000) :
    Calls Try.prog 37 #[.slice (some ⟨blk, off, none⟩) d.size cap, .int .i64 a, .int .i64 b, .func (.func 30) #[] #[]] w fun e w' => e = .returned (.tuple #[]) ∧ ∃ d' : Array F64, PermIn a b d d' ∧ SortedIn ltF a b d' ∧ RW w0 blk off d' w' := by
  refine (ins_calls blk off cap a b d w (rw_holds hR) hab hb (by omega)).mono ?_
  rintro e w' ⟨rfl, k, rfl⟩
  have S := insertionSort_holds ltF_swo d a b hab hb
  refine ⟨rfl, _, S.1, S.2, ?_⟩
  obtain ⟨⟨D, hs, hH⟩, n, rfl⟩ := hR
  refine ⟨⟨D, by rw [S.1.1, hs], hH⟩, n + k, ?_⟩
  have e1 : putRow encF ((putRow encF w0 blk off d).drewN n) blk off (insertionSort ltF d a b) = (putRow encF (putRow encF w0 blk off d) blk off (insertionSort ltF d a b)).drewN n := putRow_ahead encF _ n blk off _
  rw [e1, putRow_twice _ _ _ _ _ S.1.1, World.drewN_drewN]
/-! blocks -/
def Blk (s n : Nat) (c : Array F64) : Prop := ∀ x, s ∣ x → x < n → SortedIn ltF x (min (x + s) n) c
theorem dvd_step {t x y : Nat} (h1 : t ∣ x) (h2 : t ∣ y) (h : x < y) : x + t ≤ y := by
  have h3 : t ∣ y - x := Nat.dvd_sub h2 h1
  have := Nat.le_of_dvd (by omega) h3
  omega
theorem sorted_keep {a b x y : Nat} {c c' : Array F64} (h : PermIn a b c c') (ho : y ≤ a ∨ b ≤ x) (hs : SortedIn ltF x y c) : SortedIn ltF x y c' := sorted_perm_out h ho hs
/-- One block more is sorted (first pass). -/
theorem first_step {s n a : Nat} {d c c' : Array F64} (hs : c.size = n) (hp : PermIn 0 n d c) (hd : s ∣ a) (hb : a + s ≤ n) (low : ∀ x, s ∣ x → x < a → SortedIn ltF x (x + s) c) (h1 : PermIn a (a + s) c c') (h2 : SortedIn ltF a (a + s) c') :
    c'.size = n ∧ PermIn 0 n d c' ∧ s ∣ a + s ∧ ∀ x, s ∣ x → x < a + s → SortedIn ltF x (x + s) c' := by
  refine ⟨by rw [h1.1, hs], permIn_trans _ _ _ _ _ hp (permIn_mono _ _ _ _ 0 n (by omega) hb (by omega) h1), Nat.dvd_add hd (Nat.dvd_refl s), fun x hx hlt => ?_⟩
  by_cases q : x < a
  · exact sorted_keep h1 (.inl (dvd_step hx hd q)) (low x hx q)
  · by_cases q2 : x = a
    · subst q2; exact h2
    · have := dvd_step hd hx (by omega); omega
theorem first_end {s n a : Nat} {d c c' : Array F64} (hs : c.size = n) (hp : PermIn 0 n d c) (hd : s ∣ a) (hb : n < a + s) (ha : a ≤ n) (low : ∀ x, s ∣ x → x < a → SortedIn ltF x (x + s) c) (h1 : PermIn a n c c') (h2 : SortedIn ltF a n c') :
    c'.size = n ∧ PermIn 0 n d c' ∧ Blk s n c' := by
  refine ⟨by rw [h1.1, hs], permIn_trans _ _ _ _ _ hp (permIn_mono _ _ _ _ 0 n (by omega) (Nat.le_refl _) (by omega) h1), fun x hx hlt => ?_⟩
  by_cases q : x < a
  · have e := dvd_step hx hd q
    rw [show min (x + s) n = x + s by omega]
    exact sorted_keep h1 (.inl e) (low x hx q)
  · by_cases q2 : x = a
    · subst q2; rw [show min (x + s) n = n by omega]; exact h2
    · have := dvd_step hd hx (by omega); omega
/-- What holds while blocks of s are merged to blocks of 2 s. -/
def Mrg (s n a : Nat) (c : Array F64) : Prop := 2 * s ∣ a ∧ (∀ x, 2 * s ∣ x → x < a → SortedIn ltF x (x + 2 * s) c) ∧ ∀ x, s ∣ x → a ≤ x → x < n → SortedIn ltF x (min (x + s) n) c
theorem mrg_start {s n : Nat} {c : Array F64} (h : Blk s n c) : Mrg s n 0 c := ⟨Nat.dvd_zero _, fun x _ h => by omega, fun x hx _ hn => h x hx hn⟩
theorem mrg_pre {s n a : Nat} {c : Array F64} (h : Mrg s n a c) (hb : a + s < n) : SortedIn ltF a (a + s) c ∧ SortedIn ltF (a + s) (min (a + 2 * s) n) c := by
  obtain ⟨h1, h2, h3⟩ := h
  have d1 : s ∣ a := Nat.dvd_trans (Nat.dvd_mul_left s 2) h1
  have e1 := h3 a d1 (Nat.le_refl _) (by omega)
  have e2 := h3 (a + s) (Nat.dvd_add d1 (Nat.dvd_refl s)) (by omega) hb
  rw [show min (a + s) n = a + s by omega] at e1
  rw [show min (a + s + s) n = min (a + 2 * s) n by omega] at e2
  exact ⟨e1, e2⟩
theorem mrg_step {s n a : Nat} {d c c' : Array F64} (h : Mrg s n a c) (hs : c.size = n) (hp : PermIn 0 n d c) (h0 : 0 < s) (hb : a + 2 * s ≤ n) (h1 : PermIn a (a + 2 * s) c c') (h2 : SortedIn ltF a (a + 2 * s) c') :
    c'.size = n ∧ PermIn 0 n d c' ∧ Mrg s n (a + 2 * s) c' := by
  obtain ⟨m1, m2, m3⟩ := h
  refine ⟨by rw [h1.1, hs], permIn_trans _ _ _ _ _ hp (permIn_mono _ _ _ _ 0 n (by omega) hb (by omega) h1), Nat.dvd_add m1 (Nat.dvd_refl _), fun x hx hlt => ?_, fun x hx hge hlt => sorted_keep h1 (.inr (by omega)) (m3 x hx (by omega) hlt)⟩
  by_cases q : x < a
  · exact sorted_keep h1 (.inl (dvd_step hx m1 q)) (m2 x hx q)
  · by_cases q2 : x = a
    · subst q2; exact h2
    · have := dvd_step m1 hx (by omega); omega
theorem mrg_end {s n a : Nat} {d c c' : Array F64} (h : Mrg s n a c) (hs : c.size = n) (hp : PermIn 0 n d c) (ha : a ≤ n) (hb : n < a + 2 * s) (h1 : PermIn a n c c') (h2 : SortedIn ltF a n c') :
    c'.size = n ∧ PermIn 0 n d c' ∧ Blk (2 * s) n c' := by
  obtain ⟨m1, m2, m3⟩ := h
  refine ⟨by rw [h1.1, hs], permIn_trans _ _ _ _ _ hp (permIn_mono _ _ _ _ 0 n (by omega) (Nat.le_refl _) (by omega) h1), fun x hx hlt => ?_⟩
  by_cases q : x < a
  · have e := dvd_step hx m1 q
    rw [show min (x + 2 * s) n = x + 2 * s by omega]
    exact sorted_keep h1 (.inl e) (m2 x hx q)
  · by_cases q2 : x = a
    · subst q2; rw [show min (x + 2 * s) n = n by omega]; exact h2
    · have := dvd_step m1 hx (by omega); omega
theorem mrg_rest {s n a : Nat} {c : Array F64} (h : Mrg s n a c) (hb : n ≤ a + s) : SortedIn ltF a n c := by
  by_cases q : a < n
  · have e := h.2.2 a (Nat.dvd_trans (Nat.dvd_mul_left s 2) h.1) (Nat.le_refl _) q
    rw [show min (a + s) n = n by omega] at e
    exact e
  · intro i j h1 h2 h3; omega
theorem blk_all {s n : Nat} {c : Array F64} (h : Blk s n c) (hn : n ≤ s) : SortedIn ltF 0 n c := by
  by_cases q : 0 < n
  · have e := h 0 (Nat.dvd_zero _) q
    rw [show min (0 + s) n = n by omega] at e
    exact e
  · intro i j h1 h2 h3; omega
set_option maxHeartbeats 16000000 in
set_option maxRecDepth 1000000 in
theorem stable_calls (blk off cap n : Nat) (d : Array F64) (w0 w : World) (hR : RW w0 blk off d w) (hn : d.size = n) (hsz : n ≤ 1000000) :
    Calls Try.prog 35 #[.slice (some ⟨blk, off, none⟩) n cap, .int .i64 n, .func (.func 30) #[] #[]] w fun e w' => e = .returned (.tuple #[]) ∧ ∃ d' : Array F64, PermIn 0 n d d' ∧ SortedIn ltF 0 n d' ∧ RW w0 blk off d' w' := by
  have HR := Aside0.mk hR
  have HN := Aside0.mk hn
  have SY := Aside0.mk (sym_all blk off cap n w0 hsz)
  clear hR hn
  go_enter Try.func35, Try.ntmps35
  go_wp2_with fail
  go_loopg [7, 8] n (fun gk v7 v8 w' => ∃ (a b : Nat) (c : Array F64), v7 = .int .i64 (a : Int) ∧ v8 = .int .i64 (b : Int) ∧ Aside0 (a ≤ n ∧ b = a + 20 ∧ 20 ∣ a ∧ n - a ≤ gk) ∧ Aside0 (c.size = n ∧ PermIn 0 n d c) ∧ Aside0 (∀ x, 20 ∣ x → x < a → SortedIn ltF x (x + 20) c) ∧ Aside0 (RW w0 blk off c w'))
  case atStart => exact ⟨0, 20, d, rfl, rfl, ⟨by omega⟩, ⟨HN.out, permIn_refl _ _ _⟩, ⟨fun x _ h => by omega⟩, HR⟩
  case round =>
    clear HR
    obtain ⟨a, b, c, rfl, rfl, hb_, hp_, hl_, HR⟩ := hrel
    have hbb := hb_.out
    by_cases hlt : b ≤ n
    · have t1 : decide ((b : Int) ≤ (n : Int)) = true := decide_eq_true (by omega)
      have t2 : decide (b ≤ n) = true := decide_eq_true hlt
      obtain ⟨b2, hb2⟩ : ∃ b2, b + 20 = b2 := ⟨_, rfl⟩
      have eb : (b : Int) + 20 = (b2 : Int) := by omega
      have rb : IntKind.i64.wrap (b2 : Int) = (b2 : Int) := by rw [IntKind.wrap_i64]; omega
      have C := ins_rw blk off cap a b c w0 wr HR.out (by omega) (by rw [hp_.out.1]; omega) (by rw [hp_.out.1]; exact hsz)
      rw [hp_.out.1] at C
      have HC := Aside0.mk C
      have HB : Aside0 (b ≤ n ∧ b2 = b + 20 ∧ 20 ∣ b ∧ n - b ≤ gk - 1) := ⟨by omega⟩
      have HG : Aside0 (gk - 1 < gk) := ⟨by omega⟩
      have ST : Aside0 (∀ c', PermIn a b c c' → SortedIn ltF a b c' → (c'.size = n ∧ PermIn 0 n d c') ∧ ∀ x, 20 ∣ x → x < b → SortedIn ltF x (x + 20) c') := ⟨fun c' h1 h2 => by
        obtain rfl : b = a + 20 := hbb.2.1
        have q := first_step (s := 20) (n := n) (a := a) (d := d) (c := c) (c' := c') hp_.out.1 hp_.out.2 hbb.2.2.1 (by omega) hl_.out h1 h2
        exact ⟨⟨q.1, q.2.1⟩, q.2.2.2⟩⟩
      clear hbb hb_ hp_ hl_ HR C hb2 hlt
      go_wp2_with fail
      refine HC.out.mono ?_
      rintro e w2 ⟨rfl, c', h1, h2, hw⟩
      have SS := Aside0.mk (ST.out c' h1 h2)
      have HW := Aside0.mk hw
      clear h1 h2 hw HC
      go_wp2_with fail
      go_roundg (gk - 1)
      case measure => have := HG.out; omega
      case rel => exact ⟨b, b2, c', rfl, rfl, HB, ⟨SS.out.1⟩, ⟨SS.out.2⟩, HW⟩
    · have t1 : decide ((b : Int) ≤ (n : Int)) = false := decide_eq_false (by omega)
      have t2 : decide (b ≤ n) = false := decide_eq_false hlt
      have C := ins_rw blk off cap a n c w0 wr HR.out (by omega) (by rw [hp_.out.1]; omega) (by rw [hp_.out.1]; exact hsz)
      rw [hp_.out.1] at C
      have HC := Aside0.mk C
      have ST : Aside0 (∀ c', PermIn a n c c' → SortedIn ltF a n c' → c'.size = n ∧ PermIn 0 n d c' ∧ Blk 20 n c') := ⟨fun c' h1 h2 =>
        first_end (s := 20) (n := n) (a := a) (d := d) (c := c) (c' := c') hp_.out.1 hp_.out.2 hbb.2.2.1 (by omega) hbb.1 hl_.out h1 h2⟩
      clear hbb hb_ hp_ hl_ HR C hlt
      go_wp2_with fail
      refine HC.out.mono ?_
      rintro e w2 ⟨rfl, c', h1, h2, hw⟩
      have SS := Aside0.mk (ST.out c' h1 h2)
      have HW := Aside0.mk hw
      clear h1 h2 hw HC ST t1 t2
      go_wp2_with fail
      go_loopg [6] n (fun gk v6 w' => ∃ (s : Nat) (c : Array F64), v6 = .int .i64 (s : Int) ∧ Aside0 (1 ≤ s ∧ s ≤ 2000000 ∧ n - s ≤ gk) ∧ Aside0 (c.size = n ∧ PermIn 0 n d c ∧ Blk s n c) ∧ Aside0 (RW w0 blk off c w'))
      case atStart => exact ⟨20, c', rfl, ⟨by omega⟩, SS, HW⟩
      case round =>
        clear HW SS
        obtain ⟨s, c, rfl, hb_, hp_, HR⟩ := hrel
        have hbb := hb_.out
        by_cases hlt : s < n
        · have t1 : decide ((s : Int) < (n : Int)) = true := decide_eq_true (by omega)
          have t2 : decide (s < n) = true := decide_eq_true hlt
          obtain ⟨t, ht⟩ : ∃ t, 2 * s = t := ⟨_, rfl⟩
          have et : 2 * (s : Int) = (t : Int) := by omega
          have et' : (s : Int) * 2 = (t : Int) := by omega
          have rt : IntKind.i64.wrap (t : Int) = (t : Int) := by rw [IntKind.wrap_i64]; omega
          have HT : Aside0 (1 ≤ s ∧ s < n ∧ 2 * s = t) := ⟨by omega⟩
          have HB2 : Aside0 (1 ≤ t ∧ t ≤ 2000000 ∧ n - t ≤ gk - 1) := ⟨by omega⟩
          have HG : Aside0 (gk - 1 < gk) := ⟨by omega⟩
          have S0 : Aside0 (c.size = n ∧ PermIn 0 n d c ∧ Mrg s n 0 c) := ⟨hp_.out.1, hp_.out.2.1, mrg_start hp_.out.2.2⟩
          clear hbb hb_ hp_ hlt ht
          obtain ⟨G, rfl⟩ : ∃ G, G = gk := ⟨gk, rfl⟩
          go_wp2_with fail
          go_loopg [7, 8] n (fun gk v7 v8 w' => ∃ (a b : Nat) (c : Array F64), v7 = .int .i64 (a : Int) ∧ v8 = .int .i64 (b : Int) ∧ Aside0 (a ≤ n ∧ b = a + t ∧ n - a ≤ gk) ∧ Aside0 (c.size = n ∧ PermIn 0 n d c ∧ Mrg s n a c) ∧ Aside0 (RW w0 blk off c w'))
          case atStart => exact ⟨0, t, c, rfl, rfl, ⟨by omega⟩, S0, HR⟩
          case round =>
            clear HR S0
            obtain ⟨a, b, c, rfl, rfl, hb_, hp_, HR⟩ := hrel
            have hbb := hb_.out
            have htt := HT.out
            obtain ⟨m, hm⟩ : ∃ m, a + s = m := ⟨_, rfl⟩
            have em : (a : Int) + (s : Int) = (m : Int) := by omega
            have rm : IntKind.i64.wrap (m : Int) = (m : Int) := by rw [IntKind.wrap_i64]; omega
            by_cases hlt : b ≤ n
            · have u1 : decide ((b : Int) ≤ (n : Int)) = true := decide_eq_true (by omega)
              have u2 : decide (b ≤ n) = true := decide_eq_true hlt
              obtain ⟨b2, hb2⟩ : ∃ b2, b + t = b2 := ⟨_, rfl⟩
              have eb : (b : Int) + (t : Int) = (b2 : Int) := by omega
              have rb : IntKind.i64.wrap (b2 : Int) = (b2 : Int) := by rw [IntKind.wrap_i64]; omega
              have PRE := mrg_pre hp_.out.2.2 (by omega)
              rw [show min (a + 2 * s) n = b by omega, hm] at PRE
              have HC := Aside0.mk (SY.out n a m b (by omega) (by omega) (by omega) hlt c _ hp_.out.1 HR.out PRE.1 PRE.2)
              have HB : Aside0 (b ≤ n ∧ b2 = b + t ∧ n - b ≤ gk - 1) := ⟨by omega⟩
              have HG2 : Aside0 (gk - 1 < gk) := ⟨by omega⟩
              have ST : Aside0 (∀ c', PermIn a b c c' → SortedIn ltF a b c' → c'.size = n ∧ PermIn 0 n d c' ∧ Mrg s n b c') := ⟨fun c' h1 h2 => by
                obtain rfl : b = a + 2 * s := by omega
                exact mrg_step hp_.out.2.2 hp_.out.1 hp_.out.2.1 (by omega) hlt h1 h2⟩
              clear hbb hb_ hp_ HR PRE hb2 hlt htt hm
              go_wp2_with fail
              refine HC.out.mono ?_
              rintro e w3 ⟨rfl, c', h1, h2, hw⟩
              have SS := Aside0.mk (ST.out c' h1 h2)
              have HW := Aside0.mk hw
              clear h1 h2 hw HC ST
              go_wp2_with fail
              go_roundg (gk - 1)
              case measure => have := HG2.out; omega
              case rel => exact ⟨b, b2, c', rfl, rfl, HB, SS, HW⟩
            · have u1 : decide ((b : Int) ≤ (n : Int)) = false := decide_eq_false (by omega)
              have u2 : decide (b ≤ n) = false := decide_eq_false hlt
              by_cases hmn : m < n
              · have v1 : decide ((m : Int) < (n : Int)) = true := decide_eq_true (by omega)
                have v2 : decide (m < n) = true := decide_eq_true hmn
                have PRE := mrg_pre hp_.out.2.2 (by omega)
                rw [show min (a + 2 * s) n = n by omega, hm] at PRE
                have HC := Aside0.mk (SY.out n a m n (by omega) (by omega) hmn (Nat.le_refl _) c _ hp_.out.1 HR.out PRE.1 PRE.2)
                have ST : Aside0 (∀ c', PermIn a n c c' → SortedIn ltF a n c' → c'.size = n ∧ PermIn 0 n d c' ∧ Blk t n c') := ⟨fun c' h1 h2 => by
                  have q := mrg_end hp_.out.2.2 hp_.out.1 hp_.out.2.1 hbb.1 (by omega) h1 h2
                  rw [htt.2.2] at q
                  exact q⟩
                clear hbb hb_ hp_ HR PRE hlt htt hm hmn
                go_wp2_with fail
                refine HC.out.mono ?_
                rintro e w3 ⟨rfl, c', h1, h2, hw⟩
                have SS := Aside0.mk (ST.out c' h1 h2)
                have HW := Aside0.mk hw
                clear h1 h2 hw HC ST
                go_wp2_with fail
                go_roundg (G - 1)
                case measure => have := HG.out; omega
                case rel => exact ⟨t, c', rfl, HB2, SS, HW⟩
              · have v1 : decide ((m : Int) < (n : Int)) = false := decide_eq_false (by omega)
                have v2 : decide (m < n) = false := decide_eq_false hmn
                have SS : Aside0 (c.size = n ∧ PermIn 0 n d c ∧ Blk t n c) := ⟨by
                  have q := mrg_end hp_.out.2.2 hp_.out.1 hp_.out.2.1 hbb.1 (by omega) (permIn_refl _ _ _) (mrg_rest hp_.out.2.2 (by omega))
                  rw [htt.2.2] at q
                  exact q⟩
                clear hbb hb_ hp_ hlt htt hm hmn
                go_wp2_with fail
                go_roundg (G - 1)
                case measure => have := HG.out; omega
                case rel => exact ⟨t, c, rfl, HB2, SS, HR⟩
        · have t1 : decide ((s : Int) < (n : Int)) = false := decide_eq_false (by omega)
          have t2 : decide (s < n) = false := decide_eq_false hlt
          have FIN := Aside0.mk (blk_all hp_.out.2.2 (by omega))
          clear hbb hb_ hlt
          go_wp2
          go_end0
          exact ⟨rfl, c, hp_.out.2.1, FIN.out, HR.out⟩
end Go.Proofs.Ytkkfckfmjhfakaa.Mt
