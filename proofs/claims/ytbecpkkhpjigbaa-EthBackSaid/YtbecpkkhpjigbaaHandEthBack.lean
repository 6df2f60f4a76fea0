/- The law EthBack: its walk, and its plain law, joined: for every input it returns true and leaves old memory as it was. -/
import Derived.Test.YtbecpkkhpjigbaaWd
import Derived.Test.YtbecpkkhpjigbaaPx13
namespace Go.Proofs.Ytbecpkkhpjigbaa.Hand
open Go Go.RowKit Go.Proofs.Ytbecpkkhpjigbaa.P Go.Proofs.YtbecpkkhpjigbaaW.PrintWords Go.Proofs.YtbecpkkhpjigbaaW.PrintLast Go.Proofs.YtbecpkkhpjigbaaW.PrintMore Go.Proofs.Ytbecpkkhpjigbaa.Mth Go.Proofs.Ytbecpkkhpjigbaa.Wd
set_option linter.unusedVariables false
set_option linter.unusedSimpArgs false
theorem mk_eq_iff {l m : List Nat} (hl : Bt l) (hm : Bt m) : ((mk l).toList == (mk m).toList) = true ↔ l = m := by
  simp only [beq_iff_eq]
  constructor
  · intro h; have := toList_B h; rwa [B_mk hl, B_mk hm] at this
  · rintro rfl; rfl
theorem parse_or (l : List Nat) : (parseS l).e = 0 ∨ parseS l = Fr.no (parseS l).e := by
  obtain ⟨r, hr⟩ : ∃ r, parseS l = r := ⟨_, rfl⟩
  rw [hr]
  unfold parseS at hr
  (repeat' split at hr) <;> subst hr <;> first | exact .inl rfl | exact .inr rfl
theorem back_j0 (s : ByteArray) (hs : s.size ≤ 140737488351232) : ∃ K, ∀ k, K ≤ k → aqueductlaw06_EthBack.j0 k s = some true := by
  obtain ⟨b1, b2, b3⟩ := Fr_bt (B_bt s)
  obtain ⟨l1, l2, l3⟩ := parse_len (B s)
  rw [B_length] at l1 l2 l3
  by_cases c : (parseS (B s)).e = 0
  · obtain ⟨ho, hb⟩ := build_parse (B_bt s) c
    obtain ⟨k1, e1⟩ := buildM (parseS (B s)).v (parseS (B s)).p (parseS (B s)).t b1 b2 b3 (by omega) (by omega) (by omega)
    simp only at e1
    refine ⟨k1 + 41, fun k hk => ?_⟩
    obtain ⟨k, rfl⟩ : ∃ m, k = m + 1 := ⟨k - 1, by omega⟩
    have e1 := e1 k (by omega)
    unfold buildS at e1
    rw [if_pos ho, hb, mk_B] at e1
    simp only [aqueductlaw06_EthBack.j0]
    rw [parseE]
    simp only [Option.bind_some, Fr.out]
    rw [if_pos c, e1]
    simp only [Option.bind_some, if_true]
    rw [fixed06 _ (by omega)]; rfl
  · refine ⟨41, fun k hk => ?_⟩
    obtain ⟨k, rfl⟩ : ∃ m, k = m + 1 := ⟨k - 1, by omega⟩
    have hn : parseS (B s) = Fr.no (parseS (B s)).e := (parse_or (B s)).resolve_left c
    have hm : (mk ([] : List Nat)).toList = [] := by rw [toList_eq]; rfl
    simp only [aqueductlaw06_EthBack.j0]
    rw [parseE, hn, fixed06 _ (by omega)]
    simp only [Option.bind_some, Fr.out, Fr.no]
    rw [if_neg c]
    simp only [hm]
    rfl
theorem EthBack (d s : ByteArray) (v p t : Int) (b d' s' : ByteArray) (v' p' t' : Int) (b' x : ByteArray) (w : World)
    (hd : d.size ≤ 140737488351232) (hs : s.size ≤ 140737488351232) (h0 : (Lit.int .i64 v).wf = true) (h1 : (Lit.int .i64 p).wf = true) (h2 : (Lit.int .i64 t).wf = true) (hb : b.size ≤ 140737488351232)
    (gd : d'.size ≤ 140737488351232) (gs : s'.size ≤ 140737488351232) (g0 : (Lit.int .i64 v').wf = true) (g1 : (Lit.int .i64 p').wf = true) (g2 : (Lit.int .i64 t').wf = true) (gb : b'.size ≤ 140737488351232)
    (hx : x.size ≤ 140737488351232) :
    Calls Try.prog 6 #[.agg #[.string d, .string s, .int .i64 v, .int .i64 p, .int .i64 t, .string b], .agg #[.string d', .string s', .int .i64 v', .int .i64 p', .int .i64 t', .string b'], .string x] w fun e w' => e = .returned (.bool true) ∧ Below w.heap.size w w' := by
  obtain ⟨k1, e1⟩ := buildE d s b v p t hd hs hb
  obtain ⟨k2, e2⟩ := buildE d' s' b' v' p' t' gd gs gb
  obtain ⟨k3, e3⟩ := back_j0 x hx
  simp only at e1 e2
  have bt1 := buildS_bt v p t (B_bt d) (B_bt s) (B_bt b)
  have bt2 := buildS_bt v' p' t' (B_bt d') (B_bt s') (B_bt b')
  have hlen := buildS_len (B d) (B s) (B b) v p t
  refine aqueductlaw06_EthBack.calls (k1 + k2 + k3 + 40) d s v p t b d' s' v' p' t' b' x true w ?_ rfl
  unfold aqueductlaw06_EthBack.f
  rw [e1 _ (by omega), e2 _ (by omega)]
  simp only [Option.bind_some]
  by_cases ho : okB (B d) (B s) v p t (B b)
  · have q1 : buildS (B d) (B s) v p t (B b) = (B d ++ B s ++ headS v p t ++ B b, 0) := by unfold buildS; rw [if_pos ho]
    have pb := parse_build ho
    rw [q1] at bt1 hlen ⊢
    have hlen' : (B d ++ B s ++ headS v p t ++ B b).length ≤ 1518 := hlen
    rw [if_pos rfl, parseE, B_mk bt1, pb]
    simp only [Option.bind_some, Fr.out, if_true, mk_B]
    rw [if_neg (by simp), if_neg (by rw [mk_size]; omega)]
    by_cases ho' : okB (B d') (B s') v' p' t' (B b')
    · have q2 : buildS (B d') (B s') v' p' t' (B b') = (B d' ++ B s' ++ headS v' p' t' ++ B b', 0) := by unfold buildS; rw [if_pos ho']
      have pb' := parse_build ho'
      rw [q2] at bt2 ⊢
      rw [if_pos rfl]
      have key : (((mk (B d ++ B s ++ headS v p t ++ B b)).toList == (mk (B d' ++ B s' ++ headS v' p' t' ++ B b')).toList) != (d.toList == d'.toList && (s.toList == s'.toList && (v == v' && (p == p' && (t == t' && (b.toList == b'.toList))))))) = false := by
        rw [bne_eq_false_iff_eq, Bool.eq_iff_iff, mk_eq_iff bt1 bt2]
        simp only [beq_iff_eq, Bool.and_eq_true]
        constructor
        · intro e
          rw [e, pb'] at pb
          simp only [Fr.mk.injEq] at pb
          obtain ⟨x1, x2, x3, x4, x5, x6, -⟩ := pb
          rw [B_inj x1, B_inj x2, B_inj x6]
          exact ⟨rfl, rfl, x3.symm, x4.symm, x5.symm, rfl⟩
        · rintro ⟨x1, x2, rfl, rfl, rfl, x6⟩
          rw [toList_B x1, toList_B x2, toList_B x6]
      rw [key, if_neg (by decide)]
      exact e3 _ (by omega)
    · have q2 : (buildS (B d') (B s') v' p' t' (B b')).2 = 61 := by unfold buildS; rw [if_neg ho']
      rw [q2, if_neg (by decide)]
      exact e3 _ (by omega)
  · have q1 : (buildS (B d) (B s) v p t (B b)).2 = 61 := by unfold buildS; rw [if_neg ho]
    rw [q1, if_neg (by decide)]
    exact e3 _ (by omega)
end Go.Proofs.Ytbecpkkhpjigbaa.Hand
