/- The law EthTwo: its walk, and its plain law, joined: for every input it returns true and leaves old memory as it was. -/
import Derived.Test.YtbecpkkhpjigbaaWd
import Derived.Test.YtbecpkkhpjigbaaPx16
namespace Go.Proofs.Ytbecpkkhpjigbaa.Hand
open Go Go.RowKit Go.Proofs.Ytbecpkkhpjigbaa.P Go.Proofs.YtbecpkkhpjigbaaW.PrintWords Go.Proofs.YtbecpkkhpjigbaaW.PrintLast Go.Proofs.YtbecpkkhpjigbaaW.PrintMore Go.Proofs.Ytbecpkkhpjigbaa.Mth Go.Proofs.Ytbecpkkhpjigbaa.Wd
set_option linter.unusedVariables false
set_option linter.unusedSimpArgs false
theorem EthTwo (s : ByteArray) (a c : Int) (w : World) (hs : s.size ≤ 140737488351232) (h0 : (Lit.int .i64 a).wf = true) (h1 : (Lit.int .i64 c).wf = true) :
    Calls Try.prog 9 #[.string s, .int .i64 a, .int .i64 c] w fun e w' => e = .returned (.bool true) ∧ Below w.heap.size w w' := by
  obtain ⟨v0, v1⟩ := vlan_bd a
  obtain ⟨u0, u1⟩ := vlan_bd c
  obtain ⟨k1, e1⟩ := tagE s (Int.tmod (Go.bits .and .i64 a 65535) 4095) hs
  obtain ⟨k2, e2⟩ := tagE s (Int.tmod (Go.bits .and .i64 c 65535) 4095) hs
  simp only at e1 e2
  have key : ∃ K, ∀ k, K ≤ k → aqueductlaw06_EthTwo.f k s a c = some true := by
    unfold aqueductlaw06_EthTwo.f
    generalize Int.tmod (Go.bits .and .i64 a 65535) 4095 = v at *
    generalize Int.tmod (Go.bits .and .i64 c 65535) 4095 = u at *
    have t1 := tagS_bt (B_bt s) v
    have n1 := tagS_len (B s) v
    by_cases c1 : (tagS (B s) v).2 = 0
    rotate_left
    · refine ⟨k1 + k2 + 41, fun k hk => ?_⟩
      have q : (tagS (B s) v).2 = (tagS (B s) u).2 := by
        unfold tagS at c1 ⊢
        by_cases p : (parseS (B s)).e = 0
        · rw [if_pos p] at c1 ⊢
          rw [if_pos p, if_neg (show ¬ v = -1 by omega), if_neg (show ¬ u = -1 by omega)]
          rw [if_neg (show ¬ v = -1 by omega)] at c1
          unfold buildS at c1 ⊢
          by_cases o : okB (parseS (B s)).d (parseS (B s)).s v (parseS (B s)).p (parseS (B s)).t (parseS (B s)).b
          · rw [if_pos o] at c1; exact absurd rfl c1
          · rw [if_neg o, if_neg (fun o' => o (ok_any o' u0 v0 v1))]
        · rw [if_neg p, if_neg p]
      rw [e1 _ (by omega), e2 _ (by omega)]
      simp only [Option.bind_some]
      rw [if_neg c1]
      obtain ⟨k, rfl⟩ : ∃ m, k = m + 1 := ⟨k - 1, by omega⟩
      simp only [aqueductlaw06_EthTwo.j0, if_true]
      rw [if_pos q, fixed06 _ (by omega)]; rfl
    obtain ⟨p0, o1, q1⟩ := tag_inv c1
    rw [if_neg (by omega)] at o1 q1
    have o2 := ok_any o1 v0 u0 u1
    have q2 : tagS (B s) u = ((parseS (B s)).d ++ (parseS (B s)).s ++ headS u (parseS (B s)).p (parseS (B s)).t ++ (parseS (B s)).b, 0) := by
      unfold tagS buildS
      rw [if_pos p0, if_neg (show ¬ u = -1 by omega), if_pos o2]
    obtain ⟨k3, e3⟩ := tagE (mk (tagS (B s) v).1) u (by rw [mk_size]; omega)
    obtain ⟨k4, e4⟩ := tagE (mk (tagS (B s) v).1) v (by rw [mk_size]; omega)
    simp only at e3 e4
    have q3 : tagS (B (mk (tagS (B s) v).1)) u = tagS (B s) u := by
      rw [B_mk t1, q1, tag_of o1, if_neg (by omega), q2]
      unfold buildS; rw [if_pos o2]
    have q4 : tagS (B (mk (tagS (B s) v).1)) v = tagS (B s) v := by
      rw [B_mk t1, q1, tag_of o1, if_neg (by omega)]
      unfold buildS; rw [if_pos o1]
    rw [q3] at e3
    rw [q4] at e4
    have c2 : (tagS (B s) u).2 = 0 := by rw [q2]
    refine ⟨k1 + k2 + k3 + k4 + 41, fun k hk => ?_⟩
    rw [e1 _ (by omega), e2 _ (by omega)]
    simp only [Option.bind_some]
    rw [if_pos c1, show ((tagS (B s) u).2 != 0) = false from bne_eq_false_iff_eq.2 c2]
    obtain ⟨k, rfl⟩ : ∃ m, k = m + 1 := ⟨k - 1, by omega⟩
    simp only [aqueductlaw06_EthTwo.j0]
    rw [if_neg (by decide), e3 _ (by omega), e4 _ (by omega)]
    simp only [Option.bind_some]
    rw [fixed06 _ (by omega), if_pos c2, if_pos c1, if_true, if_true]; rfl
  obtain ⟨K, e⟩ := key
  exact aqueductlaw06_EthTwo.calls K s a c true w (e K (Nat.le_refl _)) rfl
end Go.Proofs.Ytbecpkkhpjigbaa.Hand
