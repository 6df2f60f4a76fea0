/- The law EthOnly: its walk, and its plain law, joined: for every input it returns true and leaves old memory as it was. -/
import Derived.Test.YtbecpkkhpjigbaaWd
import Derived.Test.YtbecpkkhpjigbaaPx14
namespace Go.Proofs.Ytbecpkkhpjigbaa.Hand
open Go Go.RowKit Go.Proofs.Ytbecpkkhpjigbaa.P Go.Proofs.YtbecpkkhpjigbaaW.PrintWords Go.Proofs.YtbecpkkhpjigbaaW.PrintLast Go.Proofs.YtbecpkkhpjigbaaW.PrintMore Go.Proofs.Ytbecpkkhpjigbaa.Mth Go.Proofs.Ytbecpkkhpjigbaa.Wd
set_option linter.unusedVariables false
set_option linter.unusedSimpArgs false
theorem EthOnly (s : ByteArray) (a : Int) (w : World) (hs : s.size ≤ 140737488351232) (h0 : (Lit.int .i64 a).wf = true) :
    Calls Try.prog 7 #[.string s, .int .i64 a] w fun e w' => e = .returned (.bool true) ∧ Below w.heap.size w w' := by
  obtain ⟨v0, v1⟩ := vlan_bd a
  obtain ⟨k1, e1⟩ := tagE s (Int.tmod (Go.bits .and .i64 a 65535) 4095) hs
  obtain ⟨k2, e2⟩ := tagE s (-1) hs
  simp only at e1 e2
  have key : ∃ K, ∀ k, K ≤ k → aqueductlaw06_EthOnly.f k s a = some true := by
    unfold aqueductlaw06_EthOnly.f
    generalize Int.tmod (Go.bits .and .i64 a 65535) 4095 = v at *
    have t1 := tagS_bt (B_bt s) v
    have t2 := tagS_bt (B_bt s) (-1)
    have n1 := tagS_len (B s) v
    have n2 := tagS_len (B s) (-1)
    by_cases c1 : (tagS (B s) v).2 = 0
    rotate_left
    · refine ⟨k1 + k2 + 41, fun k hk => ?_⟩
      rw [e1 _ (by omega), e2 _ (by omega)]
      simp only [Option.bind_some]
      rw [if_neg c1]
      obtain ⟨k, rfl⟩ : ∃ m, k = m + 1 := ⟨k - 1, by omega⟩
      simp only [aqueductlaw06_EthOnly.j0, if_true]
      rw [fixed06 _ (by omega)]; rfl
    by_cases c2 : (tagS (B s) (-1)).2 = 0
    rotate_left
    · refine ⟨k1 + k2 + 41, fun k hk => ?_⟩
      rw [e1 _ (by omega), e2 _ (by omega)]
      simp only [Option.bind_some]
      rw [if_pos c1, show ((tagS (B s) (-1)).2 != 0) = true from bne_iff_ne.2 c2]
      obtain ⟨k, rfl⟩ : ∃ m, k = m + 1 := ⟨k - 1, by omega⟩
      simp only [aqueductlaw06_EthOnly.j0, if_true]
      rw [fixed06 _ (by omega)]; rfl
    obtain ⟨p0, o1, q1⟩ := tag_inv c1
    obtain ⟨-, o2, q2⟩ := tag_inv c2
    rw [if_neg (by omega)] at o1 q1
    rw [if_pos rfl] at o2 q2
    obtain ⟨k3, e3⟩ := tagE (mk (tagS (B s) v).1) (-1) (by rw [mk_size]; omega)
    obtain ⟨k4, e4⟩ := tagE (mk (tagS (B s) (-1)).1) v (by rw [mk_size]; omega)
    simp only at e3 e4
    have o3 : okB (parseS (B s)).d (parseS (B s)).s v 0 (parseS (B s)).t (parseS (B s)).b := by
      obtain ⟨a1, a2, a3, a4, a5, a6, a7, a8, a9⟩ := o1
      exact ⟨a1, a2, a3, a4, by omega, by omega, fun _ => rfl, a8, a9⟩
    have q3 : tagS (B (mk (tagS (B s) v).1)) (-1) = tagS (B s) (-1) := by
      rw [B_mk t1, q1, tag_of o1, if_pos rfl, q2]
      unfold buildS; rw [if_pos o2]
    have q4 : tagS (B (mk (tagS (B s) (-1)).1)) v = ((parseS (B s)).d ++ (parseS (B s)).s ++ headS v 0 (parseS (B s)).t ++ (parseS (B s)).b, 0) := by
      rw [B_mk t2, q2, tag_of o2, if_neg (by omega)]
      unfold buildS; rw [if_pos o3]
    have t4 := tagS_bt (B_bt (mk (tagS (B s) (-1)).1)) v
    rw [q3] at e3
    rw [q4] at e4 t4
    have z : (mk (tagS (B s) v).1).size = (mk (tagS (B s) (-1)).1).size + 4 := by
      rw [mk_size, mk_size, q1, q2]
      have z1 := headS_len v (parseS (B s)).p (parseS (B s)).t
      have z2 := headS_len (-1) 0 (parseS (B s)).t
      rw [if_neg (by omega)] at z1
      rw [if_pos rfl] at z2
      simp only [List.length_append]
      omega
    have z' : ((mk (tagS (B s) v).1).size : Int) = wrap64 (((mk (tagS (B s) (-1)).1).size : Int) + 4) := by
      rw [z, wrap64_in (by rw [mk_size]; omega) (by rw [mk_size]; omega)]; rfl
    have p1 : eth_Parse.f (mk (tagS (B s) v).1) = some (Fr.out ⟨(parseS (B s)).d, (parseS (B s)).s, v, (parseS (B s)).p, (parseS (B s)).t, (parseS (B s)).b, 0⟩) := by
      rw [parseE, B_mk t1, q1, parse_build o1]
    have p4 : eth_Parse.f (mk ((parseS (B s)).d ++ (parseS (B s)).s ++ headS v 0 (parseS (B s)).t ++ (parseS (B s)).b)) = some (Fr.out ⟨(parseS (B s)).d, (parseS (B s)).s, v, 0, (parseS (B s)).t, (parseS (B s)).b, 0⟩) := by
      rw [parseE, B_mk t4, parse_build o3]
    refine ⟨k1 + k2 + k3 + k4 + 41, fun k hk => ?_⟩
    rw [e1 _ (by omega), e2 _ (by omega)]
    simp only [Option.bind_some]
    rw [if_pos c1, show ((tagS (B s) (-1)).2 != 0) = false from bne_eq_false_iff_eq.2 c2]
    obtain ⟨k, rfl⟩ : ∃ m, k = m + 1 := ⟨k - 1, by omega⟩
    simp only [aqueductlaw06_EthOnly.j0]
    rw [if_neg (by decide), e3 _ (by omega), e4 _ (by omega), parseE s, p1]
    simp only [Option.bind_some]
    rw [p4]
    simp only [Option.bind_some, Fr.out]
    rw [fixed06 _ (by omega)]
    simp only [p0, c2, if_true]
    rw [if_pos z']; rfl
  obtain ⟨K, e⟩ := key
  exact aqueductlaw06_EthOnly.calls K s a true w (e K (Nat.le_refl _)) rfl
end Go.Proofs.Ytbecpkkhpjigbaa.Hand
