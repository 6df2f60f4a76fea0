/- A memory: its functions' contracts, by hand, and the laws over them. -/
import Derived.Test.YtllpfadjdecjiaaMemP
import Derived.Test.YtllpfadjdecjiaaMemC
import Derived.Laws.Pointers
import Derived.WalkLawsBesides
import Derived.Deep.QuietTactic
import Derived.BigQuiet
import Derived.Deep.RegionWith
import Derived.Deep.RegionLaw
import Derived.Lib.BufferWrite
namespace Go.Proofs.Ytllpfadjdecjiaa.Hand
open Go Go.RowKit Go.Proofs.YtllpfadjdecjiaaW.PrintWords Go.Proofs.YtllpfadjdecjiaaW.PrintLast Go.Proofs.YtllpfadjdecjiaaW.PrintMore Go.Proofs.Ytllpfadjdecjiaa.Own Go.Proofs.Ytllpfadjdecjiaa.P Go.Proofs.Ytllpfadjdecjiaa Go.Proofs.Ytllpfadjdecjiaa.Mem
set_option linter.unusedVariables false
set_option linter.unusedSimpArgs false
set_option maxHeartbeats 8000000 in
set_option maxRecDepth 100000 in
theorem MemApart (s0 t0 : ByteArray) (w : World) (hs0 : s0.size ≤ 140737488351232) (ht0 : t0.size ≤ 140737488351232) :
    Calls Try.prog 7 #[.string s0, .string t0] w fun e w' => e = .returned (.bool true) ∧ Below w.heap.size w w' := by
  obtain ⟨s, es⟩ : ∃ s, s0.extract 0 (min (s0.size : Int) 64).toNat = s := ⟨_, rfl⟩
  obtain ⟨t, et⟩ : ∃ t, t0.extract 0 (min (t0.size : Int) 64).toNat = t := ⟨_, rfl⟩
  have hs : s.size ≤ 64 := by rw [← es, ByteArray.size_extract]; omega
  have ht : t.size ≤ 64 := by rw [← et, ByteArray.size_extract]; omega
  have HSS := Aside0.mk hs
  have HTT := Aside0.mk ht
  clear hs ht hs0 ht0
  go_enter Try.func7, Try.ntmps7
  go_wp2_with fail
  refine (new (w0 := w) 64 (Below.refl _ _) (by decide) (by decide)).mono ?_
  rintro e w1 ⟨g, rfl, h1⟩
  have L1 := Aside0.mk h1
  clear h1
  go_wp2_with fail
  try rw [es]
  refine (write s 0 (by rw [zeros_size]; have := HSS.out; omega) (by decide) L1.out).mono ?_
  rintro e w2 ⟨rfl, h2⟩
  obtain ⟨S, eS⟩ : ∃ S, over (zeros 64) s 0 = S := ⟨_, rfl⟩
  have xS : S.extract 0 (0 + s.size) = s := by rw [← eS]; exact ext_all _ _ (by rw [zeros_size]; exact HSS.out)
  have zS : S.size = 64 := by rw [← eS, over_size _ _ _ (by rw [zeros_size]; have := HSS.out; omega), zeros_size]
  obtain ⟨lg, el⟩ : ∃ lg, noted [] 0 ((0 : Nat) : Int) s.size true = lg := ⟨_, rfl⟩
  have ll : lg.length ≤ 1 := by rw [← el]; exact noted_len _ _ _ _ _
  rw [eS, el] at h2
  obtain ⟨vb, vl, q⟩ := h2
  have Q := Aside0.mk q
  have XS := Aside0.mk xS
  have ZS := Aside0.mk zS
  have LL := Aside0.mk ll
  clear q L1 eS el xS zS ll
  go_wp2_with fail
  refine (Clone g vb vl S 0 lg w2 Q.out.m (by have := LL.out; omega) Q.out.ln).mono ?_
  rintro e w3 ⟨g', vb', vl', rfl, m3, b3, hg', hb', hl'⟩
  have gne : g < w2.heap.size := blk_lt Q.out.ln.blk
  have vbl : ∀ k, vb.ownBlock = some k → k < w2.heap.size := own_lt Q.out.ln.ob
  have vll : ∀ k, vl.ownBlock = some k → k < w2.heap.size := own_lt Q.out.ln.ol
  have M3 := Aside0.mk m3
  have B3 := Aside0.mk b3
  have G1 := Aside0.mk (And.intro hg' (And.intro hb' hl'))
  have G2 := Aside0.mk (And.intro gne (And.intro vbl vll))
  clear m3 b3 hg' hb' hl' gne vbl vll
  go_wp2_with fail
  try rw [et]
  refine (Write_ok g' vb' vl' S t 0 lg 0 w3 Q.out.z Q.out.m (by rw [ZS.out]; have := HTT.out; omega) (by have := LL.out; omega) M3.out).mono ?_
  rintro e w4 ⟨rfl, vl2, m4, u4, f4⟩
  have xT : (over S t 0).extract 0 (0 + t.size) = t := ext_all _ _ (by rw [ZS.out]; exact HTT.out)
  have zT : (over S t 0).size = 64 := by rw [over_size _ _ _ (by rw [ZS.out]; have := HTT.out; omega), ZS.out]
  obtain ⟨T, eT⟩ : ∃ T, over S t 0 = T := ⟨_, rfl⟩
  obtain ⟨lg2, el2⟩ : ∃ lg2, noted lg 0 ((0 : Nat) : Int) t.size true = lg2 := ⟨_, rfl⟩
  have ll2 : lg2.length ≤ 2 := by rw [← el2]; exact Nat.le_trans (noted_len _ _ _ _ _) (by have := LL.out; omega)
  rw [eT] at xT zT m4
  rw [el2] at m4
  have o4 : Mm w4 g vb vl S 0 lg := by
    refine (Q.out.ln.beside B3.out).upd u4 ?_ ?_ ?_
    · rintro (h | h | h)
      · have := G1.out.1; have := G2.out.1; omega
      · have := G1.out.2.1 g h.symm; have := G2.out.1; omega
      · have := G1.out.2.2 g h.symm; have := G2.out.1; omega
    · intro k hk; have k1 := G2.out.2.1 k hk
      rintro (h | h | h)
      · have := G1.out.1; omega
      · have := G1.out.2.1 k h.symm; omega
      · have := G1.out.2.2 k h.symm; omega
    · intro k hk; have k1 := G2.out.2.2 k hk
      rintro (h | h | h)
      · have := G1.out.1; omega
      · have := G1.out.2.1 k h.symm; omega
      · have := G1.out.2.2 k h.symm; omega
  have b4 : Below w.heap.size w w4 := by
    have s2 := Q.out.bel.size
    have s3 := B3.out.size
    refine (below_step Q.out.bel B3.out).trans (u4.toBelow ?_ (by omega))
    rintro k (h | h | h)
    · have := G1.out.1; omega
    · have := G1.out.2.1 k h.symm; omega
    · have := G1.out.2.2 k h.symm; omega
  have hl2 : ∀ b, vl2.ownBlock = some b → w2.heap.size ≤ b := by
    intro b hb
    rcases f4 with f | f
    · exact G1.out.2.2 b (f ▸ hb)
    · exact Nat.le_trans B3.out.size (f b hb)
  have M4 := Aside0.mk m4
  have O4 := Aside0.mk o4
  have B4 := Aside0.mk b4
  have HL2 := Aside0.mk hl2
  have XT := Aside0.mk xT
  have ZT := Aside0.mk zT
  have LL2 := Aside0.mk ll2
  clear m4 o4 b4 hl2 xT zT ll2 u4 f4 eT el2 M3 B3
  go_wp2_with fail
  refine (Read_ok g vb vl S 0 lg 0 s.size w4 Q.out.z Q.out.m (by rw [ZS.out]; have := HSS.out; omega) (by have := LL.out; omega) O4.out).mono ?_
  rintro e w5 ⟨rfl, vl3, m5, u5, f5⟩
  rw [XS.out]
  have c5 : Mm w5 g' vb' vl2 T 0 lg2 := by
    refine M4.out.upd u5 ?_ ?_ ?_
    · rintro (h | h | h)
      · have := G1.out.1; have := G2.out.1; omega
      · have := G2.out.2.1 g' h.symm; have := G1.out.1; omega
      · have := G2.out.2.2 g' h.symm; have := G1.out.1; omega
    · intro k hk; have k1 := G1.out.2.1 k hk
      rintro (h | h | h)
      · have := G2.out.1; omega
      · have := G2.out.2.1 k h.symm; omega
      · have := G2.out.2.2 k h.symm; omega
    · intro k hk; have k1 := HL2.out k hk
      rintro (h | h | h)
      · have := G2.out.1; omega
      · have := G2.out.2.1 k h.symm; omega
      · have := G2.out.2.2 k h.symm; omega
  have b5 : Below w.heap.size w w5 := by
    refine B4.out.trans (u5.toBelow ?_ B4.out.size)
    rintro k (h | h | h)
    · rw [h]; exact Q.out.hg
    · exact Q.out.hb k h.symm
    · exact Q.out.hl k h.symm
  have C5 := Aside0.mk c5
  have B5 := Aside0.mk b5
  clear c5 b5 m5 u5 f5 M4 O4 B4
  go_wp2_with fail
  refine (Read_ok g' vb' vl2 T 0 lg2 0 t.size w5 (by rw [ZT.out]; decide) (by rw [ZT.out]; decide) (by rw [ZT.out]; have := HTT.out; omega) (by have := LL2.out; omega) C5.out).mono ?_
  rintro e w6 ⟨rfl, vl4, m6, u6, f6⟩
  rw [XT.out]
  have b6 : Below w.heap.size w w6 := by
    have s2 := Q.out.bel.size
    refine B5.out.trans (u6.toBelow ?_ B5.out.size)
    rintro k (h | h | h)
    · have := G1.out.1; omega
    · have := G1.out.2.1 k h.symm; omega
    · have := HL2.out k h.symm; omega
  have M6 := Aside0.mk m6
  have B6 := Aside0.mk b6
  clear m6 b6 u6 f6 C5 B5
  go_wp2_with fail
  refine (Size g' vb' vl4 T 0 _ w6 M6.out).mono ?_
  rintro e w7 ⟨rfl, rfl⟩
  rw [ZT.out]
  go_wp2_with fail
  refine (fixed w7).mono ?_
  rintro e w8 ⟨rfl, h8⟩
  have B8 := Aside0.mk (below_step B6.out h8)
  clear h8
  go_wp2
  go_ret
  exact ⟨rfl, B8.out⟩
end Go.Proofs.Ytllpfadjdecjiaa.Hand
