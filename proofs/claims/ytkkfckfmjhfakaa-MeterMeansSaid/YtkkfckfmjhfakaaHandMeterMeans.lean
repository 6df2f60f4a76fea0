/- Floats and the meter: contracts by hand, and the laws over them. -/
import Derived.Test.YtkkfckfmjhfakaaOwn
import Derived.Test.YtkkfckfmjhfakaaFx
namespace Go.Proofs.Ytkkfckfmjhfakaa.Hand
open Go Go.RowKit Go.Proofs.YtkkfckfmjhfakaaW.PrintWords Go.Proofs.YtkkfckfmjhfakaaW.PrintLast Go.Proofs.YtkkfckfmjhfakaaW.PrintMore Go.Proofs.Ytkkfckfmjhfakaa.Mth Go.Proofs.Ytkkfckfmjhfakaa.Own Go.Proofs Go.Proofs.Ytkkfckfmjhfakaa.Mt
set_option linter.unusedVariables false
set_option linter.unusedSimpArgs false
theorem take_min {α : Type} (l : List α) (k : Nat) : l.take (min (l.length : Int) (k : Int)).toNat = l.take k := by rw [List.take_eq_take_iff]; omega
theorem take_len {α : Type} {enc : α → Value} {d : α} {w : World} {A : Option Addr} {l : List α} (h : ReadsOf enc d w A l.length l) (k : Nat) : ReadsOf enc d w A (l.take k).length (l.take k) := by
  have q := h.take_ (min k l.length) (by omega)
  have e : l.take (min k l.length) = l.take k := by rw [List.take_eq_take_iff]; omega
  rw [e] at q
  rw [List.length_take]
  exact q
theorem res_same2 {op : BinOp} {x y r s : Nat} (h1 : Res op x y r) (h2 : Res op x y s) : sameB r s = true := by
  rw [same_iff]
  have kn : ∀ {q : Nat}, (rd q).isNaN = true → ky q = 0 := fun {q} h => by
    obtain ⟨a, f, e⟩ := nan_cases h
    unfold ky; rw [e]; rfl
  cases h : floatBits op .f64 x y with
  | some q => rw [res_some h1 h, res_some h2 h]; exact ⟨rfl, rfl⟩
  | none =>
    have a := res_none h1 h
    have b := res_none h2 h
    exact ⟨by rw [nan_kd a, nan_kd b], by rw [kn a, kn b]⟩
theorem jF : (Try.prog.info? 22).isSome = true := by kernel_rfl
set_option maxHeartbeats 8000000 in
theorem MeterMeans (A : Option Addr) (c : Nat) (l : List Nat) (w : World) (hle : l.length ≤ c) (hmx : c ≤ 9223372036854775807) (hgd : ∀ a ∈ l, (Lit.float .f64 a).wf = true) (hr : ReadsOf (Value.float .f64) 0 w A l.length l) :
    Calls Try.prog 5 #[.slice A l.length c] w fun e w' => e = .returned (.bool true) ∧ Below w.heap.size w w' := by
  have HR := Aside0.mk (take_len hr 100)
  have HL := Aside0.mk (show ∀ x ∈ l.take 100, x < 2 ^ 64 from fun x hx => by simpa [Lit.wf] using hgd x (List.mem_of_mem_take hx))
  have tl : (l.take 100).length ≤ 100 := by rw [List.length_take]; omega
  have tc : (l.take 100).length ≤ c := by rw [List.length_take]; omega
  have te : (min (l.length : Int) 100).toNat = (l.take 100).length := by rw [List.length_take]; omega
  clear hgd hr
  go_enter Try.func5, Try.ntmps5
  go_wp2_with fail
  rw [show min 100 l.length = (l.take 100).length by rw [List.length_take]]
  obtain ⟨t, ht⟩ : ∃ t, l.take 100 = t := ⟨_, rfl⟩
  rw [ht] at HR HL tl tc
  rw [ht]
  clear te ht
  refine (Mean_calls A c t w HR.out tc (by omega) HL.out).mono ?_
  rintro e w1 ⟨r, rfl, h1, b1⟩
  have B1 := Aside0.mk b1
  have M1 := Aside0.mk h1
  have L1 := Aside0.mk h1.1
  clear b1 h1
  go_wp2_with fail
  refine (RMean_calls A c t w1 (HR.out.below B1.out) tc (by omega) HL.out).mono ?_
  rintro e w2 ⟨s, rfl, h2, b2⟩
  have B2 := Aside0.mk (below_step B1.out b2)
  have L2 := Aside0.mk h2.1
  have SS := Aside0.mk (res_same2 M1.out h2)
  clear b2 h2
  go_wp2_with fail
  refine (fixed_calls w2).mono ?_
  rintro e w3 ⟨rfl, b3⟩
  have B3 := Aside0.mk (below_step B2.out b3)
  clear b3
  go_wp2_with fail
  refine (Same_calls r s w3 L1.out L2.out).mono ?_
  rintro e w4 ⟨rfl, b4⟩
  have B4 := Aside0.mk (below_step B3.out b4)
  clear b4
  rw [SS.out]
  have k1 : ((cntS t : Int) == (cntS t : Int)) = true := beq_self_eq_true _
  go_wp2
  go_ret
  exact ⟨rfl, B4.out⟩
end Go.Proofs.Ytkkfckfmjhfakaa.Hand
