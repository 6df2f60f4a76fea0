/- Addresses and their texts: laws by hand. -/
import Derived.Test.YtiffbjpmmbfkjaaDoorAd
namespace Go.Proofs.YtiffbjpmmbfkjaaDoor.P
open Go Go.RowKit Go.Proofs.YtiffbjpmmbfkjaaDoor.Mth Go.Proofs.YtiffbjpmmbfkjaaDoorW.PrintWords Go.Proofs.YtiffbjpmmbfkjaaDoorW.PrintLast Go.Proofs.YtiffbjpmmbfkjaaDoorW.PrintMore Go.Proofs.YtiffbjpmmbfkjaaDoor.P Go.Proofs Go.Proofs.YtiffbjpmmbfkjaaDoor.Ad
set_option linter.unusedVariables false
set_option linter.unusedSimpArgs false
/-! ### addr_Print: function 8, by hand -/
def addr_Print.f (a0 : ByteArray) : Option (ByteArray × Int) := if a0.size = 6 then some (mk (textS (B a0)), 0) else some (⟨#[]⟩, 1)
set_option maxHeartbeats 4000000 in
theorem addr_Print.calls (a0 : ByteArray) (r1 : ByteArray) (r2 : Int) (w : World) (h : addr_Print.f a0 = some (r1, r2)) :
    Calls Tryd.prog 8 #[.string a0] w fun e w' => e = .returned (.tuple #[.string r1, .int .i64 r2]) ∧ Below w.heap.size w w' := by
  unfold addr_Print.f at h
  by_cases h6 : a0.size = 6
  · rw [if_pos h6] at h
    simp only [Option.some.injEq, Prod.mk.injEq] at h
    obtain ⟨rfl, rfl⟩ := h
    exact print_calls a0 w h6
  · rw [if_neg h6] at h
    simp only [Option.some.injEq, Prod.mk.injEq] at h
    obtain ⟨rfl, rfl⟩ := h
    have hsz : ((a0.size : Int) != 6) = true := bne_iff_ne.2 (by omega)
    go_enter Tryd.func8, Tryd.ntmps8
    go_wp2_with fail
    go_ret2
    exact ⟨rfl, Below.refl _ _⟩
/-! ### addr_Parse: function 10, by hand -/
def addr_Parse.f (a0 : ByteArray) : Option (ByteArray × Int) := if a0.size < 4294967281 then some (mk (parseS (B a0)).1, (parseS (B a0)).2) else none
theorem addr_Parse.calls (a0 : ByteArray) (r1 : ByteArray) (r2 : Int) (w : World) (h : addr_Parse.f a0 = some (r1, r2)) :
    Calls Tryd.prog 10 #[.string a0] w fun e w' => e = .returned (.tuple #[.string r1, .int .i64 r2]) ∧ Below w.heap.size w w' := by
  unfold addr_Parse.f at h
  by_cases h6 : a0.size < 4294967281
  · rw [if_pos h6] at h
    simp only [Option.some.injEq, Prod.mk.injEq] at h
    obtain ⟨rfl, rfl⟩ := h
    exact parse_calls a0 w h6
  · rw [if_neg h6] at h; cases h
end Go.Proofs.YtiffbjpmmbfkjaaDoor.P
