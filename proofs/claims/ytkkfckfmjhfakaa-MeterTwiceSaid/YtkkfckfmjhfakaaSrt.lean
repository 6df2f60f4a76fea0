/- Floats and the meter: contracts by hand, and the laws over them. -/
import Derived.Test.YtkkfckfmjhfakaaOwn
import Derived.Test.YtkkfckfmjhfakaaMea
import Derived.Test.YtkkfckfmjhfakaaShelf
import Derived.Shelf.SlSortCmp.Insertion
import Derived.Sort.LotA
import Derived.Lib.OwnBridge
namespace Go.Proofs.Ytkkfckfmjhfakaa.Mt
open Go Go.RowKit Go.Proofs.YtkkfckfmjhfakaaW.PrintWords Go.Proofs.YtkkfckfmjhfakaaW.PrintLast Go.Proofs.YtkkfckfmjhfakaaW.PrintMore Go.Proofs.Ytkkfckfmjhfakaa.Mth Go.Proofs.Ytkkfckfmjhfakaa.Own Go.Proofs
set_option linter.unusedVariables false
set_option linter.unusedSimpArgs false
/-! ### Sort -/
abbrev F64 := {b : Nat // b < 2 ^ 64}
instance : Inhabited F64 := ⟨⟨0, by decide⟩⟩
def encF (x : F64) : Value := .float .f64 x.1
def ltF (x y : F64) : Bool := lessB x.1 y.1
def cf (x y : F64) : Int := if ltF x y then -1 else if ltF y x then 1 else 0
theorem ltF_irr (x : F64) : ltF x x = false := by
  rw [← Bool.not_eq_true]; unfold ltF; rw [less_iff]; omega
theorem ltF_swo : Go.Sort.SWO ltF where
  irrefl := ltF_irr
  trans := fun x y z h1 h2 => by unfold ltF at *; rw [less_iff] at *; omega
  ntrans := fun x y z h1 h2 => by
    rw [← Bool.not_eq_true] at *; unfold ltF at *; rw [less_iff] at *; omega
theorem lt_cf : ltOf cf = ltF := by
  funext x y
  unfold ltOf cf
  cases ltF x y with
  | true => rfl
  | false => cases ltF y x <;> rfl
set_option maxHeartbeats 4000000 in
theorem cmp_calls (x y : F64) (w : World) : Calls Try.prog 30 #[encF x, encF y] w fun e w' => e = .returned (.int .i64 (cf x y)) ∧ w' = w := by
  obtain ⟨a, ha⟩ := x
  obtain ⟨b, hb⟩ := y
  have HA := Aside0.mk ha
  have HB := Aside0.mk hb
  have HC := Aside0.mk (show cf ⟨a, ha⟩ ⟨b, hb⟩ = if lessB a b then -1 else if lessB b a then 1 else 0 from rfl)
  show Calls Try.prog 30 #[.float .f64 a, .float .f64 b] w _
  obtain ⟨v, hv⟩ : ∃ v, cf ⟨a, ha⟩ ⟨b, hb⟩ = v := ⟨_, rfl⟩
  rw [hv] at HC
  rw [hv]
  clear hv ha hb
  go_enter Try.func30, Try.ntmps30
  go_wp2_with fail
  refine (Less_calls a b w HA.out HB.out).mono ?_
  rintro e w_ ⟨rfl, hw_⟩
  rw [hw_]
  clear hw_ w_
  cases h1 : lessB a b with
  | true =>
    go_wp2
    go_ret
    exact ⟨by rw [HC.out, h1]; rfl, rfl⟩
  | false =>
    go_wp2_with fail
    refine (Less_calls b a w HB.out HA.out).mono ?_
    rintro e w_ ⟨rfl, hw_⟩
    rw [hw_]
    clear hw_ w_
    cases h2 : lessB b a with
    | true =>
      go_wp2
      go_ret
      exact ⟨by rw [HC.out, h1, h2]; rfl, rfl⟩
    | false =>
      go_wp2
      go_ret
      exact ⟨by rw [HC.out, h1, h2]; rfl, rfl⟩
theorem eg30 : ∀ args w, (callFunc 30 args).run Try.prog w = .ok (.enter 30 args) w := Go.Proofs.enters_of Try.func30 (by kernel_rfl) rfl
theorem oneF : OneCell encF := fun _ => rfl
/-- The insertion sort, over a row that holds the numbers d. -/
theorem ins_calls (blk off cap a b : Nat) (d : Array F64) (w : World) (hH : Go.Sort.Holds encF w blk off d) (hab : a ≤ b) (hb : b ≤ d.size) (hsz : d.size < 4611686018427387904) :
    Calls Try.prog 37 #[.slice (some ⟨blk, off, none⟩) d.size cap, .int .i64 a, .int .i64 b, .func (.func 30) #[] #[]] w fun e w' =>
      e = .returned (.tuple #[]) ∧ ∃ n, w' = (Go.Sort.putRow encF w blk off (Go.Sort.insertionSort ltF d a b)).drewN n := by
  rw [← lt_cf]
  exact Any.insertionSortCmpFunc_one Try.laysSortF encF oneF cf 30 #[] blk off cap a b d w eg30 (fun m os dk hs x y => (cmp_calls x y _).mono fun e w' h => ⟨h.1, 0, by rw [h.2]; rfl⟩) hH hab hb hsz
end Go.Proofs.Ytkkfckfmjhfakaa.Mt
