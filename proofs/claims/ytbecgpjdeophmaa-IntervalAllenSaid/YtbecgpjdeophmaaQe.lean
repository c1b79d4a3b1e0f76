import Derived.Test.YtbecgpjdeophmaaQx0
import Derived.Test.YtbecgpjdeophmaaQx1
import Derived.Test.YtbecgpjdeophmaaCd
namespace Go.Proofs.Ytbecgpjdeophmaa.Q
open Go.RowKit Go.Proofs.YtbecgpjdeophmaaW.PrintWords Go.Proofs.YtbecgpjdeophmaaW.PrintLast Go.Proofs.YtbecgpjdeophmaaW.PrintMore
attribute [local go_sem] max2_int min2_int max_two min_two max_three min_three max_four min_four   -- for this text's walks alone
set_option linter.unusedVariables false
set_option linter.unusedSimpArgs false

attribute [local go_sem high] eqA23

/-! ### interval_normal: function 29, by hand: slices.Clone, slices.SortFunc, slices.Compact -/
def interval_normal.f (_k : Nat) (l0 : List (S23)) : Option ((List (S23))) := if l0.length ≤ 4096 then some (nrm l0) else none
theorem interval_normal.mono : ∀ a0 k, LeO (interval_normal.f k a0) (interval_normal.f (k + 1) a0) := fun _ _ => LeO.refl _
theorem interval_normal.calls (k : Nat) (A0 : Option Addr) (c0 : Nat) (l0 : List (S23)) (r : List (S23)) (w : World) (hr0 : Kd.C k23 w A0 l0.length l0) (hc0 : l0.length ≤ c0) (h : interval_normal.f k l0 = some r) :
    Calls Try.prog 29 #[.slice A0 l0.length c0] w fun e w' => ∃ v0_ : Value, e = .returned (v0_) ∧ Kd.R k23 23 w' w.heap.size (fun _ => True) v0_ r ∧ Below w.heap.size w w' := by
  unfold interval_normal.f at h
  split at h
  · rename_i hn
    obtain rfl := Option.some.inj h
    exact normal_any A0 c0 l0 w hr0 hn
  · cases h

end Go.Proofs.Ytbecgpjdeophmaa.Q
