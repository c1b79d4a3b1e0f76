import Derived.Test.YtbecgpjdeophmaaQx0
import Derived.Test.YtbecgpjdeophmaaQx1
import Derived.Test.YtbecgpjdeophmaaQv
namespace Go.Proofs.Ytbecgpjdeophmaa.Q
open Go.RowKit Go.Proofs.YtbecgpjdeophmaaW.PrintWords Go.Proofs.YtbecgpjdeophmaaW.PrintLast Go.Proofs.YtbecgpjdeophmaaW.PrintMore
attribute [local go_sem] max2_int min2_int max_two min_two max_three min_three max_four min_four   -- for this text's walks alone
set_option linter.unusedVariables false
set_option linter.unusedSimpArgs false

attribute [local go_sem high] eqA23

/-! ### corporaref11_insert: function 31, by hand -/
def corporaref11_insert.f (_k : Nat) (l0 : List (S23)) (a1_0 : Int) (a1_1 : Int) : Option ((List (S23))) := if l0.length < 4096 then some (ins l0 ⟨a1_0, a1_1⟩) else none
theorem corporaref11_insert.mono : ∀ a0 a1 a2 k, LeO (corporaref11_insert.f k a0 a1 a2) (corporaref11_insert.f (k + 1) a0 a1 a2) := fun _ _ _ _ => LeO.refl _
theorem corporaref11_insert.calls (k : Nat) (P0_ : Nat → Prop) (u9000_ : Value) (l0 : List (S23)) (a1_0 : Int) (a1_1 : Int) (r : List (S23)) (w0 w : World) (hB : Below w0.heap.size w0 w) (ho0 : Kd.R k23 23 w w0.heap.size P0_ u9000_ l0) (h : corporaref11_insert.f k l0 a1_0 a1_1 = some r) :
    Calls Try.prog 31 #[u9000_, .agg #[.int .i64 a1_0, .int .i64 a1_1]] w fun e w' => ∃ v0_ : Value, e = .returned (v0_) ∧ Kd.R k23 23 w' w0.heap.size (fun k_ => (P0_ k_ ∨ w.heap.size ≤ k_)) v0_ r ∧ Below w0.heap.size w0 w' ∧ Kept w w' (fun k_ => P0_ k_) := by
  unfold corporaref11_insert.f at h
  split at h
  · rename_i hn
    obtain rfl := Option.some.inj h
    obtain ⟨A0, c0, rfl⟩ := Kd.R_slice ho0
    obtain ⟨_, hc, hC⟩ := Kd.R_reads' ho0
    refine (ins_any A0 c0 l0 a1_0 a1_1 w hC hc hn).mono ?_
    rintro e w' ⟨v, rfl, hv, hb⟩
    refine ⟨v, rfl, ?_, below_then hB hB.size hb, Kept.of_below hb _⟩
    rcases hv with ⟨rfl, hl⟩ | hr
    · rw [hl]
      exact Kd.R_mono (Kd.R_below ho0 hb) (fun k_ hk => .inl hk)
    · have hr2 := Kd.R_lower (Kd.R_bound hr) hB.size
      exact Kd.R_mono hr2 (fun k_ hk => .inr hk.2.1)
  · cases h

end Go.Proofs.Ytbecgpjdeophmaa.Q
