import Derived.Test.YtbecgpjdeophmaaLb
import Derived.Test.YtbecgpjdeophmaaQh
namespace Go.Proofs.Ytbecgpjdeophmaa.Q
open Go.RowKit Go.Proofs.YtbecgpjdeophmaaW Go.Proofs.YtbecgpjdeophmaaW.PrintWords

theorem relates_ev (a0 a1 b0 b1 : Int) : Ev (fun k => corporalaw11_IntervalRelates.f k a0 a1 b0 b1) true := by
  unfold corporalaw11_IntervalRelates.f
  refine Ev.bind (rel_ev _ _ _ _) ?_
  refine Ev.bind (rel_ev _ _ _ _) ?_
  refine Ev.bind (ref_ev _ _ _ _) ?_
  have fin : Ev (fun k => (corporalaw11_awake.f k).bind fun t => some t) true := Ev.bind awake_ev (Ev.now _)
  by_cases h : (0 ≤ a0 ∧ a0 < a1) ∧ (0 ≤ b0 ∧ b0 < b1)
  · have e1 : relV a0 a1 b0 b1 = relW a0 a1 b0 b1 := by unfold relV; rw [if_pos h]
    have e2 : relV b0 b1 a0 a1 = relW b0 b1 a0 a1 := by unfold relV; rw [if_pos ⟨h.2, h.1⟩]
    have r := relW_range a0 a1 b0 b1
    have t := relW_turn h.1.2 h.2.2
    rw [e1, e2]
    refine Ev.congr (fun k => ?_) fin
    rw [if_pos rfl, if_neg (by omega), t, if_pos (wrap_le (by omega) (by omega))]
  · have e1 : relV a0 a1 b0 b1 = 0 := by unfold relV; rw [if_neg h]
    have e2 : relV b0 b1 a0 a1 = 0 := by unfold relV; rw [if_neg (fun h' => h ⟨h'.2, h'.1⟩)]
    rw [e1, e2]
    refine Ev.congr (fun k => ?_) fin
    rw [if_pos rfl, if_pos rfl, if_pos rfl]

theorem relates_walk (a0 a1 b0 b1 : Int) (w : World) : Calls Try.prog 3 #[.agg #[.int .i64 a0, .int .i64 a1], .agg #[.int .i64 b0, .int .i64 b1]] w fun e w' => e = .returned (.bool true) ∧ Below w.heap.size w w' := by
  obtain ⟨k, h⟩ := (relates_ev a0 a1 b0 b1).rounds
  exact corporalaw11_IntervalRelates.calls k a0 a1 b0 b1 true w h
end Go.Proofs.Ytbecgpjdeophmaa.Q
