import Derived.Test.YtbecgpjdeophmaaLk
import Derived.Test.YtbecgpjdeophmaaLi
import Derived.Test.YtbecgpjdeophmaaLj
import Derived.Test.YtbecgpjdeophmaaQz
namespace Go.Proofs.Ytbecgpjdeophmaa.Q
set_option linter.unusedVariables false
open Go.RowKit Go.Proofs.YtbecgpjdeophmaaW Go.Proofs.YtbecgpjdeophmaaW.PrintWords Go.Proofs.YtbecgpjdeophmaaW.PrintMore

theorem rl1 (b : List S23) : (fun s => b.any (rl 1 s)) = inB b := by funext s; unfold inB; congr 1
theorem rl2 (b : List S23) : (fun s => b.any (rl 2 s)) = ovB b := by funext s; unfold ovB; congr 1
theorem rl3 (b : List S23) : (fun s => b.any (rl 3 s)) = toB b := by funext s; unfold toB; congr 1
theorem long2 (a b : List S23) : ([a, b].any fun x => decide (60 < x.length)) = (decide (60 < a.length) || decide (60 < b.length)) := by simp

theorem chooses_ev (a b : List S23) (hw : ∀ t ∈ b, Wrd t) : Ev (fun k => corporalaw11_IntervalChooses.f k a b) true := by
  have hA := Within_ev a b
  have hB := Containing_ev a b hw
  have hC := Overlapping_ev a b
  have h1 := Choose_ev a b 1
  have h2 := Choose_ev a b 2
  have h3 := Choose_ev a b 3
  rw [rl1] at h1
  rw [rl2] at h2
  rw [rl3] at h3
  have e3 : Ev (fun k => corporalaw11_IntervalChooses.j1 k a b false) true := by
    refine Ev.step (fun k => by simp only [corporalaw11_IntervalChooses.j1]; rw [if_neg (by simp)]) ?_
    refine Ev.bind hC ?_
    refine Ev.bind h3 ?_
    refine Ev.bind (Same_ev _ (len_res a b _)) ?_
    refine Ev.congr (fun k => by rw [if_pos rfl, if_pos rfl]) ?_
    exact Ev.bind awake_ev (Ev.now _)
  have e2 : Ev (fun k => corporalaw11_IntervalChooses.j0 k a b false) true := by
    refine Ev.step (fun k => by simp only [corporalaw11_IntervalChooses.j0]; rw [if_neg (by simp)]) ?_
    refine Ev.bind hB ?_
    refine Ev.bind h2 ?_
    refine Ev.bind (Same_ev _ (len_res a b _)) ?_
    refine Ev.congr (f := fun k => corporalaw11_IntervalChooses.j1 k a b false) (fun k => by rw [if_pos rfl, bne_self_eq_false]) e3
  unfold corporalaw11_IntervalChooses.f
  refine Ev.bind (long_ev [a, b] (by simp)) ?_
  cases hl : ([a, b].any fun x => decide (60 < x.length)) with
  | true => exact Ev.congr (f := fun _ => some true) (fun k => by rw [if_pos rfl]) (Ev.now _)
  | false =>
    refine Ev.congr (fun k => by rw [if_neg (show ¬ (false = true) by simp)]) ?_
    refine Ev.bind hA ?_
    refine Ev.bind h1 ?_
    refine Ev.bind (Same_ev _ (len_res a b _)) ?_
    exact Ev.congr (f := fun k => corporalaw11_IntervalChooses.j0 k a b false) (fun k => by rw [if_pos rfl, bne_self_eq_false]) e2

theorem chooses_walk (W : World) (a : Option Addr) (c : Nat) (l : List S23) (hr : Kd.C k23 W a l.length l) (hc : l.length ≤ c) (_ : ∀ x ∈ l, Wrd x) (a1 : Option Addr) (c1 : Nat) (l1 : List S23) (hr1 : Kd.C k23 W a1 l1.length l1) (hc1 : l1.length ≤ c1) (hw : ∀ x ∈ l1, Wrd x) :
    Calls Try.prog 9 #[.slice a l.length c, .slice a1 l1.length c1] W fun e w' => e = .returned (.bool true) ∧ Below W.heap.size W w' := by
  obtain ⟨k, h⟩ := (chooses_ev l l1 hw).rounds
  exact corporalaw11_IntervalChooses.calls k _ a c l _ a1 c1 l1 true W (V23 hr hc) (V23 hr1 hc1) h
end Go.Proofs.Ytbecgpjdeophmaa.Q
