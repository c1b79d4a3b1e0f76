import Derived.Test.YtbecgpjdeophmaaLf
import Derived.Test.YtbecgpjdeophmaaQw
namespace Go.Proofs.Ytbecgpjdeophmaa.Q
open Go.RowKit Go.Proofs.YtbecgpjdeophmaaW Go.Proofs.YtbecgpjdeophmaaW.PrintWords Go.Proofs.YtbecgpjdeophmaaW.PrintMore

theorem V23 {W : World} {A : Option Addr} {c : Nat} {l : List S23} (hr : Kd.C k23 W A l.length l) (hc : l.length ≤ c) : Kd.V k23 23 W W.heap.size (fun k => (fun k => k < W.heap.size) k) (.slice A l.length c) l := Kd.V_mk hc (Kd.C_F k23_heap hr)

theorem length_covR (l : List S23) : ∀ c, (covR c l).length ≤ l.length + 1 := by
  induction l with
  | nil => intro c; simp [covR]
  | cons s t ih =>
    intro c
    rw [covR]
    split
    · have := ih ⟨c.f0, mx c.f1 s.f1⟩; simp; omega
    · have := ih s; simp; omega
theorem length_cov (l : List S23) : (cov l).length ≤ l.length := by
  cases l with
  | nil => simp [cov]
  | cons s t => have := length_covR t s; simpa [cov] using this

/-- The results of the two sides are alike. -/
def res (P : List S23) (e : Int) : List S23 × Int := if e = 0 then (P, 0) else ([], e)
theorem res_len {P : List S23} {e : Int} (h : e = 0 → P.length ≤ 4096) : (res P e).1.length ≤ 1000000 := by
  unfold res
  split
  · rename_i k; have := h k; show P.length ≤ _; omega
  · simp
theorem long1 (l : List S23) : ([l].any fun x => decide (60 < x.length)) = decide (60 < l.length) := by simp

theorem normalizes_ev (l : List S23) : Ev (fun k => corporalaw11_IntervalNormalizes.f k l) true := by
  unfold corporalaw11_IntervalNormalizes.f
  refine Ev.bind (long_ev [l] (by simp)) ?_
  rw [long1]
  by_cases hl : 60 < l.length
  · rw [decide_eq_true hl]
    exact Ev.congr (f := fun _ => some true) (fun k => by rw [if_pos rfl]) (Ev.now _)
  · rw [decide_eq_false hl]
    have hN := Normalize_ev l
    have hM := refN_ev l
    have hC := Cover_ev l
    have hD := refC_ev l
    have l1 : (res (nrm l) (chk [l])).1.length ≤ 1000000 := res_len fun h => by have := length_nrm l; have := (chk_len h).1; omega
    have l2 : (res (cov (nrm l)) (chk [l])).1.length ≤ 1000000 := res_len fun h => by have := length_nrm l; have := length_cov (nrm l); have := (chk_len h).1; omega
    refine Ev.congr (fun k => by rw [if_neg (show ¬ (false = true) by simp)]) ?_
    refine Ev.bind hN ?_
    refine Ev.bind hM ?_
    refine Ev.bind hC ?_
    refine Ev.bind hD ?_
    refine Ev.bind (Same_ev _ l1) ?_
    refine Ev.congr (fun k => by rw [if_pos rfl, if_pos rfl]) ?_
    refine Ev.bind (Same_ev _ l2) ?_
    refine Ev.congr (fun k => by rw [if_pos rfl, if_pos rfl]) ?_
    exact Ev.bind awake_ev (Ev.now _)

theorem normalizes_walk (W : World) (a : Option Addr) (c : Nat) (l : List S23) (hr : Kd.C k23 W a l.length l) (hc : l.length ≤ c) : Calls Try.prog 5 #[.slice a l.length c] W fun e w' => e = .returned (.bool true) ∧ Below W.heap.size W w' := by
  obtain ⟨k, h⟩ := (normalizes_ev l).rounds
  exact corporalaw11_IntervalNormalizes.calls k _ a c l true W (V23 hr hc) h
end Go.Proofs.Ytbecgpjdeophmaa.Q
