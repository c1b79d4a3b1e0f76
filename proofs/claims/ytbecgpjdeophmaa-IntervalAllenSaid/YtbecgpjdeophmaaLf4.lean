import Derived.Test.YtbecgpjdeophmaaLf
import Derived.Test.YtbecgpjdeophmaaQm
namespace Go.Proofs.Ytbecgpjdeophmaa.Q
set_option linter.unusedVariables false
open Go.RowKit Go.Proofs.YtbecgpjdeophmaaW Go.Proofs.YtbecgpjdeophmaaW.PrintWords Go.Proofs.YtbecgpjdeophmaaW.PrintMore

/-! ### covers -/
def covR : S23 → List S23 → List S23
  | c, [] => [c]
  | c, s :: t => if s.f0 ≤ c.f1 then covR ⟨c.f0, mx c.f1 s.f1⟩ t else c :: covR s t
def cov : List S23 → List S23
  | [] => []
  | s :: t => covR s t

theorem last_at (pre : List S23) (c : S23) : rd_T23 (pre ++ [c]) (((pre ++ [c]).length : Int) - 1) = c := by
  have e : (((pre ++ [c]).length : Int) - 1) = (pre.length : Int) := by simp
  rw [e, rd_nat]; simp [List.getD_eq_getElem?_getD]
theorem set_last (pre : List S23) (c c' : S23) : (pre ++ [c]).set ((((pre ++ [c]).length : Int) - 1)).toNat c' = pre ++ [c'] := by
  have e : ((((pre ++ [c]).length : Int) - 1)).toNat = pre.length := by simp
  rw [e]; simp

theorem cover_l0 (l : List S23) (hl : l.length ≤ 4096) (d : Nat) : ∀ (j : Nat) (pre : List S23) (c : S23), pre.length + 1 ≤ j → j ≤ l.length → l.length - j = d → Ev (fun k => interval_cover.l0 k (pre ++ [c]) l (l.length : Int) (j : Int)) (pre ++ covR c (l.drop j)) := by
  induction d with
  | zero =>
    intro j pre c hm hj hd
    have e : l.drop j = [] := List.drop_eq_nil_of_le (by omega)
    rw [e]
    refine Ev.step (f := fun _ => some (pre ++ [c])) (fun k => ?_) (Ev.now _)
    simp only [interval_cover.l0]
    rw [if_neg (by omega)]
  | succ d ih =>
    intro j pre c hm hj hd
    have hlt : j < l.length := by omega
    have eg := rd_at l j hlt
    have hlen : (pre ++ [c]).length = pre.length + 1 := by simp
    have hw : wrap64 (((pre ++ [c]).length : Int) - 1) = ((pre ++ [c]).length : Int) - 1 := wrap_pred (by omega)
    rw [drop_at l j hlt, covR]
    by_cases hc : l[j].f0 ≤ c.f1
    · rw [if_pos hc]
      refine Ev.step (f := fun k => interval_cover.l0 k (pre ++ [⟨c.f0, mx c.f1 l[j].f1⟩]) l (l.length : Int) ((j + 1 : Nat) : Int)) (fun k => ?_) (ih (j + 1) pre ⟨c.f0, mx c.f1 l[j].f1⟩ (by omega) (by omega) (by omega))
      simp only [interval_cover.l0]
      rw [if_pos (by omega), if_pos (by omega), if_pos (by omega), if_pos (by omega), hw, if_pos (by omega), if_pos (by omega), eg, last_at, if_pos hc, set_last, wrap_succ (by omega)]
    · rw [if_neg hc]
      have := ih (j + 1) (pre ++ [c]) l[j] (by omega) (by omega) (by omega)
      rw [show pre ++ c :: covR l[j] (l.drop (j + 1)) = pre ++ [c] ++ covR l[j] (l.drop (j + 1)) by simp]
      refine Ev.step (f := fun k => interval_cover.l0 k (pre ++ [c] ++ [l[j]]) l (l.length : Int) ((j + 1 : Nat) : Int)) (fun k => ?_) this
      simp only [interval_cover.l0]
      rw [if_pos (by omega), if_pos (by omega), if_pos (by omega), if_pos (by omega), hw, if_pos (by omega), if_pos (by omega), eg, last_at, if_neg hc, if_pos (by omega), wrap_succ (by omega)]
theorem cover_ev (l : List S23) (hl : l.length ≤ 4096) : Ev (fun k => interval_cover.f k l) (cov (nrm l)) := by
  unfold interval_cover.f
  refine Ev.bind (normal_ev l hl) ?_
  have hn := length_nrm l
  generalize nrm l = m at hn
  match m with
  | [] =>
    refine Ev.step (f := fun _ => some []) (fun k => ?_) (Ev.now _)
    simp [interval_cover.l0]
  | s :: t =>
    have h := cover_l0 (s :: t) (by omega) _ 1 [] s (by simp) (by simp) rfl
    refine Ev.step (fun k => ?_) h
    simp only [interval_cover.l0, List.nil_append]
    rw [if_pos (by simp), if_pos (by omega), if_pos (by simp), if_neg (by simp), if_pos (by simp), show wrap64 (0 + 1) = ((1 : Nat) : Int) by unfold wrap64; omega, show rd_T23 (s :: t) 0 = s from rfl]
theorem Cover_ev (l : List S23) : Ev (fun k => interval_Cover.f k l) (if chk [l] = 0 then (cov (nrm l), 0) else ([], chk [l])) := by
  unfold interval_Cover.f
  refine Ev.bind (check_ev [l] (by simp)) ?_
  by_cases h : chk [l] = 0
  · rw [if_pos h]
    refine Ev.congr (f := fun k => (interval_cover.f k l).bind fun t => some (t, 0)) (fun k => by rw [if_pos h]) ?_
    exact Ev.bind (cover_ev l (chk_len h).1) (Ev.now _)
  · rw [if_neg h]
    exact Ev.congr (f := fun k => some ([], chk [l])) (fun k => by rw [if_neg h]) (Ev.now _)

theorem length_covR (l : List S23) : ∀ c, (covR c l).length ≤ l.length + 1 := by
  induction l with
  | nil => intro c; simp [covR]
  | cons s t ih =>
    intro c
    rw [covR]
    split
    · have := ih ⟨c.f0, mx c.f1 s.f1⟩; simp; omega
    · have := ih s; simp; omega
theorem length_cov (l : List S23) : (cov l).length ≤ l.length := by
  cases l with
  | nil => simp [cov]
  | cons s t => have := length_covR t s; simpa [cov] using this

end Go.Proofs.Ytbecgpjdeophmaa.Q
