import Derived.Test.YtbecgpjdeophmaaLb
import Derived.Test.YtbecgpjdeophmaaQj
namespace Go.Proofs.Ytbecgpjdeophmaa.Q
set_option linter.unusedVariables false
open Go.RowKit Go.Proofs.YtbecgpjdeophmaaW Go.Proofs.YtbecgpjdeophmaaW.PrintWords Go.Proofs.YtbecgpjdeophmaaW.PrintMore

theorem rd_at (l : List S23) (i : Nat) (h : i < l.length) : rd_T23 l (i : Int) = l[i] := by rw [rd_nat]; simp [List.getD_eq_getElem?_getD, h]
theorem drop_at {α : Type} (l : List α) (i : Nat) (h : i < l.length) : l.drop i = l[i] :: l.drop (i + 1) := List.drop_eq_getElem_cons h
theorem wrap_pred {j : Nat} (h : (j : Int) < 9223372036854775807) : wrap64 ((j : Int) - 1) = (j : Int) - 1 := by unfold wrap64; omega

theorem long_l0 (L : List (List S23)) (hL : L.length ≤ 1000) (d : Nat) : ∀ i : Nat, i ≤ L.length → L.length - i = d → Ev (fun k => corporalaw11_long.l0 k L (L.length : Int) (i : Int)) ((L.drop i).any fun l => decide (60 < l.length)) := by
  induction d with
  | zero =>
    intro i hi hd
    have e : L.drop i = [] := List.drop_eq_nil_of_le (by omega)
    rw [e]
    refine Ev.step (f := fun _ => some false) (fun k => ?_) (Ev.now _)
    simp only [corporalaw11_long.l0]
    rw [if_neg (by omega)]
  | succ d ih =>
    intro i hi hd
    have hlt : i < L.length := by omega
    have eg : rd_L2 L (i : Int) = L[i] := by show L.getD i [] = _; simp [List.getD_eq_getElem?_getD, hlt]
    rw [drop_at L i hlt, List.any_cons]
    by_cases hl : 60 < L[i].length
    · rw [decide_eq_true hl, Bool.true_or]
      refine Ev.step (f := fun _ => some true) (fun k => ?_) (Ev.now _)
      simp only [corporalaw11_long.l0]
      rw [if_pos (by omega), if_pos (by omega), if_pos (by omega), eg, if_pos (by omega)]
    · rw [decide_eq_false hl, Bool.false_or]
      refine Ev.step (f := fun k => corporalaw11_long.l0 k L (L.length : Int) ((i + 1 : Nat) : Int)) (fun k => ?_) (ih (i + 1) (by omega) (by omega))
      simp only [corporalaw11_long.l0]
      rw [if_pos (by omega), if_pos (by omega), if_pos (by omega), eg, if_neg (by omega), wrap_succ (by omega)]
theorem long_ev (L : List (List S23)) (hL : L.length ≤ 1000) : Ev (fun k => corporalaw11_long.f k L) (L.any fun l => decide (60 < l.length)) := long_l0 L hL _ 0 (Nat.zero_le _) rfl

theorem Check_l0 (l : List S23) (hl : l.length ≤ 4096) (d : Nat) : ∀ j : Nat, j ≤ l.length → l.length - j = d → Ev (fun k => corporaref11_Check.l0 k l (l.length : Int) (j : Int)) (if (l.drop j).all vldB = true then 0 else 8) := by
  induction d with
  | zero =>
    intro j hj hd
    have e : l.drop j = [] := List.drop_eq_nil_of_le (by omega)
    rw [e, if_pos (by simp)]
    refine Ev.step (f := fun _ => some 0) (fun k => ?_) (Ev.now _)
    simp only [corporaref11_Check.l0]
    rw [if_neg (by omega)]
  | succ d ih =>
    intro j hj hd
    have hlt : j < l.length := by omega
    have eg := rd_at l j hlt
    rw [drop_at l j hlt, List.all_cons]
    by_cases hv : Vld l[j]
    · rw [show vldB l[j] = true from decide_eq_true hv, Bool.true_and]
      refine Ev.step (f := fun k => corporaref11_Check.l0 k l (l.length : Int) ((j + 1 : Nat) : Int)) (fun k => ?_) (ih (j + 1) (by omega) (by omega))
      simp only [corporaref11_Check.l0]
      rw [if_pos (by omega), if_pos (by omega), if_pos (by omega), eg, Valid_f, Option.bind_some, show decide (0 ≤ l[j].f0 ∧ l[j].f0 < l[j].f1) = true from decide_eq_true hv, if_pos rfl, wrap_succ (by omega)]
    · rw [show vldB l[j] = false from decide_eq_false hv, Bool.false_and, if_neg (by simp)]
      refine Ev.step (f := fun _ => some 8) (fun k => ?_) (Ev.now 8)
      simp only [corporaref11_Check.l0]
      rw [if_pos (by omega), if_pos (by omega), if_pos (by omega), eg, Valid_f, Option.bind_some, show decide (0 ≤ l[j].f0 ∧ l[j].f0 < l[j].f1) = false from decide_eq_false hv]
      simp
theorem Check_ev (l : List S23) : Ev (fun k => corporaref11_Check.f k l) (chk [l]) := by
  unfold corporaref11_Check.f chk
  by_cases h : l.length > 4096
  · rw [if_pos h]
    exact Ev.congr (f := fun _ => some 2) (fun k => by rw [if_pos (by omega)]) (Ev.now _)
  · rw [if_neg h]
    refine Ev.congr (f := fun k => corporaref11_Check.l0 k l (l.length : Int) ((0 : Nat) : Int)) (fun k => by rw [if_neg (by omega)]; rfl) ?_
    exact Check_l0 l (by omega) _ 0 (Nat.zero_le _) rfl

theorem V23 {W : World} {A : Option Addr} {c : Nat} {l : List S23} (hr : Kd.C k23 W A l.length l) (hc : l.length ≤ c) : Kd.V k23 23 W W.heap.size (fun k => (fun k => k < W.heap.size) k) (.slice A l.length c) l := Kd.V_mk hc (Kd.C_F k23_heap hr)

/-- The results of the two sides are alike. -/
def res (P : List S23) (e : Int) : List S23 × Int := if e = 0 then (P, 0) else ([], e)
theorem res_len {P : List S23} {e : Int} (h : e = 0 → P.length ≤ 4096) : (res P e).1.length ≤ 1000000 := by
  unfold res
  split
  · rename_i k; have := h k; show P.length ≤ _; omega
  · simp
theorem long1 (l : List S23) : ([l].any fun x => decide (60 < x.length)) = decide (60 < l.length) := by simp

end Go.Proofs.Ytbecgpjdeophmaa.Q
