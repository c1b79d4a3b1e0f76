import Derived.Test.YtbecgpjdeophmaaLa
namespace Go.Proofs.Ytbecgpjdeophmaa.Q
open Go.RowKit Go.Proofs.YtbecgpjdeophmaaW Go.Proofs.YtbecgpjdeophmaaW.PrintWords

/-! ### lists -/
theorem rd_nat (l : List S23) (j : Nat) : rd_T23 l (j : Int) = l.getD j z23 := rfl
theorem wrap_succ {j : Nat} (h : (j : Int) < 9223372036854775807) : wrap64 ((j : Int) + 1) = ((j + 1 : Nat) : Int) := by unfold wrap64; omega

def vldB (x : S23) : Bool := decide (Vld x)
/-- The error of lists. -/
def chk : List (List S23) → Int
  | [] => 0
  | l :: r => if l.length > 4096 then 2 else if l.all vldB = true then chk r else 8

theorem check_l1 (L : List (List S23)) (n i : Int) (l : List S23) (hl : l.length ≤ 4096) (r0 : Int) (hr : Ev (fun k => interval_check.l0 k L n (wrap64 (i + 1))) r0) (d : Nat) :
    ∀ j : Nat, j ≤ l.length → l.length - j = d → Ev (fun k => interval_check.l1 k L n i l (l.length : Int) (j : Int)) (if (l.drop j).all vldB = true then r0 else 8) := by
  induction d with
  | zero =>
    intro j hj hd
    have e : l.drop j = [] := List.drop_eq_nil_of_le (by omega)
    rw [e, if_pos (by simp)]
    refine Ev.step (f := fun k => interval_check.l0 k L n (wrap64 (i + 1))) (fun k => ?_) hr
    simp only [interval_check.l1]
    rw [if_neg (by omega)]
  | succ d ih =>
    intro j hj hd
    have hlt : j < l.length := by omega
    have ed : l.drop j = l[j] :: l.drop (j + 1) := List.drop_eq_getElem_cons hlt
    have eg : rd_T23 l (j : Int) = l[j] := by rw [rd_nat]; simp [List.getD_eq_getElem?_getD, hlt]
    by_cases hv : Vld l[j]
    · have e : (if (l.drop j).all vldB = true then r0 else 8) = (if (l.drop (j + 1)).all vldB = true then r0 else 8) := by
        rw [ed, List.all_cons, show vldB l[j] = true from decide_eq_true hv, Bool.true_and]
      rw [e]
      refine Ev.step (f := fun k => interval_check.l1 k L n i l (l.length : Int) ((j + 1 : Nat) : Int)) (fun k => ?_) (ih (j + 1) (by omega) (by omega))
      simp only [interval_check.l1]
      rw [if_pos (by omega), if_pos (by omega), if_pos (by omega), eg, valid_f, Option.bind_some, show decide (0 ≤ l[j].f0 ∧ l[j].f0 < l[j].f1) = true from decide_eq_true hv, if_pos rfl, wrap_succ (by omega)]
    · rw [ed, List.all_cons, show vldB l[j] = false from decide_eq_false hv, Bool.false_and, if_neg (by simp)]
      refine Ev.step (f := fun _ => some 8) (fun k => ?_) (Ev.now 8)
      simp only [interval_check.l1]
      rw [if_pos (by omega), if_pos (by omega), if_pos (by omega), eg, valid_f, Option.bind_some, show decide (0 ≤ l[j].f0 ∧ l[j].f0 < l[j].f1) = false from decide_eq_false hv]
      simp

theorem check_l0 (L : List (List S23)) (hL : L.length ≤ 1000) (d : Nat) : ∀ i : Nat, i ≤ L.length → L.length - i = d → Ev (fun k => interval_check.l0 k L (L.length : Int) (i : Int)) (chk (L.drop i)) := by
  induction d with
  | zero =>
    intro i hi hd
    have e : L.drop i = [] := List.drop_eq_nil_of_le (by omega)
    rw [e]
    refine Ev.step (f := fun _ => some 0) (fun k => ?_) (Ev.now 0)
    simp only [interval_check.l0]
    rw [if_neg (by omega)]
  | succ d ih =>
    intro i hi hd
    have hlt : i < L.length := by omega
    have ed : L.drop i = L[i] :: L.drop (i + 1) := List.drop_eq_getElem_cons hlt
    have eg : rd_L2 L (i : Int) = L[i] := by show L.getD i [] = _; simp [List.getD_eq_getElem?_getD, hlt]
    rw [ed, chk]
    by_cases hl : L[i].length > 4096
    · rw [if_pos hl]
      refine Ev.step (f := fun _ => some 2) (fun k => ?_) (Ev.now 2)
      simp only [interval_check.l0]
      rw [if_pos (by omega), if_pos (by omega), if_pos (by omega), eg, if_pos (by omega)]
    · rw [if_neg hl]
      have hr := ih (i + 1) (by omega) (by omega)
      rw [← wrap_succ (by omega)] at hr
      refine Ev.step (f := fun k => interval_check.l1 k L (L.length : Int) (i : Int) L[i] (L[i].length : Int) ((0 : Nat) : Int)) (fun k => ?_) (check_l1 L (L.length : Int) (i : Int) L[i] (by omega) _ hr _ 0 (Nat.zero_le _) rfl)
      simp only [interval_check.l0]
      rw [if_pos (by omega), if_pos (by omega), if_pos (by omega), eg, if_neg (by omega)]
      rfl

theorem check_ev (L : List (List S23)) (hL : L.length ≤ 1000) : Ev (fun k => interval_check.f k L) (chk L) := check_l0 L hL _ 0 (Nat.zero_le _) rfl

theorem normal_ev (l : List S23) (h : l.length ≤ 4096) : Ev (fun k => interval_normal.f k l) (nrm l) := ⟨0, fun k _ => by unfold interval_normal.f; rw [if_pos h]⟩

/-- Where a list's error is none it is no longer than the limit. -/
theorem chk_len {l : List S23} {r : List (List S23)} (h : chk (l :: r) = 0) : l.length ≤ 4096 ∧ (∀ x ∈ l, Vld x) ∧ chk r = 0 := by
  unfold chk at h
  split at h
  · cases h
  · split at h
    · rename_i h1 h2; exact ⟨by omega, fun x hx => of_decide_eq_true (List.all_eq_true.1 h2 x hx), h⟩
    · cases h

theorem Normalize_ev (l : List S23) : Ev (fun k => interval_Normalize.f k l) (if chk [l] = 0 then (nrm l, 0) else ([], chk [l])) := by
  unfold interval_Normalize.f
  refine Ev.bind (check_ev [l] (by simp)) ?_
  by_cases h : chk [l] = 0
  · rw [if_pos h]
    refine Ev.congr (f := fun k => (interval_normal.f k l).bind fun t => some (t, 0)) (fun k => by rw [if_pos h]) ?_
    exact Ev.bind (normal_ev l (chk_len h).1) (Ev.now _)
  · rw [if_neg h]
    exact Ev.congr (f := fun k => some ([], chk [l])) (fun k => by rw [if_neg h]) (Ev.now _)

theorem Same_l0 (l : List S23) (hl : l.length ≤ 1000000) (d : Nat) : ∀ i : Nat, i ≤ l.length → l.length - i = d → Ev (fun k => corporaref11_Same.l0 k l l (l.length : Int) (i : Int)) true := by
  induction d with
  | zero =>
    intro i hi hd
    refine Ev.step (f := fun _ => some true) (fun k => ?_) (Ev.now _)
    simp only [corporaref11_Same.l0]
    rw [if_neg (by omega)]
  | succ d ih =>
    intro i hi hd
    refine Ev.step (f := fun k => corporaref11_Same.l0 k l l (l.length : Int) ((i + 1 : Nat) : Int)) (fun k => ?_) (ih (i + 1) (by omega) (by omega))
    simp only [corporaref11_Same.l0]
    rw [if_pos (by omega), if_pos (by omega), if_pos (by omega), if_pos (by omega), if_neg (by simp), wrap_succ (by omega)]
theorem Same_ev (l : List S23) (hl : l.length ≤ 1000000) : Ev (fun k => corporaref11_Same.f k l l) true := by
  unfold corporaref11_Same.f
  refine Ev.congr (f := fun k => corporaref11_Same.l0 k l l (l.length : Int) ((0 : Nat) : Int)) (fun k => by rw [if_pos rfl]; rfl) (Same_l0 l hl _ 0 (Nat.zero_le _) rfl)

theorem awake_ev : Ev (fun k => corporalaw11_awake.f k) true := by
  have hc : chk [[(⟨3, 4⟩ : S23), ⟨0, 2⟩, ⟨0, 5⟩, ⟨3, 4⟩]] = 0 := by
    decide
  have hn : nrm [(⟨3, 4⟩ : S23), ⟨0, 2⟩, ⟨0, 5⟩, ⟨3, 4⟩] = [⟨0, 5⟩, ⟨0, 2⟩, ⟨3, 4⟩] := by
    simp [nrm, ins, lt23]
  have h1 := Normalize_ev [(⟨3, 4⟩ : S23), ⟨0, 2⟩, ⟨0, 5⟩, ⟨3, 4⟩]
  rw [if_pos hc, hn] at h1
  unfold corporalaw11_awake.f
  refine Ev.bind h1 ?_
  refine Ev.congr (f := fun k => (corporaref11_Same.f k [(⟨0, 5⟩ : S23), ⟨0, 2⟩, ⟨3, 4⟩] [(⟨0, 5⟩ : S23), ⟨0, 2⟩, ⟨3, 4⟩]).bind fun t => if t = true then (interval_Relation.f k 0 4 2 4).bind fun t => some (t == 4) else some false) (fun k => rfl) ?_
  refine Ev.bind (Same_ev _ (by simp)) ?_
  refine Ev.congr (f := fun k => (interval_Relation.f k 0 4 2 4).bind fun t => some (t == 4)) (fun k => rfl) ?_
  have h2 := rel_ev 0 4 2 4
  rw [show relV 0 4 2 4 = 4 by decide] at h2
  exact Ev.bind h2 (Ev.now true)
end Go.Proofs.Ytbecgpjdeophmaa.Q
