import Derived.Test.YtbecgpjdeophmaaLb
import Derived.Test.YtbecgpjdeophmaaQj
import Derived.Test.YtbecgpjdeophmaaQl
import Derived.Test.YtbecgpjdeophmaaQm
import Derived.Test.YtbecgpjdeophmaaQo
namespace Go.Proofs.Ytbecgpjdeophmaa.Q
open Go.RowKit Go.Proofs.YtbecgpjdeophmaaW Go.Proofs.YtbecgpjdeophmaaW.PrintWords Go.Proofs.YtbecgpjdeophmaaW.PrintMore

theorem rd_at (l : List S23) (i : Nat) (h : i < l.length) : rd_T23 l (i : Int) = l[i] := by rw [rd_nat]; simp [List.getD_eq_getElem?_getD, h]
theorem drop_at {α : Type} (l : List α) (i : Nat) (h : i < l.length) : l.drop i = l[i] :: l.drop (i + 1) := List.drop_eq_getElem_cons h
theorem wrap_pred {j : Nat} (h : (j : Int) < 9223372036854775807) : wrap64 ((j : Int) - 1) = (j : Int) - 1 := by unfold wrap64; omega

theorem long_l0 (L : List (List S23)) (hL : L.length ≤ 1000) (d : Nat) : ∀ i : Nat, i ≤ L.length → L.length - i = d → Ev (fun k => corporalaw11_long.l0 k L (L.length : Int) (i : Int)) ((L.drop i).any fun l => decide (60 < l.length)) := by
  induction d with
  | zero =>
    intro i hi hd
    have e : L.drop i = [] := List.drop_eq_nil_of_le (by omega)
    rw [e]
    refine Ev.step (f := fun _ => some false) (fun k => ?_) (Ev.now _)
    simp only [corporalaw11_long.l0]
    rw [if_neg (by omega)]
  | succ d ih =>
    intro i hi hd
    have hlt : i < L.length := by omega
    have eg : rd_L2 L (i : Int) = L[i] := by show L.getD i [] = _; simp [List.getD_eq_getElem?_getD, hlt]
    rw [drop_at L i hlt, List.any_cons]
    by_cases hl : 60 < L[i].length
    · rw [decide_eq_true hl, Bool.true_or]
      refine Ev.step (f := fun _ => some true) (fun k => ?_) (Ev.now _)
      simp only [corporalaw11_long.l0]
      rw [if_pos (by omega), if_pos (by omega), if_pos (by omega), eg, if_pos (by omega)]
    · rw [decide_eq_false hl, Bool.false_or]
      refine Ev.step (f := fun k => corporalaw11_long.l0 k L (L.length : Int) ((i + 1 : Nat) : Int)) (fun k => ?_) (ih (i + 1) (by omega) (by omega))
      simp only [corporalaw11_long.l0]
      rw [if_pos (by omega), if_pos (by omega), if_pos (by omega), eg, if_neg (by omega), wrap_succ (by omega)]
theorem long_ev (L : List (List S23)) (hL : L.length ≤ 1000) : Ev (fun k => corporalaw11_long.f k L) (L.any fun l => decide (60 < l.length)) := long_l0 L hL _ 0 (Nat.zero_le _) rfl

theorem Check_l0 (l : List S23) (hl : l.length ≤ 4096) (d : Nat) : ∀ j : Nat, j ≤ l.length → l.length - j = d → Ev (fun k => corporaref11_Check.l0 k l (l.length : Int) (j : Int)) (if (l.drop j).all vldB = true then 0 else 8) := by
  induction d with
  | zero =>
    intro j hj hd
    have e : l.drop j = [] := List.drop_eq_nil_of_le (by omega)
    rw [e, if_pos (by simp)]
    refine Ev.step (f := fun _ => some 0) (fun k => ?_) (Ev.now _)
    simp only [corporaref11_Check.l0]
    rw [if_neg (by omega)]
  | succ d ih =>
    intro j hj hd
    have hlt : j < l.length := by omega
    have eg := rd_at l j hlt
    rw [drop_at l j hlt, List.all_cons]
    by_cases hv : Vld l[j]
    · rw [show vldB l[j] = true from decide_eq_true hv, Bool.true_and]
      refine Ev.step (f := fun k => corporaref11_Check.l0 k l (l.length : Int) ((j + 1 : Nat) : Int)) (fun k => ?_) (ih (j + 1) (by omega) (by omega))
      simp only [corporaref11_Check.l0]
      rw [if_pos (by omega), if_pos (by omega), if_pos (by omega), eg, Valid_f, Option.bind_some, show decide (0 ≤ l[j].f0 ∧ l[j].f0 < l[j].f1) = true from decide_eq_true hv, if_pos rfl, wrap_succ (by omega)]
    · rw [show vldB l[j] = false from decide_eq_false hv, Bool.false_and, if_neg (by simp)]
      refine Ev.step (f := fun _ => some 8) (fun k => ?_) (Ev.now 8)
      simp only [corporaref11_Check.l0]
      rw [if_pos (by omega), if_pos (by omega), if_pos (by omega), eg, Valid_f, Option.bind_some, show decide (0 ≤ l[j].f0 ∧ l[j].f0 < l[j].f1) = false from decide_eq_false hv]
      simp
theorem Check_ev (l : List S23) : Ev (fun k => corporaref11_Check.f k l) (chk [l]) := by
  unfold corporaref11_Check.f chk
  by_cases h : l.length > 4096
  · rw [if_pos h]
    exact Ev.congr (f := fun _ => some 2) (fun k => by rw [if_pos (by omega)]) (Ev.now _)
  · rw [if_neg h]
    refine Ev.congr (f := fun k => corporaref11_Check.l0 k l (l.length : Int) ((0 : Nat) : Int)) (fun k => by rw [if_neg (by omega)]; rfl) ?_
    exact Check_l0 l (by omega) _ 0 (Nat.zero_le _) rfl

theorem insert_ev (m : List S23) (s : S23) (h : m.length < 4096) : Ev (fun k => corporaref11_insert.f k m s.f0 s.f1) (ins m s) := ⟨0, fun k _ => by unfold corporaref11_insert.f; rw [if_pos h]⟩

theorem refN_l0 (l : List S23) (hl : l.length ≤ 4096) (d : Nat) : ∀ (j : Nat) (m : List S23), m.length ≤ j → j ≤ l.length → l.length - j = d → Ev (fun k => corporaref11_Normalize.l0 k m l (l.length : Int) (j : Int)) ((l.drop j).foldl ins m, 0) := by
  induction d with
  | zero =>
    intro j m hm hj hd
    have e : l.drop j = [] := List.drop_eq_nil_of_le (by omega)
    rw [e]
    refine Ev.step (f := fun _ => some (m, 0)) (fun k => ?_) (Ev.now _)
    simp only [corporaref11_Normalize.l0]
    rw [if_neg (by omega)]
  | succ d ih =>
    intro j m hm hj hd
    have hlt : j < l.length := by omega
    have eg := rd_at l j hlt
    have hm2 := length_ins m l[j]
    rw [drop_at l j hlt, List.foldl_cons]
    refine Ev.step (f := fun k => (corporaref11_insert.f k m l[j].f0 l[j].f1).bind fun t => corporaref11_Normalize.l0 k t l (l.length : Int) ((j + 1 : Nat) : Int)) (fun k => ?_) (Ev.bind (insert_ev m l[j] (by omega)) (ih (j + 1) (ins m l[j]) (by omega) (by omega) (by omega)))
    simp only [corporaref11_Normalize.l0]
    rw [if_pos (by omega), if_pos (by omega), if_pos (by omega), eg, wrap_succ (by omega)]
theorem refN_ev (l : List S23) : Ev (fun k => corporaref11_Normalize.f k l) (if chk [l] = 0 then (nrm l, 0) else ([], chk [l])) := by
  unfold corporaref11_Normalize.f
  refine Ev.bind (Check_ev l) ?_
  by_cases h : chk [l] = 0
  · rw [if_pos h]
    refine Ev.congr (f := fun k => corporaref11_Normalize.l0 k [] l (l.length : Int) ((0 : Nat) : Int)) (fun k => by rw [if_pos h]; rfl) ?_
    exact refN_l0 l (chk_len h).1 _ 0 [] (by simp) (Nat.zero_le _) rfl
  · rw [if_neg h]
    exact Ev.congr (f := fun k => some ([], chk [l])) (fun k => by rw [if_neg h]) (Ev.now _)

/-! ### covers -/
def covR : S23 → List S23 → List S23
  | c, [] => [c]
  | c, s :: t => if s.f0 ≤ c.f1 then covR ⟨c.f0, mx c.f1 s.f1⟩ t else c :: covR s t
def cov : List S23 → List S23
  | [] => []
  | s :: t => covR s t

theorem last_at (pre : List S23) (c : S23) : rd_T23 (pre ++ [c]) (((pre ++ [c]).length : Int) - 1) = c := by
  have e : (((pre ++ [c]).length : Int) - 1) = (pre.length : Int) := by simp
  rw [e, rd_nat]; simp [List.getD_eq_getElem?_getD]
theorem set_last (pre : List S23) (c c' : S23) : (pre ++ [c]).set ((((pre ++ [c]).length : Int) - 1)).toNat c' = pre ++ [c'] := by
  have e : ((((pre ++ [c]).length : Int) - 1)).toNat = pre.length := by simp
  rw [e]; simp

theorem cover_l0 (l : List S23) (hl : l.length ≤ 4096) (d : Nat) : ∀ (j : Nat) (pre : List S23) (c : S23), pre.length + 1 ≤ j → j ≤ l.length → l.length - j = d → Ev (fun k => interval_cover.l0 k (pre ++ [c]) l (l.length : Int) (j : Int)) (pre ++ covR c (l.drop j)) := by
  induction d with
  | zero =>
    intro j pre c hm hj hd
    have e : l.drop j = [] := List.drop_eq_nil_of_le (by omega)
    rw [e]
    refine Ev.step (f := fun _ => some (pre ++ [c])) (fun k => ?_) (Ev.now _)
    simp only [interval_cover.l0]
    rw [if_neg (by omega)]
  | succ d ih =>
    intro j pre c hm hj hd
    have hlt : j < l.length := by omega
    have eg := rd_at l j hlt
    have hlen : (pre ++ [c]).length = pre.length + 1 := by simp
    have hw : wrap64 (((pre ++ [c]).length : Int) - 1) = ((pre ++ [c]).length : Int) - 1 := wrap_pred (by omega)
    rw [drop_at l j hlt, covR]
    by_cases hc : l[j].f0 ≤ c.f1
    · rw [if_pos hc]
      refine Ev.step (f := fun k => interval_cover.l0 k (pre ++ [⟨c.f0, mx c.f1 l[j].f1⟩]) l (l.length : Int) ((j + 1 : Nat) : Int)) (fun k => ?_) (ih (j + 1) pre ⟨c.f0, mx c.f1 l[j].f1⟩ (by omega) (by omega) (by omega))
      simp only [interval_cover.l0]
      rw [if_pos (by omega), if_pos (by omega), if_pos (by omega), if_pos (by omega), hw, if_pos (by omega), if_pos (by omega), eg, last_at, if_pos hc, set_last, wrap_succ (by omega)]
    · rw [if_neg hc]
      have := ih (j + 1) (pre ++ [c]) l[j] (by omega) (by omega) (by omega)
      rw [show pre ++ c :: covR l[j] (l.drop (j + 1)) = pre ++ [c] ++ covR l[j] (l.drop (j + 1)) by simp]
      refine Ev.step (f := fun k => interval_cover.l0 k (pre ++ [c] ++ [l[j]]) l (l.length : Int) ((j + 1 : Nat) : Int)) (fun k => ?_) this
      simp only [interval_cover.l0]
      rw [if_pos (by omega), if_pos (by omega), if_pos (by omega), if_pos (by omega), hw, if_pos (by omega), if_pos (by omega), eg, last_at, if_neg hc, if_pos (by omega), wrap_succ (by omega)]
theorem cover_ev (l : List S23) (hl : l.length ≤ 4096) : Ev (fun k => interval_cover.f k l) (cov (nrm l)) := by
  unfold interval_cover.f
  refine Ev.bind (normal_ev l hl) ?_
  have hn := length_nrm l
  generalize nrm l = m at hn
  match m with
  | [] =>
    refine Ev.step (f := fun _ => some []) (fun k => ?_) (Ev.now _)
    simp [interval_cover.l0]
  | s :: t =>
    have h := cover_l0 (s :: t) (by omega) _ 1 [] s (by simp) (by simp) rfl
    refine Ev.step (fun k => ?_) h
    simp only [interval_cover.l0, List.nil_append]
    rw [if_pos (by simp), if_pos (by omega), if_pos (by simp), if_neg (by simp), if_pos (by simp), show wrap64 (0 + 1) = ((1 : Nat) : Int) by unfold wrap64; omega, show rd_T23 (s :: t) 0 = s from rfl]
theorem Cover_ev (l : List S23) : Ev (fun k => interval_Cover.f k l) (if chk [l] = 0 then (cov (nrm l), 0) else ([], chk [l])) := by
  unfold interval_Cover.f
  refine Ev.bind (check_ev [l] (by simp)) ?_
  by_cases h : chk [l] = 0
  · rw [if_pos h]
    refine Ev.congr (f := fun k => (interval_cover.f k l).bind fun t => some (t, 0)) (fun k => by rw [if_pos h]) ?_
    exact Ev.bind (cover_ev l (chk_len h).1) (Ev.now _)
  · rw [if_neg h]
    exact Ev.congr (f := fun k => some ([], chk [l])) (fun k => by rw [if_neg h]) (Ev.now _)

theorem refC_l0 (l : List S23) (hl : l.length ≤ 4096) (d : Nat) : ∀ (j : Nat) (pre : List S23) (c : S23), pre.length + 1 ≤ j → j ≤ l.length → l.length - j = d → Ev (fun k => corporaref11_Cover.l0 k (pre ++ [c]) l (l.length : Int) (j : Int)) (pre ++ covR c (l.drop j), 0) := by
  induction d with
  | zero =>
    intro j pre c hm hj hd
    have e : l.drop j = [] := List.drop_eq_nil_of_le (by omega)
    rw [e]
    refine Ev.step (f := fun _ => some (pre ++ [c], 0)) (fun k => ?_) (Ev.now _)
    simp only [corporaref11_Cover.l0]
    rw [if_neg (by omega)]
  | succ d ih =>
    intro j pre c hm hj hd
    have hlt : j < l.length := by omega
    have eg := rd_at l j hlt
    have hlen : (pre ++ [c]).length = pre.length + 1 := by simp
    have hw : wrap64 (((pre ++ [c]).length : Int) - 1) = ((pre ++ [c]).length : Int) - 1 := wrap_pred (by omega)
    rw [drop_at l j hlt, covR]
    by_cases hc : l[j].f0 ≤ c.f1
    · rw [if_pos hc]
      refine Ev.step (f := fun k => corporaref11_Cover.l0 k (pre ++ [⟨c.f0, mx c.f1 l[j].f1⟩]) l (l.length : Int) ((j + 1 : Nat) : Int)) (fun k => ?_) (ih (j + 1) pre ⟨c.f0, mx c.f1 l[j].f1⟩ (by omega) (by omega) (by omega))
      simp only [corporaref11_Cover.l0]
      rw [if_pos (by omega), if_pos (by omega), if_pos (by omega), hw, if_pos (by omega), if_pos (by omega), if_pos (by omega), eg, last_at, if_pos hc, set_last, wrap_succ (by omega)]
    · rw [if_neg hc]
      have := ih (j + 1) (pre ++ [c]) l[j] (by omega) (by omega) (by omega)
      rw [show pre ++ c :: covR l[j] (l.drop (j + 1)) = pre ++ [c] ++ covR l[j] (l.drop (j + 1)) by simp]
      refine Ev.step (f := fun k => corporaref11_Cover.l0 k (pre ++ [c] ++ [l[j]]) l (l.length : Int) ((j + 1 : Nat) : Int)) (fun k => ?_) this
      simp only [corporaref11_Cover.l0]
      rw [if_pos (by omega), if_pos (by omega), if_pos (by omega), hw, if_pos (by omega), if_pos (by omega), if_pos (by omega), eg, last_at, if_neg hc, if_pos (by omega), wrap_succ (by omega)]
theorem refC_ev (l : List S23) : Ev (fun k => corporaref11_Cover.f k l) (if chk [l] = 0 then (cov (nrm l), 0) else ([], chk [l])) := by
  unfold corporaref11_Cover.f
  refine Ev.bind (refN_ev l) ?_
  by_cases h : chk [l] = 0
  · rw [if_pos h, if_pos h]
    have hn := length_nrm l
    have hl := (chk_len h).1
    generalize nrm l = m at hn
    match m with
    | [] =>
      refine Ev.step (f := fun _ => some ([], 0)) (fun k => ?_) (Ev.now _)
      simp [corporaref11_Cover.l0]
    | s :: t =>
      have h := refC_l0 (s :: t) (by omega) _ 1 [] s (by simp) (by simp) rfl
      refine Ev.step (fun k => ?_) h
      simp only [corporaref11_Cover.l0, List.nil_append]
      rw [if_pos trivial, if_pos (by simp), if_pos (by omega), if_pos (by simp), if_neg (by show ¬ wrap64 (0 - 1) ≥ 0; unfold wrap64; omega), if_pos (by simp), show wrap64 (0 + 1) = ((1 : Nat) : Int) by unfold wrap64; omega, show rd_T23 (s :: t) 0 = s from rfl]
  · rw [if_neg h, if_neg h]
    exact Ev.congr (f := fun k => some ([], chk [l])) (fun k => by rw [if_neg h]) (Ev.now _)
end Go.Proofs.Ytbecgpjdeophmaa.Q
