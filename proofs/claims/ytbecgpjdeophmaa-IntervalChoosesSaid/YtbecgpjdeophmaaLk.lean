import Derived.Test.YtbecgpjdeophmaaLh
import Derived.Test.YtbecgpjdeophmaaLf2
import Derived.Test.YtbecgpjdeophmaaQs
namespace Go.Proofs.Ytbecgpjdeophmaa.Q
set_option linter.unusedVariables false
open Go.RowKit Go.Proofs.YtbecgpjdeophmaaW Go.Proofs.YtbecgpjdeophmaaW.PrintWords Go.Proofs.YtbecgpjdeophmaaW.PrintMore

theorem Contains_f (a0 a1 b0 b1 : Int) : corporaref11_Contains.f a0 a1 b0 b1 = some (decide (a0 ≤ b0 ∧ b1 ≤ a1)) := by
  unfold corporaref11_Contains.f
  by_cases h : a0 ≤ b0 <;> simp [h]
theorem Overlap_f (a0 a1 b0 b1 : Int) : corporaref11_Overlap.f a0 a1 b0 b1 = some (decide (a0 < b1 ∧ b0 < a1)) := by
  unfold corporaref11_Overlap.f
  by_cases h : a0 < b1 <;> simp [h]

/-- The choice of a kind, of two spans. -/
def rl (kind : Int) (s t : S23) : Bool := if kind = 1 then decide (t.f0 ≤ s.f0 ∧ s.f1 ≤ t.f1) else if kind = 2 then decide (s.f0 ≤ t.f0 ∧ t.f1 ≤ s.f1) else decide (s.f0 < t.f1 ∧ t.f0 < s.f1)

theorem choose_l1 (b m a : List S23) (kind : Int) (hbl : b.length ≤ 4096) (hm : m.length < 4096) (i : Nat) (hi : (i : Int) < 5000) (s : S23) (R : List S23 × Int)
    (ok0 : Bool) (hr : Ev (fun n => corporaref11_Choose.l0 n b kind (if (ok0 || b.any (rl kind s)) = true then ins m s else m) a (a.length : Int) ((i + 1 : Nat) : Int)) R) (d : Nat) :
    ∀ (j : Nat) (ok : Bool), j ≤ b.length → b.length - j = d → (ok || (b.drop j).any (rl kind s)) = (ok0 || b.any (rl kind s)) → Ev (fun n => corporaref11_Choose.l1 n b kind m ok a (a.length : Int) (i : Int) b (b.length : Int) (j : Int) s.f0 s.f1) R := by
  induction d with
  | zero =>
    intro j ok hj hd he
    have e : b.drop j = [] := List.drop_eq_nil_of_le (by omega)
    rw [e, List.any_nil, Bool.or_false] at he
    rw [← he] at hr
    cases ok with
    | true =>
      refine Ev.step (f := fun n => (corporaref11_insert.f n m s.f0 s.f1).bind fun t => corporaref11_Choose.l0 n b kind t a (a.length : Int) ((i + 1 : Nat) : Int)) (fun n => ?_) (Ev.bind (insert_ev m s hm) hr)
      simp only [corporaref11_Choose.l1]
      rw [if_neg (by omega), if_pos trivial, wrap_succ (by omega)]
    | false =>
      refine Ev.step (fun n => ?_) hr
      simp only [corporaref11_Choose.l1]
      rw [if_neg (by omega), if_neg (by simp), if_neg (by simp), wrap_succ (by omega)]
  | succ d ih =>
    intro j ok hj hd he
    have hlt : j < b.length := by omega
    rw [drop_at b j hlt, List.any_cons, ← Bool.or_assoc] at he
    have := ih (j + 1) (ok || rl kind s b[j]) (by omega) (by omega) he
    refine Ev.step (fun n => ?_) this
    simp only [corporaref11_Choose.l1]
    rw [if_pos (by omega), if_pos (by omega), if_pos (by omega), rd_at b j hlt, wrap_succ (by omega), Contains_f, Contains_f, Overlap_f, Option.bind_some, Option.bind_some, Option.bind_some]
    unfold rl
    cases ok with
    | true => simp
    | false =>
      by_cases k1 : kind = 1
      · simp [k1]
      · by_cases k2 : kind = 2
        · simp [k2]
        · simp [k1, k2]

theorem choose_l0 (b a : List S23) (kind : Int) (hbl : b.length ≤ 4096) (hal : a.length ≤ 4096) (d : Nat) : ∀ (i : Nat) (m : List S23), i ≤ a.length → a.length - i = d → m.length ≤ i →
    Ev (fun n => corporaref11_Choose.l0 n b kind m a (a.length : Int) (i : Int)) (((a.drop i).filter fun s => b.any (rl kind s)).foldl ins m, 0) := by
  induction d with
  | zero =>
    intro i m hi hd hm
    have e : a.drop i = [] := List.drop_eq_nil_of_le (by omega)
    rw [e]
    refine Ev.step (f := fun _ => some (m, 0)) (fun n => ?_) (Ev.now _)
    simp only [corporaref11_Choose.l0]
    rw [if_neg (by omega)]
  | succ d ih =>
    intro i m hi hd hm
    have hlt : i < a.length := by omega
    rw [drop_at a i hlt, List.filter_cons]
    refine Ev.step (f := fun n => corporaref11_Choose.l1 n b kind m false a (a.length : Int) (i : Int) b (b.length : Int) ((0 : Nat) : Int) a[i].f0 a[i].f1) (fun n => ?_) ?_
    · simp only [corporaref11_Choose.l0]
      rw [if_pos (by omega), if_pos (by omega), if_pos (by omega), rd_at a i hlt]
      rfl
    · refine choose_l1 b m a kind hbl (by omega) i (by omega) a[i] _ false ?_ _ 0 false (Nat.zero_le _) rfl (by simp)
      rw [Bool.false_or]
      by_cases c : b.any (rl kind a[i]) = true
      · rw [if_pos c, if_pos c, List.foldl_cons]
        exact ih (i + 1) (ins m a[i]) (by omega) (by omega) (by have := length_ins m a[i]; omega)
      · rw [if_neg c, if_neg c]
        exact ih (i + 1) m (by omega) (by omega) (by omega)

theorem chk_cons (a b : List S23) : chk [a, b] = if chk [a] = 0 then chk [b] else chk [a] := by
  unfold chk
  by_cases h : a.length > 4096
  · simp [h]
  · by_cases h2 : a.all vldB = true
    · simp [h, h2, chk]
    · simp [h, h2]

theorem any_iff {b c : List S23} (h : ∀ x, x ∈ b ↔ x ∈ c) (p : S23 → Bool) : b.any p = c.any p := by
  rw [Bool.eq_iff_iff, List.any_eq_true, List.any_eq_true]
  simp only [h]
theorem filter_nrm (a : List S23) (p : S23 → Bool) : (nrm a).filter p = nrm (a.filter p) := by
  refine nrm_unique (List.Pairwise.sublist List.filter_sublist (asc_nrm a)) fun x => ?_
  rw [List.mem_filter, List.mem_filter, mem_nrm]
theorem filter_any (a b : List S23) (f : S23 → S23 → Bool) : (nrm a).filter (fun s => (nrm b).any (f s)) = nrm (a.filter fun s => b.any (f s)) := by
  rw [filter_nrm]
  congr 1
  exact List.filter_congr fun s _ => any_iff (mem_nrm b) _

theorem Choose_ev (a b : List S23) (kind : Int) : Ev (fun k => corporaref11_Choose.f k a b kind) (res ((nrm a).filter fun s => (nrm b).any (rl kind s)) (chk [a, b])) := by
  unfold corporaref11_Choose.f res
  rw [filter_any, chk_cons]
  refine Ev.bind (Check_ev a) ?_
  by_cases h : chk [a] = 0
  · rw [if_pos h]
    refine Ev.congr (fun k => by rw [if_pos h]) ?_
    refine Ev.bind (Check_ev b) ?_
    by_cases h2 : chk [b] = 0
    · rw [if_pos h2]
      refine Ev.congr (f := fun k => corporaref11_Choose.l0 k b kind [] a (a.length : Int) ((0 : Nat) : Int)) (fun k => by rw [if_pos h2]; rfl) ?_
      exact choose_l0 b a kind (chk_len h2).1 (chk_len h).1 _ 0 [] (Nat.zero_le _) rfl (by simp)
    · rw [if_neg h2]
      exact Ev.congr (f := fun k => some ([], chk [b])) (fun k => by rw [if_neg h2]) (Ev.now _)
  · rw [if_neg h, if_neg h]
    exact Ev.congr (f := fun k => some ([], chk [a])) (fun k => by rw [if_neg h]) (Ev.now _)

end Go.Proofs.Ytbecgpjdeophmaa.Q
