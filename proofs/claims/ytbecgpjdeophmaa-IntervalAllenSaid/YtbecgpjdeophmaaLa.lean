import Derived.Test.YtbecgpjdeophmaaQa
import Derived.Test.YtbecgpjdeophmaaQc
import Derived.Test.YtbecgpjdeophmaaQf
import Derived.Test.YtbecgpjdeophmaaQg
namespace Go.Proofs.Ytbecgpjdeophmaa.Q
open Go.RowKit Go.Proofs.YtbecgpjdeophmaaW Go.Proofs.YtbecgpjdeophmaaW.PrintWords

def Vld (x : S23) : Prop := 0 ≤ x.f0 ∧ x.f0 < x.f1
instance (x : S23) : Decidable (Vld x) := by unfold Vld; infer_instance

/-- The number of the relation of two valid spans. -/
def relW (a0 a1 b0 b1 : Int) : Int :=
  if a0 = b0 ∧ a1 = b1 then 7 else if a1 < b0 then 1 else if a1 = b0 then 2 else if b1 < a0 then 13 else if b1 = a0 then 12
  else if a0 = b0 then (if a1 < b1 then 6 else 8)
  else if a0 < b0 then (if a1 < b1 then 3 else if a1 = b1 then 4 else 5)
  else (if b1 < a1 then 11 else if a1 = b1 then 10 else 9)
def relV (a0 a1 b0 b1 : Int) : Int := if (0 ≤ a0 ∧ a0 < a1) ∧ (0 ≤ b0 ∧ b0 < b1) then relW a0 a1 b0 b1 else 0

theorem relW_range (a0 a1 b0 b1 : Int) : 1 ≤ relW a0 a1 b0 b1 ∧ relW a0 a1 b0 b1 ≤ 13 := by
  unfold relW
  repeat' split
  all_goals omega
theorem relV_range (a0 a1 b0 b1 : Int) : 0 ≤ relV a0 a1 b0 b1 ∧ relV a0 a1 b0 b1 ≤ 13 := by
  have := relW_range a0 a1 b0 b1
  unfold relV
  split <;> omega
set_option maxHeartbeats 4000000 in
theorem relW_turn {a0 a1 b0 b1 : Int} (ha : a0 < a1) (hb : b0 < b1) : relW a0 a1 b0 b1 + relW b0 b1 a0 a1 = 14 := by
  unfold relW
  repeat' split
  all_goals omega

theorem valid_f (a0 a1 : Int) : interval_valid.f a0 a1 = some (decide (0 ≤ a0 ∧ a0 < a1)) := by
  unfold interval_valid.f
  by_cases h : a0 ≥ 0
  · rw [if_pos h]; congr 1; simp; intro _; exact h
  · rw [if_neg h]; congr 1; simp; omega
theorem Valid_f (a0 a1 : Int) : corporaref11_Valid.f a0 a1 = some (decide (0 ≤ a0 ∧ a0 < a1)) := by
  unfold corporaref11_Valid.f
  by_cases h : a0 ≥ 0
  · rw [if_pos h]; congr 1; simp; intro _; exact h
  · rw [if_neg h]; congr 1; simp; omega

theorem wrap_le {x : Int} (h : -20 ≤ x) (k : x ≤ 20) : wrap64 x = x := by unfold wrap64; omega

theorem rel_no (k : Nat) (a0 a1 b0 b1 : Int) (h : ¬ ((0 ≤ a0 ∧ a0 < a1) ∧ (0 ≤ b0 ∧ b0 < b1))) : interval_Relation.f (k + 2) a0 a1 b0 b1 = some 0 := by
  simp only [interval_Relation.f, valid_f, Option.bind_some]
  by_cases ha : 0 ≤ a0 ∧ a0 < a1
  · have hb : ¬ (0 ≤ b0 ∧ b0 < b1) := fun hb => h ⟨ha, hb⟩
    simp [ha, hb, interval_Relation.j0]
  · simp [ha, interval_Relation.j0]

theorem rel_lo (k : Nat) (a0 a1 b0 b1 : Int) (ha : 0 ≤ a0 ∧ a0 < a1) (hb : 0 ≤ b0 ∧ b0 < b1) (h : a0 < b0 ∨ (a0 = b0 ∧ a1 ≤ b1)) : interval_Relation.f (k + 3) a0 a1 b0 b1 = some (relW a0 a1 b0 b1) := by
  simp only [interval_Relation.f, valid_f, Option.bind_some]
  simp only [ha, hb, and_self, decide_true, if_true, Bool.not_true, interval_Relation.j0, Bool.false_eq_true, if_false]
  rw [if_neg (by omega)]
  have e : (if a0 = b0 then interval_Relation.j1 (k + 1) (decide (a1 > b1)) a0 a1 b0 b1 else interval_Relation.j1 (k + 1) false a0 a1 b0 b1) = interval_Relation.j1 (k + 1) false a0 a1 b0 b1 := by
    by_cases e : a0 = b0
    · rw [if_pos e, show decide (a1 > b1) = false from decide_eq_false (by omega)]
    · rw [if_neg e]
  rw [e]
  simp only [interval_Relation.j1, Bool.false_eq_true, if_false]
  unfold relW
  by_cases e1 : a0 = b0 ∧ a1 = b1
  · simp [e1]
  · have e2 : ¬ ((a0 == b0 && (a1 == b1)) = true) := by simpa using e1
    rw [if_neg e2, if_neg e1]
    by_cases c1 : a0 = b0
    · rw [if_pos c1, if_neg (show ¬ a1 < b0 by omega), if_neg (show ¬ a1 = b0 by omega), if_neg (show ¬ b1 < a0 by omega), if_neg (show ¬ b1 = a0 by omega), if_pos c1, if_pos (show a1 < b1 by omega)]
    · rw [if_neg c1]
      by_cases c2 : a1 < b0
      · rw [if_pos c2, if_pos c2]
      · rw [if_neg c2, if_neg c2]
        by_cases c3 : a1 = b0
        · rw [if_pos c3, if_pos c3]
        · rw [if_neg c3, if_neg c3, if_neg (show ¬ b1 < a0 by omega), if_neg (show ¬ b1 = a0 by omega), if_neg c1, if_pos (show a0 < b0 by omega)]
          by_cases c4 : a1 < b1
          · rw [if_pos c4, if_pos c4]
          · rw [if_neg c4, if_neg c4]
            by_cases c5 : a1 = b1
            · rw [if_pos c5, if_pos c5]
            · rw [if_neg c5, if_neg c5]

theorem rel_hi (k : Nat) (a0 a1 b0 b1 : Int) (ha : 0 ≤ a0 ∧ a0 < a1) (hb : 0 ≤ b0 ∧ b0 < b1) (h : b0 < a0 ∨ (a0 = b0 ∧ b1 < a1)) : interval_Relation.f (k + 6) a0 a1 b0 b1 = some (relW a0 a1 b0 b1) := by
  simp only [interval_Relation.f, valid_f, Option.bind_some]
  simp only [ha, hb, and_self, decide_true, if_true, Bool.not_true, interval_Relation.j0, Bool.false_eq_true, if_false]
  have e : (if a0 > b0 then interval_Relation.j1 (k + 4) true a0 a1 b0 b1 else if a0 = b0 then interval_Relation.j1 (k + 4) (decide (a1 > b1)) a0 a1 b0 b1 else interval_Relation.j1 (k + 4) false a0 a1 b0 b1) = interval_Relation.j1 (k + 4) true a0 a1 b0 b1 := by
    by_cases e : a0 > b0
    · rw [if_pos e]
    · rw [if_neg e, if_pos (by omega), show decide (a1 > b1) = true from decide_eq_true (by omega)]
  rw [e]
  simp only [interval_Relation.j1, if_true]
  rw [rel_lo k b0 b1 a0 a1 hb ha (by omega), Option.bind_some]
  have h1 := relW_turn ha.2 hb.2
  have h2 := relW_range b0 b1 a0 a1
  rw [wrap_le (by omega) (by omega), show 14 - relW b0 b1 a0 a1 = relW a0 a1 b0 b1 by omega]

theorem rel_ev (a0 a1 b0 b1 : Int) : Ev (fun k => interval_Relation.f k a0 a1 b0 b1) (relV a0 a1 b0 b1) := by
  unfold relV
  by_cases h : (0 ≤ a0 ∧ a0 < a1) ∧ (0 ≤ b0 ∧ b0 < b1)
  · rw [if_pos h]
    by_cases e : a0 < b0 ∨ (a0 = b0 ∧ a1 ≤ b1)
    · exact Ev.of (fun k => interval_Relation.mono _ _ _ _ k) (rel_lo 0 _ _ _ _ h.1 h.2 e)
    · exact Ev.of (fun k => interval_Relation.mono _ _ _ _ k) (rel_hi 0 _ _ _ _ h.1 h.2 (by omega))
  · rw [if_neg h]
    exact Ev.of (fun k => interval_Relation.mono _ _ _ _ k) (rel_no 0 _ _ _ _ h)
end Go.Proofs.Ytbecgpjdeophmaa.Q
