import Derived.Test.YtbecgpjdeophmaaLb
namespace Go.Proofs.Ytbecgpjdeophmaa.Q
open Go.RowKit Go.Proofs.YtbecgpjdeophmaaW Go.Proofs.YtbecgpjdeophmaaW.PrintWords

set_option maxHeartbeats 8000000 in
theorem relW_iff {a0 a1 b0 b1 : Int} (ha : a0 < a1) (hb : b0 < b1) :
    (relW a0 a1 b0 b1 = 1 ↔ a1 < b0) ∧ (relW a0 a1 b0 b1 = 2 ↔ a1 = b0) ∧ (relW a0 a1 b0 b1 = 3 ↔ a0 < b0 ∧ b0 < a1 ∧ a1 < b1) ∧ (relW a0 a1 b0 b1 = 4 ↔ a0 < b0 ∧ a1 = b1) ∧
    (relW a0 a1 b0 b1 = 5 ↔ a0 < b0 ∧ b1 < a1) ∧ (relW a0 a1 b0 b1 = 6 ↔ a0 = b0 ∧ a1 < b1) ∧ (relW a0 a1 b0 b1 = 7 ↔ a0 = b0 ∧ a1 = b1) ∧ (relW a0 a1 b0 b1 = 8 ↔ a0 = b0 ∧ b1 < a1) ∧
    (relW a0 a1 b0 b1 = 9 ↔ b0 < a0 ∧ a1 < b1) ∧ (relW a0 a1 b0 b1 = 10 ↔ b0 < a0 ∧ a1 = b1) ∧ (relW a0 a1 b0 b1 = 11 ↔ b0 < a0 ∧ a0 < b1 ∧ b1 < a1) ∧ (relW a0 a1 b0 b1 = 12 ↔ b1 = a0) ∧ (relW a0 a1 b0 b1 = 13 ↔ b1 < a0) := by
  unfold relW
  refine ⟨?_, ?_, ?_, ?_, ?_, ?_, ?_, ?_, ?_, ?_, ?_, ?_, ?_⟩
  all_goals
    repeat' split
  all_goals omega
end Go.Proofs.Ytbecgpjdeophmaa.Q
