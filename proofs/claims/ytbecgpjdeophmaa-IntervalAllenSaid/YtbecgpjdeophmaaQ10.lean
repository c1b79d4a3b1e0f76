import Derived.Test.YtbecgpjdeophmaaQx0
import Derived.Test.YtbecgpjdeophmaaQx1
import Derived.Test.YtbecgpjdeophmaaQa
import Derived.Test.YtbecgpjdeophmaaQf
import Derived.Test.YtbecgpjdeophmaaQg
import Derived.Test.YtbecgpjdeophmaaQp
import Derived.Test.YtbecgpjdeophmaaQr
import Derived.Test.YtbecgpjdeophmaaQt
import Derived.Test.YtbecgpjdeophmaaQu
namespace Go.Proofs.Ytbecgpjdeophmaa.Q
open Go.RowKit Go.Proofs.YtbecgpjdeophmaaW.PrintWords Go.Proofs.YtbecgpjdeophmaaW.PrintLast Go.Proofs.YtbecgpjdeophmaaW.PrintMore
attribute [local go_sem] max2_int min2_int max_two min_two max_three min_three max_four min_four   -- for this text's walks alone
set_option linter.unusedVariables false
set_option linter.unusedSimpArgs false

/-! ### corporalaw11_IntervalAllen: function 10 -/
mutual
def corporalaw11_IntervalAllen.j0 : Nat → List (S23) → List (S23) → Bool → Option (Bool)
  | 0, _, _, _ => none
  | k + 1, x0, x1, x26 => if x26 = true then (some true) else ((interval_Within.f k x0 x1).bind fun bt448 => ((interval_Containing.f k x0 x1).bind fun bt452 => ((interval_Overlapping.f k x0 x1).bind fun bt456 => (if bt448.2 = 0 then (if bt452.2 = 0 then (corporalaw11_IntervalAllen.j1 k x0 x1 bt448.1 bt448.2 bt452.1 bt452.2 bt456.1 bt456.2 (bt456.2 != 0)) else (corporalaw11_IntervalAllen.j1 k x0 x1 bt448.1 bt448.2 bt452.1 bt452.2 bt456.1 bt456.2 true)) else (corporalaw11_IntervalAllen.j1 k x0 x1 bt448.1 bt448.2 bt452.1 bt452.2 bt456.1 bt456.2 true)))))
def corporalaw11_IntervalAllen.j1 : Nat → List (S23) → List (S23) → List (S23) → Int → List (S23) → Int → List (S23) → Int → Bool → Option (Bool)
  | 0, _, _, _, _, _, _, _, _, _ => none
  | k + 1, x0, x1, x5, x6, x7, x8, x9, x10, x54 => if x54 = true then (if x6 = x8 then (if x8 = x10 then ((corporalaw11_awake.f k).bind fun t460 => (some t460)) else (some false)) else (some false)) else (corporalaw11_IntervalAllen.l0 k x0 x1 x5 x7 x9 x0 (x0.length : Int) 0)
def corporalaw11_IntervalAllen.l0 : Nat → List (S23) → List (S23) → List (S23) → List (S23) → List (S23) → List (S23) → Int → Int → Option (Bool)
  | 0, _, _, _, _, _, _, _, _ => none
  | k + 1, x0, x1, x5, x7, x9, x66, x67, x68 => if x68 < x67 then (if 0 ≤ x68 then (if x68 < (x66.length : Int) then (corporalaw11_IntervalAllen.l1 k x0 x1 x5 x7 x9 false false false x66 x67 x68 x1 (x1.length : Int) 0 ((rd_T23 x66 x68).f0) ((rd_T23 x66 x68).f1)) else (none)) else (none)) else (if (x5.length : Int) ≤ (x0.length : Int) then (if (x7.length : Int) ≤ (x0.length : Int) then (if (x9.length : Int) ≤ (x0.length : Int) then ((corporalaw11_awake.f k).bind fun t461 => (some t461)) else (some false)) else (some false)) else (some false))
def corporalaw11_IntervalAllen.l1 : Nat → List (S23) → List (S23) → List (S23) → List (S23) → List (S23) → Bool → Bool → Bool → List (S23) → Int → Int → List (S23) → Int → Int → Int → Int → Option (Bool)
  | 0, _, _, _, _, _, _, _, _, _, _, _, _, _, _, _, _ => none
  | k + 1, x0, x1, x5, x7, x9, x13, x14, x15, x66, x67, x68, x72, x73, x74, x464000, x464001 => if x74 < x73 then (if 0 ≤ x74 then (if x74 < (x72.length : Int) then ((interval_Relation.f k x464000 x464001 ((rd_T23 x72 x74).f0) ((rd_T23 x72 x74).f1)).bind fun t466 => (if x13 = true then (if x14 = true then (if x15 = true then (corporalaw11_IntervalAllen.l1 k x0 x1 x5 x7 x9 true true true x66 x67 x68 x72 x73 (wrap64 (x74 + 1)) x464000 x464001) else (if t466 ≥ 3 then (corporalaw11_IntervalAllen.l1 k x0 x1 x5 x7 x9 true true (decide (t466 ≤ 11)) x66 x67 x68 x72 x73 (wrap64 (x74 + 1)) x464000 x464001) else (corporalaw11_IntervalAllen.l1 k x0 x1 x5 x7 x9 true true false x66 x67 x68 x72 x73 (wrap64 (x74 + 1)) x464000 x464001))) else (if t466 = 4 then (if x15 = true then (corporalaw11_IntervalAllen.l1 k x0 x1 x5 x7 x9 true true true x66 x67 x68 x72 x73 (wrap64 (x74 + 1)) x464000 x464001) else (if t466 ≥ 3 then (corporalaw11_IntervalAllen.l1 k x0 x1 x5 x7 x9 true true (decide (t466 ≤ 11)) x66 x67 x68 x72 x73 (wrap64 (x74 + 1)) x464000 x464001) else (corporalaw11_IntervalAllen.l1 k x0 x1 x5 x7 x9 true true false x66 x67 x68 x72 x73 (wrap64 (x74 + 1)) x464000 x464001))) else (if t466 = 5 then (if x15 = true then (corporalaw11_IntervalAllen.l1 k x0 x1 x5 x7 x9 true true true x66 x67 x68 x72 x73 (wrap64 (x74 + 1)) x464000 x464001) else (if t466 ≥ 3 then (corporalaw11_IntervalAllen.l1 k x0 x1 x5 x7 x9 true true (decide (t466 ≤ 11)) x66 x67 x68 x72 x73 (wrap64 (x74 + 1)) x464000 x464001) else (corporalaw11_IntervalAllen.l1 k x0 x1 x5 x7 x9 true true false x66 x67 x68 x72 x73 (wrap64 (x74 + 1)) x464000 x464001))) else (if t466 = 7 then (if x15 = true then (corporalaw11_IntervalAllen.l1 k x0 x1 x5 x7 x9 true true true x66 x67 x68 x72 x73 (wrap64 (x74 + 1)) x464000 x464001) else (if t466 ≥ 3 then (corporalaw11_IntervalAllen.l1 k x0 x1 x5 x7 x9 true true (decide (t466 ≤ 11)) x66 x67 x68 x72 x73 (wrap64 (x74 + 1)) x464000 x464001) else (corporalaw11_IntervalAllen.l1 k x0 x1 x5 x7 x9 true true false x66 x67 x68 x72 x73 (wrap64 (x74 + 1)) x464000 x464001))) else (if x15 = true then (corporalaw11_IntervalAllen.l1 k x0 x1 x5 x7 x9 true (t466 == 8) true x66 x67 x68 x72 x73 (wrap64 (x74 + 1)) x464000 x464001) else (if t466 ≥ 3 then (corporalaw11_IntervalAllen.l1 k x0 x1 x5 x7 x9 true (t466 == 8) (decide (t466 ≤ 11)) x66 x67 x68 x72 x73 (wrap64 (x74 + 1)) x464000 x464001) else (corporalaw11_IntervalAllen.l1 k x0 x1 x5 x7 x9 true (t466 == 8) false x66 x67 x68 x72 x73 (wrap64 (x74 + 1)) x464000 x464001))))))) else (if t466 = 6 then (if x14 = true then (if x15 = true then (corporalaw11_IntervalAllen.l1 k x0 x1 x5 x7 x9 true true true x66 x67 x68 x72 x73 (wrap64 (x74 + 1)) x464000 x464001) else (if t466 ≥ 3 then (corporalaw11_IntervalAllen.l1 k x0 x1 x5 x7 x9 true true (decide (t466 ≤ 11)) x66 x67 x68 x72 x73 (wrap64 (x74 + 1)) x464000 x464001) else (corporalaw11_IntervalAllen.l1 k x0 x1 x5 x7 x9 true true false x66 x67 x68 x72 x73 (wrap64 (x74 + 1)) x464000 x464001))) else (if t466 = 4 then (if x15 = true then (corporalaw11_IntervalAllen.l1 k x0 x1 x5 x7 x9 true true true x66 x67 x68 x72 x73 (wrap64 (x74 + 1)) x464000 x464001) else (if t466 ≥ 3 then (corporalaw11_IntervalAllen.l1 k x0 x1 x5 x7 x9 true true (decide (t466 ≤ 11)) x66 x67 x68 x72 x73 (wrap64 (x74 + 1)) x464000 x464001) else (corporalaw11_IntervalAllen.l1 k x0 x1 x5 x7 x9 true true false x66 x67 x68 x72 x73 (wrap64 (x74 + 1)) x464000 x464001))) else (if t466 = 5 then (if x15 = true then (corporalaw11_IntervalAllen.l1 k x0 x1 x5 x7 x9 true true true x66 x67 x68 x72 x73 (wrap64 (x74 + 1)) x464000 x464001) else (if t466 ≥ 3 then (corporalaw11_IntervalAllen.l1 k x0 x1 x5 x7 x9 true true (decide (t466 ≤ 11)) x66 x67 x68 x72 x73 (wrap64 (x74 + 1)) x464000 x464001) else (corporalaw11_IntervalAllen.l1 k x0 x1 x5 x7 x9 true true false x66 x67 x68 x72 x73 (wrap64 (x74 + 1)) x464000 x464001))) else (if t466 = 7 then (if x15 = true then (corporalaw11_IntervalAllen.l1 k x0 x1 x5 x7 x9 true true true x66 x67 x68 x72 x73 (wrap64 (x74 + 1)) x464000 x464001) else (if t466 ≥ 3 then (corporalaw11_IntervalAllen.l1 k x0 x1 x5 x7 x9 true true (decide (t466 ≤ 11)) x66 x67 x68 x72 x73 (wrap64 (x74 + 1)) x464000 x464001) else (corporalaw11_IntervalAllen.l1 k x0 x1 x5 x7 x9 true true false x66 x67 x68 x72 x73 (wrap64 (x74 + 1)) x464000 x464001))) else (if x15 = true then (corporalaw11_IntervalAllen.l1 k x0 x1 x5 x7 x9 true (t466 == 8) true x66 x67 x68 x72 x73 (wrap64 (x74 + 1)) x464000 x464001) else (if t466 ≥ 3 then (corporalaw11_IntervalAllen.l1 k x0 x1 x5 x7 x9 true (t466 == 8) (decide (t466 ≤ 11)) x66 x67 x68 x72 x73 (wrap64 (x74 + 1)) x464000 x464001) else (corporalaw11_IntervalAllen.l1 k x0 x1 x5 x7 x9 true (t466 == 8) false x66 x67 x68 x72 x73 (wrap64 (x74 + 1)) x464000 x464001))))))) else (if t466 = 7 then (if x14 = true then (if x15 = true then (corporalaw11_IntervalAllen.l1 k x0 x1 x5 x7 x9 true true true x66 x67 x68 x72 x73 (wrap64 (x74 + 1)) x464000 x464001) else (if t466 ≥ 3 then (corporalaw11_IntervalAllen.l1 k x0 x1 x5 x7 x9 true true (decide (t466 ≤ 11)) x66 x67 x68 x72 x73 (wrap64 (x74 + 1)) x464000 x464001) else (corporalaw11_IntervalAllen.l1 k x0 x1 x5 x7 x9 true true false x66 x67 x68 x72 x73 (wrap64 (x74 + 1)) x464000 x464001))) else (if t466 = 4 then (if x15 = true then (corporalaw11_IntervalAllen.l1 k x0 x1 x5 x7 x9 true true true x66 x67 x68 x72 x73 (wrap64 (x74 + 1)) x464000 x464001) else (if t466 ≥ 3 then (corporalaw11_IntervalAllen.l1 k x0 x1 x5 x7 x9 true true (decide (t466 ≤ 11)) x66 x67 x68 x72 x73 (wrap64 (x74 + 1)) x464000 x464001) else (corporalaw11_IntervalAllen.l1 k x0 x1 x5 x7 x9 true true false x66 x67 x68 x72 x73 (wrap64 (x74 + 1)) x464000 x464001))) else (if t466 = 5 then (if x15 = true then (corporalaw11_IntervalAllen.l1 k x0 x1 x5 x7 x9 true true true x66 x67 x68 x72 x73 (wrap64 (x74 + 1)) x464000 x464001) else (if t466 ≥ 3 then (corporalaw11_IntervalAllen.l1 k x0 x1 x5 x7 x9 true true (decide (t466 ≤ 11)) x66 x67 x68 x72 x73 (wrap64 (x74 + 1)) x464000 x464001) else (corporalaw11_IntervalAllen.l1 k x0 x1 x5 x7 x9 true true false x66 x67 x68 x72 x73 (wrap64 (x74 + 1)) x464000 x464001))) else (if x15 = true then (corporalaw11_IntervalAllen.l1 k x0 x1 x5 x7 x9 true true true x66 x67 x68 x72 x73 (wrap64 (x74 + 1)) x464000 x464001) else (if t466 ≥ 3 then (corporalaw11_IntervalAllen.l1 k x0 x1 x5 x7 x9 true true (decide (t466 ≤ 11)) x66 x67 x68 x72 x73 (wrap64 (x74 + 1)) x464000 x464001) else (corporalaw11_IntervalAllen.l1 k x0 x1 x5 x7 x9 true true false x66 x67 x68 x72 x73 (wrap64 (x74 + 1)) x464000 x464001)))))) else (if t466 = 9 then (if x14 = true then (if x15 = true then (corporalaw11_IntervalAllen.l1 k x0 x1 x5 x7 x9 true true true x66 x67 x68 x72 x73 (wrap64 (x74 + 1)) x464000 x464001) else (if t466 ≥ 3 then (corporalaw11_IntervalAllen.l1 k x0 x1 x5 x7 x9 true true (decide (t466 ≤ 11)) x66 x67 x68 x72 x73 (wrap64 (x74 + 1)) x464000 x464001) else (corporalaw11_IntervalAllen.l1 k x0 x1 x5 x7 x9 true true false x66 x67 x68 x72 x73 (wrap64 (x74 + 1)) x464000 x464001))) else (if t466 = 4 then (if x15 = true then (corporalaw11_IntervalAllen.l1 k x0 x1 x5 x7 x9 true true true x66 x67 x68 x72 x73 (wrap64 (x74 + 1)) x464000 x464001) else (if t466 ≥ 3 then (corporalaw11_IntervalAllen.l1 k x0 x1 x5 x7 x9 true true (decide (t466 ≤ 11)) x66 x67 x68 x72 x73 (wrap64 (x74 + 1)) x464000 x464001) else (corporalaw11_IntervalAllen.l1 k x0 x1 x5 x7 x9 true true false x66 x67 x68 x72 x73 (wrap64 (x74 + 1)) x464000 x464001))) else (if t466 = 5 then (if x15 = true then (corporalaw11_IntervalAllen.l1 k x0 x1 x5 x7 x9 true true true x66 x67 x68 x72 x73 (wrap64 (x74 + 1)) x464000 x464001) else (if t466 ≥ 3 then (corporalaw11_IntervalAllen.l1 k x0 x1 x5 x7 x9 true true (decide (t466 ≤ 11)) x66 x67 x68 x72 x73 (wrap64 (x74 + 1)) x464000 x464001) else (corporalaw11_IntervalAllen.l1 k x0 x1 x5 x7 x9 true true false x66 x67 x68 x72 x73 (wrap64 (x74 + 1)) x464000 x464001))) else (if x15 = true then (corporalaw11_IntervalAllen.l1 k x0 x1 x5 x7 x9 true (t466 == 8) true x66 x67 x68 x72 x73 (wrap64 (x74 + 1)) x464000 x464001) else (if t466 ≥ 3 then (corporalaw11_IntervalAllen.l1 k x0 x1 x5 x7 x9 true (t466 == 8) (decide (t466 ≤ 11)) x66 x67 x68 x72 x73 (wrap64 (x74 + 1)) x464000 x464001) else (corporalaw11_IntervalAllen.l1 k x0 x1 x5 x7 x9 true (t466 == 8) false x66 x67 x68 x72 x73 (wrap64 (x74 + 1)) x464000 x464001)))))) else (if x14 = true then (if x15 = true then (corporalaw11_IntervalAllen.l1 k x0 x1 x5 x7 x9 (t466 == 10) true true x66 x67 x68 x72 x73 (wrap64 (x74 + 1)) x464000 x464001) else (if t466 ≥ 3 then (corporalaw11_IntervalAllen.l1 k x0 x1 x5 x7 x9 (t466 == 10) true (decide (t466 ≤ 11)) x66 x67 x68 x72 x73 (wrap64 (x74 + 1)) x464000 x464001) else (corporalaw11_IntervalAllen.l1 k x0 x1 x5 x7 x9 (t466 == 10) true false x66 x67 x68 x72 x73 (wrap64 (x74 + 1)) x464000 x464001))) else (if t466 = 4 then (if x15 = true then (corporalaw11_IntervalAllen.l1 k x0 x1 x5 x7 x9 (t466 == 10) true true x66 x67 x68 x72 x73 (wrap64 (x74 + 1)) x464000 x464001) else (if t466 ≥ 3 then (corporalaw11_IntervalAllen.l1 k x0 x1 x5 x7 x9 (t466 == 10) true (decide (t466 ≤ 11)) x66 x67 x68 x72 x73 (wrap64 (x74 + 1)) x464000 x464001) else (corporalaw11_IntervalAllen.l1 k x0 x1 x5 x7 x9 (t466 == 10) true false x66 x67 x68 x72 x73 (wrap64 (x74 + 1)) x464000 x464001))) else (if t466 = 5 then (if x15 = true then (corporalaw11_IntervalAllen.l1 k x0 x1 x5 x7 x9 (t466 == 10) true true x66 x67 x68 x72 x73 (wrap64 (x74 + 1)) x464000 x464001) else (if t466 ≥ 3 then (corporalaw11_IntervalAllen.l1 k x0 x1 x5 x7 x9 (t466 == 10) true (decide (t466 ≤ 11)) x66 x67 x68 x72 x73 (wrap64 (x74 + 1)) x464000 x464001) else (corporalaw11_IntervalAllen.l1 k x0 x1 x5 x7 x9 (t466 == 10) true false x66 x67 x68 x72 x73 (wrap64 (x74 + 1)) x464000 x464001))) else (if x15 = true then (corporalaw11_IntervalAllen.l1 k x0 x1 x5 x7 x9 (t466 == 10) (t466 == 8) true x66 x67 x68 x72 x73 (wrap64 (x74 + 1)) x464000 x464001) else (if t466 ≥ 3 then (corporalaw11_IntervalAllen.l1 k x0 x1 x5 x7 x9 (t466 == 10) (t466 == 8) (decide (t466 ≤ 11)) x66 x67 x68 x72 x73 (wrap64 (x74 + 1)) x464000 x464001) else (corporalaw11_IntervalAllen.l1 k x0 x1 x5 x7 x9 (t466 == 10) (t466 == 8) false x66 x67 x68 x72 x73 (wrap64 (x74 + 1)) x464000 x464001))))))))))) else (none)) else (none)) else ((corporalaw11_has.f k x5 x464000 x464001).bind fun t467 => (if (x13 != t467) = true then (some false) else ((corporalaw11_has.f k x7 x464000 x464001).bind fun t468 => (if (x14 != t468) = true then (some false) else ((corporalaw11_has.f k x9 x464000 x464001).bind fun t469 => (if (x15 != t469) = true then (some false) else (corporalaw11_IntervalAllen.l0 k x0 x1 x5 x7 x9 x66 x67 (wrap64 (x68 + 1)))))))))
end
def corporalaw11_IntervalAllen.f (k : Nat) (l0 : List (S23)) (l1 : List (S23)) : Option (Bool) := if (l0.length : Int) > 12 then (corporalaw11_IntervalAllen.j0 k l0 l1 true) else (corporalaw11_IntervalAllen.j0 k l0 l1 (decide ((l1.length : Int) > 12)))
theorem corporalaw11_IntervalAllen.mono_l : ∀ k, (∀ y0 y1 y2, LeO (corporalaw11_IntervalAllen.j0 k y0 y1 y2) (corporalaw11_IntervalAllen.j0 (k + 1) y0 y1 y2)) ∧ (∀ y0 y1 y2 y3 y4 y5 y6 y7 y8, LeO (corporalaw11_IntervalAllen.j1 k y0 y1 y2 y3 y4 y5 y6 y7 y8) (corporalaw11_IntervalAllen.j1 (k + 1) y0 y1 y2 y3 y4 y5 y6 y7 y8)) ∧ (∀ y0 y1 y2 y3 y4 y5 y6 y7, LeO (corporalaw11_IntervalAllen.l0 k y0 y1 y2 y3 y4 y5 y6 y7) (corporalaw11_IntervalAllen.l0 (k + 1) y0 y1 y2 y3 y4 y5 y6 y7)) ∧ (∀ y0 y1 y2 y3 y4 y5 y6 y7 y8 y9 y10 y11 y12 y13 y14 y15, LeO (corporalaw11_IntervalAllen.l1 k y0 y1 y2 y3 y4 y5 y6 y7 y8 y9 y10 y11 y12 y13 y14 y15) (corporalaw11_IntervalAllen.l1 (k + 1) y0 y1 y2 y3 y4 y5 y6 y7 y8 y9 y10 y11 y12 y13 y14 y15))
  | 0 => ⟨fun _ _ _ r h => by simp [corporalaw11_IntervalAllen.j0] at h, fun _ _ _ _ _ _ _ _ _ r h => by simp [corporalaw11_IntervalAllen.j1] at h, fun _ _ _ _ _ _ _ _ r h => by simp [corporalaw11_IntervalAllen.l0] at h, fun _ _ _ _ _ _ _ _ _ _ _ _ _ _ _ _ r h => by simp [corporalaw11_IntervalAllen.l1] at h⟩
  | k + 1 => by
    obtain ⟨ih0, ih1, ih2, ih3⟩ := corporalaw11_IntervalAllen.mono_l k
    refine ⟨?_, ?_, ?_, ?_⟩
    · intro y0 y1 y2
      unfold corporalaw11_IntervalAllen.j0
      repeat' first
      | (with_reducible exact ih0 _ _ _)
      | (with_reducible exact ih1 _ _ _ _ _ _ _ _ _)
      | (with_reducible exact ih2 _ _ _ _ _ _ _ _)
      | (with_reducible exact ih3 _ _ _ _ _ _ _ _ _ _ _ _ _ _ _ _)
      | (with_reducible exact corporalaw11_awake.mono _)
      | (with_reducible exact corporalaw11_has.mono _ _ _ _)
      | (with_reducible exact interval_Containing.mono _ _ _)
      | (with_reducible exact interval_Overlapping.mono _ _ _)
      | (with_reducible exact interval_Relation.mono _ _ _ _ _)
      | (with_reducible exact interval_Within.mono _ _ _)
      | (with_reducible exact LeO.refl _)
      | (with_reducible exact LeO.none _)
      | (with_reducible refine LeO.ite ?_ ?_)
      | (with_reducible refine LeO.bind ?_ (fun _ => ?_))
      | exact ih0 _ _ _
      | exact ih1 _ _ _ _ _ _ _ _ _
      | exact ih2 _ _ _ _ _ _ _ _
      | exact ih3 _ _ _ _ _ _ _ _ _ _ _ _ _ _ _ _
      | exact corporalaw11_awake.mono _
      | exact corporalaw11_has.mono _ _ _ _
      | exact interval_Containing.mono _ _ _
      | exact interval_Overlapping.mono _ _ _
      | exact interval_Relation.mono _ _ _ _ _
      | exact interval_Within.mono _ _ _
      | exact LeO.none _
      | refine LeO.ite ?_ ?_
      | refine LeO.bind ?_ (fun _ => ?_)
    · intro y0 y1 y2 y3 y4 y5 y6 y7 y8
      unfold corporalaw11_IntervalAllen.j1
      repeat' first
      | (with_reducible exact ih0 _ _ _)
      | (with_reducible exact ih1 _ _ _ _ _ _ _ _ _)
      | (with_reducible exact ih2 _ _ _ _ _ _ _ _)
      | (with_reducible exact ih3 _ _ _ _ _ _ _ _ _ _ _ _ _ _ _ _)
      | (with_reducible exact corporalaw11_awake.mono _)
      | (with_reducible exact corporalaw11_has.mono _ _ _ _)
      | (with_reducible exact interval_Containing.mono _ _ _)
      | (with_reducible exact interval_Overlapping.mono _ _ _)
      | (with_reducible exact interval_Relation.mono _ _ _ _ _)
      | (with_reducible exact interval_Within.mono _ _ _)
      | (with_reducible exact LeO.refl _)
      | (with_reducible exact LeO.none _)
      | (with_reducible refine LeO.ite ?_ ?_)
      | (with_reducible refine LeO.bind ?_ (fun _ => ?_))
      | exact ih0 _ _ _
      | exact ih1 _ _ _ _ _ _ _ _ _
      | exact ih2 _ _ _ _ _ _ _ _
      | exact ih3 _ _ _ _ _ _ _ _ _ _ _ _ _ _ _ _
      | exact corporalaw11_awake.mono _
      | exact corporalaw11_has.mono _ _ _ _
      | exact interval_Containing.mono _ _ _
      | exact interval_Overlapping.mono _ _ _
      | exact interval_Relation.mono _ _ _ _ _
      | exact interval_Within.mono _ _ _
      | exact LeO.none _
      | refine LeO.ite ?_ ?_
      | refine LeO.bind ?_ (fun _ => ?_)
    · intro y0 y1 y2 y3 y4 y5 y6 y7
      unfold corporalaw11_IntervalAllen.l0
      repeat' first
      | (with_reducible exact ih0 _ _ _)
      | (with_reducible exact ih1 _ _ _ _ _ _ _ _ _)
      | (with_reducible exact ih2 _ _ _ _ _ _ _ _)
      | (with_reducible exact ih3 _ _ _ _ _ _ _ _ _ _ _ _ _ _ _ _)
      | (with_reducible exact corporalaw11_awake.mono _)
      | (with_reducible exact corporalaw11_has.mono _ _ _ _)
      | (with_reducible exact interval_Containing.mono _ _ _)
      | (with_reducible exact interval_Overlapping.mono _ _ _)
      | (with_reducible exact interval_Relation.mono _ _ _ _ _)
      | (with_reducible exact interval_Within.mono _ _ _)
      | (with_reducible exact LeO.refl _)
      | (with_reducible exact LeO.none _)
      | (with_reducible refine LeO.ite ?_ ?_)
      | (with_reducible refine LeO.bind ?_ (fun _ => ?_))
      | exact ih0 _ _ _
      | exact ih1 _ _ _ _ _ _ _ _ _
      | exact ih2 _ _ _ _ _ _ _ _
      | exact ih3 _ _ _ _ _ _ _ _ _ _ _ _ _ _ _ _
      | exact corporalaw11_awake.mono _
      | exact corporalaw11_has.mono _ _ _ _
      | exact interval_Containing.mono _ _ _
      | exact interval_Overlapping.mono _ _ _
      | exact interval_Relation.mono _ _ _ _ _
      | exact interval_Within.mono _ _ _
      | exact LeO.none _
      | refine LeO.ite ?_ ?_
      | refine LeO.bind ?_ (fun _ => ?_)
    · intro y0 y1 y2 y3 y4 y5 y6 y7 y8 y9 y10 y11 y12 y13 y14 y15
      unfold corporalaw11_IntervalAllen.l1
      repeat' first
      | (with_reducible exact ih0 _ _ _)
      | (with_reducible exact ih1 _ _ _ _ _ _ _ _ _)
      | (with_reducible exact ih2 _ _ _ _ _ _ _ _)
      | (with_reducible exact ih3 _ _ _ _ _ _ _ _ _ _ _ _ _ _ _ _)
      | (with_reducible exact corporalaw11_awake.mono _)
      | (with_reducible exact corporalaw11_has.mono _ _ _ _)
      | (with_reducible exact interval_Containing.mono _ _ _)
      | (with_reducible exact interval_Overlapping.mono _ _ _)
      | (with_reducible exact interval_Relation.mono _ _ _ _ _)
      | (with_reducible exact interval_Within.mono _ _ _)
      | (with_reducible exact LeO.refl _)
      | (with_reducible exact LeO.none _)
      | (with_reducible refine LeO.ite ?_ ?_)
      | (with_reducible refine LeO.bind ?_ (fun _ => ?_))
      | exact ih0 _ _ _
      | exact ih1 _ _ _ _ _ _ _ _ _
      | exact ih2 _ _ _ _ _ _ _ _
      | exact ih3 _ _ _ _ _ _ _ _ _ _ _ _ _ _ _ _
      | exact corporalaw11_awake.mono _
      | exact corporalaw11_has.mono _ _ _ _
      | exact interval_Containing.mono _ _ _
      | exact interval_Overlapping.mono _ _ _
      | exact interval_Relation.mono _ _ _ _ _
      | exact interval_Within.mono _ _ _
      | exact LeO.none _
      | refine LeO.ite ?_ ?_
      | refine LeO.bind ?_ (fun _ => ?_)
theorem corporalaw11_IntervalAllen.mono : ∀ a0 a1 k, LeO (corporalaw11_IntervalAllen.f k a0 a1) (corporalaw11_IntervalAllen.f (k + 1) a0 a1) := by
  intro a0 a1 k
  obtain ⟨ih0, ih1, ih2, ih3⟩ := corporalaw11_IntervalAllen.mono_l k
  unfold corporalaw11_IntervalAllen.f
  repeat' first
      | (with_reducible exact ih0 _ _ _)
      | (with_reducible exact ih1 _ _ _ _ _ _ _ _ _)
      | (with_reducible exact ih2 _ _ _ _ _ _ _ _)
      | (with_reducible exact ih3 _ _ _ _ _ _ _ _ _ _ _ _ _ _ _ _)
      | (with_reducible exact corporalaw11_awake.mono _)
      | (with_reducible exact corporalaw11_has.mono _ _ _ _)
      | (with_reducible exact interval_Containing.mono _ _ _)
      | (with_reducible exact interval_Overlapping.mono _ _ _)
      | (with_reducible exact interval_Relation.mono _ _ _ _ _)
      | (with_reducible exact interval_Within.mono _ _ _)
      | (with_reducible exact LeO.refl _)
      | (with_reducible exact LeO.none _)
      | (with_reducible refine LeO.ite ?_ ?_)
      | (with_reducible refine LeO.bind ?_ (fun _ => ?_))
      | exact ih0 _ _ _
      | exact ih1 _ _ _ _ _ _ _ _ _
      | exact ih2 _ _ _ _ _ _ _ _
      | exact ih3 _ _ _ _ _ _ _ _ _ _ _ _ _ _ _ _
      | exact corporalaw11_awake.mono _
      | exact corporalaw11_has.mono _ _ _ _
      | exact interval_Containing.mono _ _ _
      | exact interval_Overlapping.mono _ _ _
      | exact interval_Relation.mono _ _ _ _ _
      | exact interval_Within.mono _ _ _
      | exact LeO.none _
      | refine LeO.ite ?_ ?_
      | refine LeO.bind ?_ (fun _ => ?_)
/-! ### the three tests of a round -/
set_option maxHeartbeats 4000000 in
theorem allen_eq (F : Bool → Bool → Bool → Option Bool) (x y z : Bool) (t : Int) : F (x || (t == 6 || (t == 7 || (t == 9 || t == 10)))) (y || (t == 4 || (t == 5 || (t == 7 || t == 8)))) (z || (decide (3 ≤ t) && decide (t ≤ 11))) = (if x = true then (if y = true then (if z = true then (F true true true) else (if t ≥ 3 then (F true true (decide (t ≤ 11))) else (F true true false))) else (if t = 4 then (if z = true then (F true true true) else (if t ≥ 3 then (F true true (decide (t ≤ 11))) else (F true true false))) else (if t = 5 then (if z = true then (F true true true) else (if t ≥ 3 then (F true true (decide (t ≤ 11))) else (F true true false))) else (if t = 7 then (if z = true then (F true true true) else (if t ≥ 3 then (F true true (decide (t ≤ 11))) else (F true true false))) else (if z = true then (F true (t == 8) true) else (if t ≥ 3 then (F true (t == 8) (decide (t ≤ 11))) else (F true (t == 8) false))))))) else (if t = 6 then (if y = true then (if z = true then (F true true true) else (if t ≥ 3 then (F true true (decide (t ≤ 11))) else (F true true false))) else (if t = 4 then (if z = true then (F true true true) else (if t ≥ 3 then (F true true (decide (t ≤ 11))) else (F true true false))) else (if t = 5 then (if z = true then (F true true true) else (if t ≥ 3 then (F true true (decide (t ≤ 11))) else (F true true false))) else (if t = 7 then (if z = true then (F true true true) else (if t ≥ 3 then (F true true (decide (t ≤ 11))) else (F true true false))) else (if z = true then (F true (t == 8) true) else (if t ≥ 3 then (F true (t == 8) (decide (t ≤ 11))) else (F true (t == 8) false))))))) else (if t = 7 then (if y = true then (if z = true then (F true true true) else (if t ≥ 3 then (F true true (decide (t ≤ 11))) else (F true true false))) else (if t = 4 then (if z = true then (F true true true) else (if t ≥ 3 then (F true true (decide (t ≤ 11))) else (F true true false))) else (if t = 5 then (if z = true then (F true true true) else (if t ≥ 3 then (F true true (decide (t ≤ 11))) else (F true true false))) else (if z = true then (F true true true) else (if t ≥ 3 then (F true true (decide (t ≤ 11))) else (F true true false)))))) else (if t = 9 then (if y = true then (if z = true then (F true true true) else (if t ≥ 3 then (F true true (decide (t ≤ 11))) else (F true true false))) else (if t = 4 then (if z = true then (F true true true) else (if t ≥ 3 then (F true true (decide (t ≤ 11))) else (F true true false))) else (if t = 5 then (if z = true then (F true true true) else (if t ≥ 3 then (F true true (decide (t ≤ 11))) else (F true true false))) else (if z = true then (F true (t == 8) true) else (if t ≥ 3 then (F true (t == 8) (decide (t ≤ 11))) else (F true (t == 8) false)))))) else (if y = true then (if z = true then (F (t == 10) true true) else (if t ≥ 3 then (F (t == 10) true (decide (t ≤ 11))) else (F (t == 10) true false))) else (if t = 4 then (if z = true then (F (t == 10) true true) else (if t ≥ 3 then (F (t == 10) true (decide (t ≤ 11))) else (F (t == 10) true false))) else (if t = 5 then (if z = true then (F (t == 10) true true) else (if t ≥ 3 then (F (t == 10) true (decide (t ≤ 11))) else (F (t == 10) true false))) else (if z = true then (F (t == 10) (t == 8) true) else (if t ≥ 3 then (F (t == 10) (t == 8) (decide (t ≤ 11))) else (F (t == 10) (t == 8) false)))))))))) := by
  have hb : ∀ n : Int, t ≠ n → (t == n) = false := fun n h => beq_eq_false_iff_ne.mpr h
  rcases (by omega : t = 4 ∨ t = 5 ∨ t = 6 ∨ t = 7 ∨ t = 8 ∨ t = 9 ∨ t = 10 ∨ (3 ≤ t ∧ t ≠ 4 ∧ t ≠ 5 ∧ t ≠ 6 ∧ t ≠ 7 ∧ t ≠ 8 ∧ t ≠ 9 ∧ t ≠ 10) ∨ t < 3) with rfl | rfl | rfl | rfl | rfl | rfl | rfl | ⟨h3, h4, h5, h6, h7, h8, h9, h10⟩ | h3
  case inr.inr.inr.inr.inr.inr.inr.inl =>
    have e3 : (t ≥ 3) = True := eq_true h3
    cases x <;> cases y <;> cases z <;> (simp only [hb _ h4, hb _ h5, hb _ h6, hb _ h7, hb _ h8, hb _ h9, hb _ h10, eq_false h4, eq_false h5, eq_false h6, eq_false h7, eq_false h9, e3, decide_eq_true h3, if_true, if_false, Bool.false_eq_true, Bool.true_or, Bool.false_or, Bool.or_false, Bool.true_and]; try simp)
  case inr.inr.inr.inr.inr.inr.inr.inr =>
    have h4 : t ≠ 4 := by omega
    have h5 : t ≠ 5 := by omega
    have h6 : t ≠ 6 := by omega
    have h7 : t ≠ 7 := by omega
    have h8 : t ≠ 8 := by omega
    have h9 : t ≠ 9 := by omega
    have h10 : t ≠ 10 := by omega
    have n3 : ¬ 3 ≤ t := by omega
    have e3 : (t ≥ 3) = False := eq_false n3
    cases x <;> cases y <;> cases z <;> (simp only [hb _ h4, hb _ h5, hb _ h6, hb _ h7, hb _ h8, hb _ h9, hb _ h10, eq_false h4, eq_false h5, eq_false h6, eq_false h7, eq_false h9, e3, decide_eq_false n3, if_true, if_false, Bool.false_eq_true, Bool.true_or, Bool.false_or, Bool.or_false, Bool.false_and]; try simp)
  all_goals
    cases x <;> cases y <;> cases z <;> first | rfl | (simp; done)
theorem allen_pick (F : Bool → Bool → Bool → Option Bool) (x y z : Bool) (t : Int) (r : Bool) (H : (if x = true then (if y = true then (if z = true then (F true true true) else (if t ≥ 3 then (F true true (decide (t ≤ 11))) else (F true true false))) else (if t = 4 then (if z = true then (F true true true) else (if t ≥ 3 then (F true true (decide (t ≤ 11))) else (F true true false))) else (if t = 5 then (if z = true then (F true true true) else (if t ≥ 3 then (F true true (decide (t ≤ 11))) else (F true true false))) else (if t = 7 then (if z = true then (F true true true) else (if t ≥ 3 then (F true true (decide (t ≤ 11))) else (F true true false))) else (if z = true then (F true (t == 8) true) else (if t ≥ 3 then (F true (t == 8) (decide (t ≤ 11))) else (F true (t == 8) false))))))) else (if t = 6 then (if y = true then (if z = true then (F true true true) else (if t ≥ 3 then (F true true (decide (t ≤ 11))) else (F true true false))) else (if t = 4 then (if z = true then (F true true true) else (if t ≥ 3 then (F true true (decide (t ≤ 11))) else (F true true false))) else (if t = 5 then (if z = true then (F true true true) else (if t ≥ 3 then (F true true (decide (t ≤ 11))) else (F true true false))) else (if t = 7 then (if z = true then (F true true true) else (if t ≥ 3 then (F true true (decide (t ≤ 11))) else (F true true false))) else (if z = true then (F true (t == 8) true) else (if t ≥ 3 then (F true (t == 8) (decide (t ≤ 11))) else (F true (t == 8) false))))))) else (if t = 7 then (if y = true then (if z = true then (F true true true) else (if t ≥ 3 then (F true true (decide (t ≤ 11))) else (F true true false))) else (if t = 4 then (if z = true then (F true true true) else (if t ≥ 3 then (F true true (decide (t ≤ 11))) else (F true true false))) else (if t = 5 then (if z = true then (F true true true) else (if t ≥ 3 then (F true true (decide (t ≤ 11))) else (F true true false))) else (if z = true then (F true true true) else (if t ≥ 3 then (F true true (decide (t ≤ 11))) else (F true true false)))))) else (if t = 9 then (if y = true then (if z = true then (F true true true) else (if t ≥ 3 then (F true true (decide (t ≤ 11))) else (F true true false))) else (if t = 4 then (if z = true then (F true true true) else (if t ≥ 3 then (F true true (decide (t ≤ 11))) else (F true true false))) else (if t = 5 then (if z = true then (F true true true) else (if t ≥ 3 then (F true true (decide (t ≤ 11))) else (F true true false))) else (if z = true then (F true (t == 8) true) else (if t ≥ 3 then (F true (t == 8) (decide (t ≤ 11))) else (F true (t == 8) false)))))) else (if y = true then (if z = true then (F (t == 10) true true) else (if t ≥ 3 then (F (t == 10) true (decide (t ≤ 11))) else (F (t == 10) true false))) else (if t = 4 then (if z = true then (F (t == 10) true true) else (if t ≥ 3 then (F (t == 10) true (decide (t ≤ 11))) else (F (t == 10) true false))) else (if t = 5 then (if z = true then (F (t == 10) true true) else (if t ≥ 3 then (F (t == 10) true (decide (t ≤ 11))) else (F (t == 10) true false))) else (if z = true then (F (t == 10) (t == 8) true) else (if t ≥ 3 then (F (t == 10) (t == 8) (decide (t ≤ 11))) else (F (t == 10) (t == 8) false)))))))))) = some r) : F (x || (t == 6 || (t == 7 || (t == 9 || t == 10)))) (y || (t == 4 || (t == 5 || (t == 7 || t == 8)))) (z || (decide (3 ≤ t) && decide (t ≤ 11))) = some r := (allen_eq F x y z t).trans H
end Go.Proofs.Ytbecgpjdeophmaa.Q
