import Derived.Test.YtmmdlkeemafanaaQx0
import Derived.Test.YtmmdlkeemafanaaQx1
import Derived.Test.YtmmdlkeemafanaaY
import Derived.Test.YtmmdlkeemafanaaTb
import Derived.Test.YtmmdlkeemafanaaQb
import Derived.Test.YtmmdlkeemafanaaQj
import Derived.Test.YtmmdlkeemafanaaQr
namespace Go.Proofs.Ytmmdlkeemafanaa.Q
open Go.RowKit Go.Proofs.YtmmdlkeemafanaaW.PrintWords Go.Proofs.YtmmdlkeemafanaaW.PrintLast Go.Proofs.YtmmdlkeemafanaaW.PrintMore
attribute [local go_sem] max2_int min2_int max_two min_two max_three min_three max_four min_four   -- for this text's walks alone
set_option linter.unusedVariables false
set_option linter.unusedSimpArgs false

attribute [local go_sem high] eqA40

/-! ### two slices in a row -/
def encPQ (A : Option Addr) (n c : Nat) (B : Option Addr) (m d : Nat) (x : Int) : Value := if x = 0 then .slice A n c else .slice B m d
theorem encPQ_one (A : Option Addr) (n c : Nat) (B : Option Addr) (m d : Nat) (x : Int) : (encPQ A n c B m d x).oneCell' = true := by unfold encPQ; split <;> rfl
def kPQ (A : Option Addr) (n c : Nat) (B : Option Addr) (m d : Nat) : Kd Int := Kd.scalar (encPQ A n c B m d) (encPQ_one A n c B m d)
theorem kPQ_0 (A : Option Addr) (n c : Nat) (B : Option Addr) (m d : Nat) (w : World) (base : Nat) (ok : Nat → Prop) : (kPQ A n c B m d).M w base ok 0 [.slice A n c] := by
  show [Value.slice A n c] = [encPQ A n c B m d 0]
  unfold encPQ; rw [if_pos rfl]
theorem kPQ_1 (A : Option Addr) (n c : Nat) (B : Option Addr) (m d : Nat) (w : World) (base : Nat) (ok : Nat → Prop) : (kPQ A n c B m d).M w base ok 1 [.slice B m d] := by
  show [Value.slice B m d] = [encPQ A n c B m d 1]
  unfold encPQ; rw [if_neg (by decide)]
theorem at_PQ {A B E : Option Addr} {n c m d q : Nat} {w : World} {xs : List Int} (h : (kPQ A n c B m d).C w E q xs) (i : Int) (h0 : 0 ≤ i) (h1 : i < q) : ∃ ad, E = some ad ∧ w.cell? (ad.add i.toNat) = some (encPQ A n c B m d (rd xs i)) :=
  ReadsOf.at_ (Kd.reads_of_C (enc := encPQ A n c B m d) (d := (0 : Int)) (h1 := encPQ_one A n c B m d) h) i h0 h1

theorem kPQ_ne {A : Option Addr} {n c : Nat} {B : Option Addr} {m d : Nat} : ∀ q, q ∈ 31 :: (kPQ A n c B m d).E → q ≠ 40 := by
  intro q hq
  obtain rfl : q = 31 := by simpa [kPQ, Kd.scalar] using hq
  decide

/-! ### corporalaw27_StrategyNests: function 7 -/
mutual
def corporalaw27_StrategyNests.j0 : Nat → List (S38) → List (S38) → List (S38) → Bool → Option (Bool)
  | 0, _, _, _, _ => none
  | k + 1, x3, x4, x6, x42 => if x42 = true then (some false) else ((strategy_Spans.f k x4).bind fun t414 => ((strategy_Spans.f k x6).bind fun t417 => ((some (([0, 1] : List Int) : List Int)).bind fun y420 => (corporalaw27_StrategyNests.l0 k x3 t414 t417 y420 (y420.length : Int) 0))))
def corporalaw27_StrategyNests.l0 : Nat → List (S38) → List (S40) → List (S40) → List Int → Int → Int → Option (Bool)
  | 0, _, _, _, _, _, _ => none
  | k + 1, x3, x8, x9, x49, x50, x51 => if x51 < x50 then (if 0 ≤ x51 then (if x51 < (x49.length : Int) then (if rd x49 x51 = 0 then (corporalaw27_StrategyNests.l1 k x3 x8 x9 x49 x50 x51 x8 (x8.length : Int) 0) else (corporalaw27_StrategyNests.l1 k x3 x8 x9 x49 x50 x51 x9 (x9.length : Int) 0)) else (none)) else (none)) else (corporalaw27_StrategyNests.l3 k x8 x9 x3 (x3.length : Int) 0)
def corporalaw27_StrategyNests.l1 : Nat → List (S38) → List (S40) → List (S40) → List Int → Int → Int → List (S40) → Int → Int → Option (Bool)
  | 0, _, _, _, _, _, _, _, _, _ => none
  | k + 1, x3, x8, x9, x49, x50, x51, x55, x56, x57 => if x57 < x56 then (if 0 ≤ x57 then (if x57 < (x55.length : Int) then (corporalaw27_StrategyNests.l2 k x3 x8 x9 x57 x49 x50 x51 x55 x56 x57 x55 (x55.length : Int) 0 ((rd_T40 x55 x57).f0) ((rd_T40 x55 x57).f1)) else (none)) else (none)) else (corporalaw27_StrategyNests.l0 k x3 x8 x9 x49 x50 (wrap64 (x51 + 1)))
def corporalaw27_StrategyNests.l2 : Nat → List (S38) → List (S40) → List (S40) → Int → List Int → Int → Int → List (S40) → Int → Int → List (S40) → Int → Int → Int → Int → Option (Bool)
  | 0, _, _, _, _, _, _, _, _, _, _, _, _, _, _, _ => none
  | k + 1, x3, x8, x9, x12, x49, x50, x51, x55, x56, x57, x62, x63, x64, x426000, x426001 => if x64 < x63 then (if 0 ≤ x64 then (if x64 < (x62.length : Int) then (if x12 = x64 then (corporalaw27_StrategyNests.l2 k x3 x8 x9 x12 x49 x50 x51 x55 x56 x57 x62 x63 (wrap64 (x64 + 1)) x426000 x426001) else ((corporaref27_Contains.f x426000 x426001 ((rd_T40 x62 x64).f0) ((rd_T40 x62 x64).f1)).bind fun t428 => (if t428 = true then (some false) else (corporalaw27_StrategyNests.l2 k x3 x8 x9 x12 x49 x50 x51 x55 x56 x57 x62 x63 (wrap64 (x64 + 1)) x426000 x426001)))) else (none)) else (none)) else (corporalaw27_StrategyNests.l1 k x3 x8 x9 x49 x50 x51 x55 x56 (wrap64 (x57 + 1)))
def corporalaw27_StrategyNests.l3 : Nat → List (S40) → List (S40) → List (S38) → Int → Int → Option (Bool)
  | 0, _, _, _, _, _ => none
  | k + 1, x8, x9, x80, x81, x82 => if x82 < x81 then (if 0 ≤ x82 then (if x82 < (x80.length : Int) then (corporalaw27_StrategyNests.l4 k x8 x9 false false x80 x81 x82 x8 (x8.length : Int) 0 ((rd_T38 x80 x82).f0) ((rd_T38 x80 x82).f1)) else (none)) else (none)) else ((corporalaw27_known.f k).bind fun t429 => (some t429))
def corporalaw27_StrategyNests.l4 : Nat → List (S40) → List (S40) → Bool → Bool → List (S38) → Int → Int → List (S40) → Int → Int → Int → Int → Option (Bool)
  | 0, _, _, _, _, _, _, _, _, _, _, _, _ => none
  | k + 1, x8, x9, x19, x20, x80, x81, x82, x91, x92, x93, x433000, x433001 => if x93 < x92 then (if 0 ≤ x93 then (if x93 < (x91.length : Int) then (if x19 = true then (corporalaw27_StrategyNests.l4 k x8 x9 true x20 x80 x81 x82 x91 x92 (wrap64 (x93 + 1)) x433000 x433001) else ((corporaref27_Contains.f x433000 x433001 ((rd_T40 x91 x93).f0) ((rd_T40 x91 x93).f1)).bind fun t435 => (corporalaw27_StrategyNests.l4 k x8 x9 t435 x20 x80 x81 x82 x91 x92 (wrap64 (x93 + 1)) x433000 x433001))) else (none)) else (none)) else (corporalaw27_StrategyNests.l5 k x8 x9 x19 x20 x80 x81 x82 x9 (x9.length : Int) 0 x433000 x433001)
def corporalaw27_StrategyNests.l5 : Nat → List (S40) → List (S40) → Bool → Bool → List (S38) → Int → Int → List (S40) → Int → Int → Int → Int → Option (Bool)
  | 0, _, _, _, _, _, _, _, _, _, _, _, _ => none
  | k + 1, x8, x9, x19, x20, x80, x81, x82, x104, x105, x106, x433000, x433001 => if x106 < x105 then (if 0 ≤ x106 then (if x106 < (x104.length : Int) then (if x20 = true then (corporalaw27_StrategyNests.l5 k x8 x9 x19 true x80 x81 x82 x104 x105 (wrap64 (x106 + 1)) x433000 x433001) else ((corporaref27_Contains.f ((rd_T40 x104 x106).f0) ((rd_T40 x104 x106).f1) x433000 x433001).bind fun t438 => (corporalaw27_StrategyNests.l5 k x8 x9 x19 t438 x80 x81 x82 x104 x105 (wrap64 (x106 + 1)) x433000 x433001))) else (none)) else (none)) else (if x19 = true then (if x20 = true then (corporalaw27_StrategyNests.l3 k x8 x9 x80 x81 (wrap64 (x82 + 1))) else (some false)) else (some false))
end
def corporalaw27_StrategyNests.f (k : Nat) (l0 : List Int) : Option (Bool) := (corporalaw27_list.f k l0).bind fun t403 => ((strategy_Choose.f k 1 t403).bind fun bt406 => ((strategy_Choose.f k 2 t403).bind fun bt410 => (if bt406.2 = 0 then (corporalaw27_StrategyNests.j0 k t403 bt406.1 bt410.1 (bt410.2 != 0)) else (corporalaw27_StrategyNests.j0 k t403 bt406.1 bt410.1 true))))
theorem corporalaw27_StrategyNests.mono_l : ∀ k, (∀ y0 y1 y2 y3, LeO (corporalaw27_StrategyNests.j0 k y0 y1 y2 y3) (corporalaw27_StrategyNests.j0 (k + 1) y0 y1 y2 y3)) ∧ (∀ y0 y1 y2 y3 y4 y5, LeO (corporalaw27_StrategyNests.l0 k y0 y1 y2 y3 y4 y5) (corporalaw27_StrategyNests.l0 (k + 1) y0 y1 y2 y3 y4 y5)) ∧ (∀ y0 y1 y2 y3 y4 y5 y6 y7 y8, LeO (corporalaw27_StrategyNests.l1 k y0 y1 y2 y3 y4 y5 y6 y7 y8) (corporalaw27_StrategyNests.l1 (k + 1) y0 y1 y2 y3 y4 y5 y6 y7 y8)) ∧ (∀ y0 y1 y2 y3 y4 y5 y6 y7 y8 y9 y10 y11 y12 y13 y14, LeO (corporalaw27_StrategyNests.l2 k y0 y1 y2 y3 y4 y5 y6 y7 y8 y9 y10 y11 y12 y13 y14) (corporalaw27_StrategyNests.l2 (k + 1) y0 y1 y2 y3 y4 y5 y6 y7 y8 y9 y10 y11 y12 y13 y14)) ∧ (∀ y0 y1 y2 y3 y4, LeO (corporalaw27_StrategyNests.l3 k y0 y1 y2 y3 y4) (corporalaw27_StrategyNests.l3 (k + 1) y0 y1 y2 y3 y4)) ∧ (∀ y0 y1 y2 y3 y4 y5 y6 y7 y8 y9 y10 y11, LeO (corporalaw27_StrategyNests.l4 k y0 y1 y2 y3 y4 y5 y6 y7 y8 y9 y10 y11) (corporalaw27_StrategyNests.l4 (k + 1) y0 y1 y2 y3 y4 y5 y6 y7 y8 y9 y10 y11)) ∧ (∀ y0 y1 y2 y3 y4 y5 y6 y7 y8 y9 y10 y11, LeO (corporalaw27_StrategyNests.l5 k y0 y1 y2 y3 y4 y5 y6 y7 y8 y9 y10 y11) (corporalaw27_StrategyNests.l5 (k + 1) y0 y1 y2 y3 y4 y5 y6 y7 y8 y9 y10 y11))
  | 0 => ⟨fun _ _ _ _ r h => by simp [corporalaw27_StrategyNests.j0] at h, fun _ _ _ _ _ _ r h => by simp [corporalaw27_StrategyNests.l0] at h, fun _ _ _ _ _ _ _ _ _ r h => by simp [corporalaw27_StrategyNests.l1] at h, fun _ _ _ _ _ _ _ _ _ _ _ _ _ _ _ r h => by simp [corporalaw27_StrategyNests.l2] at h, fun _ _ _ _ _ r h => by simp [corporalaw27_StrategyNests.l3] at h, fun _ _ _ _ _ _ _ _ _ _ _ _ r h => by simp [corporalaw27_StrategyNests.l4] at h, fun _ _ _ _ _ _ _ _ _ _ _ _ r h => by simp [corporalaw27_StrategyNests.l5] at h⟩
  | k + 1 => by
    obtain ⟨ih0, ih1, ih2, ih3, ih4, ih5, ih6⟩ := corporalaw27_StrategyNests.mono_l k
    refine ⟨?_, ?_, ?_, ?_, ?_, ?_, ?_⟩
    · intro y0 y1 y2 y3
      unfold corporalaw27_StrategyNests.j0
      repeat' first
      | (with_reducible exact ih0 _ _ _ _)
      | (with_reducible exact ih1 _ _ _ _ _ _)
      | (with_reducible exact ih2 _ _ _ _ _ _ _ _ _)
      | (with_reducible exact ih3 _ _ _ _ _ _ _ _ _ _ _ _ _ _ _)
      | (with_reducible exact ih4 _ _ _ _ _)
      | (with_reducible exact ih5 _ _ _ _ _ _ _ _ _ _ _ _)
      | (with_reducible exact ih6 _ _ _ _ _ _ _ _ _ _ _ _)
      | (with_reducible exact corporalaw27_known.mono _)
      | (with_reducible exact corporalaw27_list.mono _ _)
      | (with_reducible exact strategy_Choose.mono _ _ _)
      | (with_reducible exact strategy_Spans.mono _ _)
      | (with_reducible exact LeO.refl _)
      | (with_reducible exact LeO.none _)
      | (with_reducible refine LeO.ite ?_ ?_)
      | (with_reducible refine LeO.bind ?_ (fun _ => ?_))
      | exact ih0 _ _ _ _
      | exact ih1 _ _ _ _ _ _
      | exact ih2 _ _ _ _ _ _ _ _ _
      | exact ih3 _ _ _ _ _ _ _ _ _ _ _ _ _ _ _
      | exact ih4 _ _ _ _ _
      | exact ih5 _ _ _ _ _ _ _ _ _ _ _ _
      | exact ih6 _ _ _ _ _ _ _ _ _ _ _ _
      | exact corporalaw27_known.mono _
      | exact corporalaw27_list.mono _ _
      | exact strategy_Choose.mono _ _ _
      | exact strategy_Spans.mono _ _
      | exact LeO.none _
      | refine LeO.ite ?_ ?_
      | refine LeO.bind ?_ (fun _ => ?_)
    · intro y0 y1 y2 y3 y4 y5
      unfold corporalaw27_StrategyNests.l0
      repeat' first
      | (with_reducible exact ih0 _ _ _ _)
      | (with_reducible exact ih1 _ _ _ _ _ _)
      | (with_reducible exact ih2 _ _ _ _ _ _ _ _ _)
      | (with_reducible exact ih3 _ _ _ _ _ _ _ _ _ _ _ _ _ _ _)
      | (with_reducible exact ih4 _ _ _ _ _)
      | (with_reducible exact ih5 _ _ _ _ _ _ _ _ _ _ _ _)
      | (with_reducible exact ih6 _ _ _ _ _ _ _ _ _ _ _ _)
      | (with_reducible exact corporalaw27_known.mono _)
      | (with_reducible exact corporalaw27_list.mono _ _)
      | (with_reducible exact strategy_Choose.mono _ _ _)
      | (with_reducible exact strategy_Spans.mono _ _)
      | (with_reducible exact LeO.refl _)
      | (with_reducible exact LeO.none _)
      | (with_reducible refine LeO.ite ?_ ?_)
      | (with_reducible refine LeO.bind ?_ (fun _ => ?_))
      | exact ih0 _ _ _ _
      | exact ih1 _ _ _ _ _ _
      | exact ih2 _ _ _ _ _ _ _ _ _
      | exact ih3 _ _ _ _ _ _ _ _ _ _ _ _ _ _ _
      | exact ih4 _ _ _ _ _
      | exact ih5 _ _ _ _ _ _ _ _ _ _ _ _
      | exact ih6 _ _ _ _ _ _ _ _ _ _ _ _
      | exact corporalaw27_known.mono _
      | exact corporalaw27_list.mono _ _
      | exact strategy_Choose.mono _ _ _
      | exact strategy_Spans.mono _ _
      | exact LeO.none _
      | refine LeO.ite ?_ ?_
      | refine LeO.bind ?_ (fun _ => ?_)
    · intro y0 y1 y2 y3 y4 y5 y6 y7 y8
      unfold corporalaw27_StrategyNests.l1
      repeat' first
      | (with_reducible exact ih0 _ _ _ _)
      | (with_reducible exact ih1 _ _ _ _ _ _)
      | (with_reducible exact ih2 _ _ _ _ _ _ _ _ _)
      | (with_reducible exact ih3 _ _ _ _ _ _ _ _ _ _ _ _ _ _ _)
      | (with_reducible exact ih4 _ _ _ _ _)
      | (with_reducible exact ih5 _ _ _ _ _ _ _ _ _ _ _ _)
      | (with_reducible exact ih6 _ _ _ _ _ _ _ _ _ _ _ _)
      | (with_reducible exact corporalaw27_known.mono _)
      | (with_reducible exact corporalaw27_list.mono _ _)
      | (with_reducible exact strategy_Choose.mono _ _ _)
      | (with_reducible exact strategy_Spans.mono _ _)
      | (with_reducible exact LeO.refl _)
      | (with_reducible exact LeO.none _)
      | (with_reducible refine LeO.ite ?_ ?_)
      | (with_reducible refine LeO.bind ?_ (fun _ => ?_))
      | exact ih0 _ _ _ _
      | exact ih1 _ _ _ _ _ _
      | exact ih2 _ _ _ _ _ _ _ _ _
      | exact ih3 _ _ _ _ _ _ _ _ _ _ _ _ _ _ _
      | exact ih4 _ _ _ _ _
      | exact ih5 _ _ _ _ _ _ _ _ _ _ _ _
      | exact ih6 _ _ _ _ _ _ _ _ _ _ _ _
      | exact corporalaw27_known.mono _
      | exact corporalaw27_list.mono _ _
      | exact strategy_Choose.mono _ _ _
      | exact strategy_Spans.mono _ _
      | exact LeO.none _
      | refine LeO.ite ?_ ?_
      | refine LeO.bind ?_ (fun _ => ?_)
    · intro y0 y1 y2 y3 y4 y5 y6 y7 y8 y9 y10 y11 y12 y13 y14
      unfold corporalaw27_StrategyNests.l2
      repeat' first
      | (with_reducible exact ih0 _ _ _ _)
      | (with_reducible exact ih1 _ _ _ _ _ _)
      | (with_reducible exact ih2 _ _ _ _ _ _ _ _ _)
      | (with_reducible exact ih3 _ _ _ _ _ _ _ _ _ _ _ _ _ _ _)
      | (with_reducible exact ih4 _ _ _ _ _)
      | (with_reducible exact ih5 _ _ _ _ _ _ _ _ _ _ _ _)
      | (with_reducible exact ih6 _ _ _ _ _ _ _ _ _ _ _ _)
      | (with_reducible exact corporalaw27_known.mono _)
      | (with_reducible exact corporalaw27_list.mono _ _)
      | (with_reducible exact strategy_Choose.mono _ _ _)
      | (with_reducible exact strategy_Spans.mono _ _)
      | (with_reducible exact LeO.refl _)
      | (with_reducible exact LeO.none _)
      | (with_reducible refine LeO.ite ?_ ?_)
      | (with_reducible refine LeO.bind ?_ (fun _ => ?_))
      | exact ih0 _ _ _ _
      | exact ih1 _ _ _ _ _ _
      | exact ih2 _ _ _ _ _ _ _ _ _
      | exact ih3 _ _ _ _ _ _ _ _ _ _ _ _ _ _ _
      | exact ih4 _ _ _ _ _
      | exact ih5 _ _ _ _ _ _ _ _ _ _ _ _
      | exact ih6 _ _ _ _ _ _ _ _ _ _ _ _
      | exact corporalaw27_known.mono _
      | exact corporalaw27_list.mono _ _
      | exact strategy_Choose.mono _ _ _
      | exact strategy_Spans.mono _ _
      | exact LeO.none _
      | refine LeO.ite ?_ ?_
      | refine LeO.bind ?_ (fun _ => ?_)
    · intro y0 y1 y2 y3 y4
      unfold corporalaw27_StrategyNests.l3
      repeat' first
      | (with_reducible exact ih0 _ _ _ _)
      | (with_reducible exact ih1 _ _ _ _ _ _)
      | (with_reducible exact ih2 _ _ _ _ _ _ _ _ _)
      | (with_reducible exact ih3 _ _ _ _ _ _ _ _ _ _ _ _ _ _ _)
      | (with_reducible exact ih4 _ _ _ _ _)
      | (with_reducible exact ih5 _ _ _ _ _ _ _ _ _ _ _ _)
      | (with_reducible exact ih6 _ _ _ _ _ _ _ _ _ _ _ _)
      | (with_reducible exact corporalaw27_known.mono _)
      | (with_reducible exact corporalaw27_list.mono _ _)
      | (with_reducible exact strategy_Choose.mono _ _ _)
      | (with_reducible exact strategy_Spans.mono _ _)
      | (with_reducible exact LeO.refl _)
      | (with_reducible exact LeO.none _)
      | (with_reducible refine LeO.ite ?_ ?_)
      | (with_reducible refine LeO.bind ?_ (fun _ => ?_))
      | exact ih0 _ _ _ _
      | exact ih1 _ _ _ _ _ _
      | exact ih2 _ _ _ _ _ _ _ _ _
      | exact ih3 _ _ _ _ _ _ _ _ _ _ _ _ _ _ _
      | exact ih4 _ _ _ _ _
      | exact ih5 _ _ _ _ _ _ _ _ _ _ _ _
      | exact ih6 _ _ _ _ _ _ _ _ _ _ _ _
      | exact corporalaw27_known.mono _
      | exact corporalaw27_list.mono _ _
      | exact strategy_Choose.mono _ _ _
      | exact strategy_Spans.mono _ _
      | exact LeO.none _
      | refine LeO.ite ?_ ?_
      | refine LeO.bind ?_ (fun _ => ?_)
    · intro y0 y1 y2 y3 y4 y5 y6 y7 y8 y9 y10 y11
      unfold corporalaw27_StrategyNests.l4
      repeat' first
      | (with_reducible exact ih0 _ _ _ _)
      | (with_reducible exact ih1 _ _ _ _ _ _)
      | (with_reducible exact ih2 _ _ _ _ _ _ _ _ _)
      | (with_reducible exact ih3 _ _ _ _ _ _ _ _ _ _ _ _ _ _ _)
      | (with_reducible exact ih4 _ _ _ _ _)
      | (with_reducible exact ih5 _ _ _ _ _ _ _ _ _ _ _ _)
      | (with_reducible exact ih6 _ _ _ _ _ _ _ _ _ _ _ _)
      | (with_reducible exact corporalaw27_known.mono _)
      | (with_reducible exact corporalaw27_list.mono _ _)
      | (with_reducible exact strategy_Choose.mono _ _ _)
      | (with_reducible exact strategy_Spans.mono _ _)
      | (with_reducible exact LeO.refl _)
      | (with_reducible exact LeO.none _)
      | (with_reducible refine LeO.ite ?_ ?_)
      | (with_reducible refine LeO.bind ?_ (fun _ => ?_))
      | exact ih0 _ _ _ _
      | exact ih1 _ _ _ _ _ _
      | exact ih2 _ _ _ _ _ _ _ _ _
      | exact ih3 _ _ _ _ _ _ _ _ _ _ _ _ _ _ _
      | exact ih4 _ _ _ _ _
      | exact ih5 _ _ _ _ _ _ _ _ _ _ _ _
      | exact ih6 _ _ _ _ _ _ _ _ _ _ _ _
      | exact corporalaw27_known.mono _
      | exact corporalaw27_list.mono _ _
      | exact strategy_Choose.mono _ _ _
      | exact strategy_Spans.mono _ _
      | exact LeO.none _
      | refine LeO.ite ?_ ?_
      | refine LeO.bind ?_ (fun _ => ?_)
    · intro y0 y1 y2 y3 y4 y5 y6 y7 y8 y9 y10 y11
      unfold corporalaw27_StrategyNests.l5
      repeat' first
      | (with_reducible exact ih0 _ _ _ _)
      | (with_reducible exact ih1 _ _ _ _ _ _)
      | (with_reducible exact ih2 _ _ _ _ _ _ _ _ _)
      | (with_reducible exact ih3 _ _ _ _ _ _ _ _ _ _ _ _ _ _ _)
      | (with_reducible exact ih4 _ _ _ _ _)
      | (with_reducible exact ih5 _ _ _ _ _ _ _ _ _ _ _ _)
      | (with_reducible exact ih6 _ _ _ _ _ _ _ _ _ _ _ _)
      | (with_reducible exact corporalaw27_known.mono _)
      | (with_reducible exact corporalaw27_list.mono _ _)
      | (with_reducible exact strategy_Choose.mono _ _ _)
      | (with_reducible exact strategy_Spans.mono _ _)
      | (with_reducible exact LeO.refl _)
      | (with_reducible exact LeO.none _)
      | (with_reducible refine LeO.ite ?_ ?_)
      | (with_reducible refine LeO.bind ?_ (fun _ => ?_))
      | exact ih0 _ _ _ _
      | exact ih1 _ _ _ _ _ _
      | exact ih2 _ _ _ _ _ _ _ _ _
      | exact ih3 _ _ _ _ _ _ _ _ _ _ _ _ _ _ _
      | exact ih4 _ _ _ _ _
      | exact ih5 _ _ _ _ _ _ _ _ _ _ _ _
      | exact ih6 _ _ _ _ _ _ _ _ _ _ _ _
      | exact corporalaw27_known.mono _
      | exact corporalaw27_list.mono _ _
      | exact strategy_Choose.mono _ _ _
      | exact strategy_Spans.mono _ _
      | exact LeO.none _
      | refine LeO.ite ?_ ?_
      | refine LeO.bind ?_ (fun _ => ?_)
theorem corporalaw27_StrategyNests.mono : ∀ a0 k, LeO (corporalaw27_StrategyNests.f k a0) (corporalaw27_StrategyNests.f (k + 1) a0) := by
  intro a0 k
  obtain ⟨ih0, ih1, ih2, ih3, ih4, ih5, ih6⟩ := corporalaw27_StrategyNests.mono_l k
  unfold corporalaw27_StrategyNests.f
  repeat' first
      | (with_reducible exact ih0 _ _ _ _)
      | (with_reducible exact ih1 _ _ _ _ _ _)
      | (with_reducible exact ih2 _ _ _ _ _ _ _ _ _)
      | (with_reducible exact ih3 _ _ _ _ _ _ _ _ _ _ _ _ _ _ _)
      | (with_reducible exact ih4 _ _ _ _ _)
      | (with_reducible exact ih5 _ _ _ _ _ _ _ _ _ _ _ _)
      | (with_reducible exact ih6 _ _ _ _ _ _ _ _ _ _ _ _)
      | (with_reducible exact corporalaw27_known.mono _)
      | (with_reducible exact corporalaw27_list.mono _ _)
      | (with_reducible exact strategy_Choose.mono _ _ _)
      | (with_reducible exact strategy_Spans.mono _ _)
      | (with_reducible exact LeO.refl _)
      | (with_reducible exact LeO.none _)
      | (with_reducible refine LeO.ite ?_ ?_)
      | (with_reducible refine LeO.bind ?_ (fun _ => ?_))
      | exact ih0 _ _ _ _
      | exact ih1 _ _ _ _ _ _
      | exact ih2 _ _ _ _ _ _ _ _ _
      | exact ih3 _ _ _ _ _ _ _ _ _ _ _ _ _ _ _
      | exact ih4 _ _ _ _ _
      | exact ih5 _ _ _ _ _ _ _ _ _ _ _ _
      | exact ih6 _ _ _ _ _ _ _ _ _ _ _ _
      | exact corporalaw27_known.mono _
      | exact corporalaw27_list.mono _ _
      | exact strategy_Choose.mono _ _ _
      | exact strategy_Spans.mono _ _
      | exact LeO.none _
      | refine LeO.ite ?_ ?_
      | refine LeO.bind ?_ (fun _ => ?_)
set_option maxHeartbeats 8000000 in
set_option maxRecDepth 100000 in
theorem corporalaw27_StrategyNests.calls (k : Nat) (A0 : Option Addr) (c0 : Nat) (l0 : List Int) (r : Bool) (w : World) (hr0 : Kd.C (Kd.int .i64) w A0 l0.length l0) (hc0 : l0.length ≤ c0) (h : corporalaw27_StrategyNests.f k l0 = some r) :
    Calls Try.prog 7 #[.slice A0 l0.length c0] w fun e w' => e = .returned (.bool r) ∧ Below w.heap.size w w' := by
  have hu40 := Try.underlying40
  have hu38 := Try.underlying38
  have HR0 := Aside0.mk hr0
  have HC0 := Aside0.mk hc0
  clear hr0 hc0
  have HB := Aside0.mk (Below.refl w.heap.size w)
  have H : ((corporalaw27_list.f k l0).bind fun t403 => ((strategy_Choose.f k 1 t403).bind fun bt406 => ((strategy_Choose.f k 2 t403).bind fun bt410 => (if bt406.2 = 0 then (corporalaw27_StrategyNests.j0 k t403 bt406.1 bt410.1 (bt410.2 != 0)) else (corporalaw27_StrategyNests.j0 k t403 bt406.1 bt410.1 true))))) = some r := h
  clear h
  replace H := Option.bind_eq_some_iff.mp H
  obtain ⟨t403, A20, H⟩ := H
  replace H : ((strategy_Choose.f k 1 t403).bind fun bt406 => ((strategy_Choose.f k 2 t403).bind fun bt410 => (if bt406.2 = 0 then (corporalaw27_StrategyNests.j0 k t403 bt406.1 bt410.1 (bt410.2 != 0)) else (corporalaw27_StrategyNests.j0 k t403 bt406.1 bt410.1 true)))) = some r := H
  have A2 := Aside0.mk A20
  clear A20
  replace H := Option.bind_eq_some_iff.mp H
  obtain ⟨⟨t406, t407⟩, A30, H⟩ := H
  replace H : ((strategy_Choose.f k 2 t403).bind fun bt410 => (if t407 = 0 then (corporalaw27_StrategyNests.j0 k t403 t406 bt410.1 (bt410.2 != 0)) else (corporalaw27_StrategyNests.j0 k t403 t406 bt410.1 true))) = some r := H
  have A3 := Aside0.mk A30
  clear A30
  replace H := Option.bind_eq_some_iff.mp H
  obtain ⟨⟨t410, t411⟩, A40, H⟩ := H
  replace H : (if t407 = 0 then (corporalaw27_StrategyNests.j0 k t403 t406 t410 (t411 != 0)) else (corporalaw27_StrategyNests.j0 k t403 t406 t410 true)) = some r := H
  have A4 := Aside0.mk A40
  clear A40
  have HC5 := Aside0.mk H
  clear H
  go_enter Try.func7, Try.ntmps7
  go_upto_region 4 with (first | ((with_reducible refine gate_callee (f := 10) rfl ?_); refine goesL_ (some 26) rfl rfl Try.func10 (by kernel_rfl) rfl #[.slice A0 l0.length c0] rfl (by (try simp only [List.map_toArray, List.map_cons, List.map_nil]); first | done | rfl | (simp only [List.length_drop, List.length_take]; rfl)) ?_; (with_reducible refine (corporalaw27_list.calls k _ _ l0 t403 _ ?side1 ?side2 A2.out).mono ?_); (case side1 => repeat (first | exact HR0.out | (with_reducible refine Kd.C_alloc ?_ _) | (with_reducible refine Kd.C_drewN ?_ _) | (with_reducible refine Kd.C_drew ?_))); (case side2 => exact HC0.out); rintro e w6 ⟨v404, rfl, ho0, hb⟩; refine ⟨_, rfl, ?_⟩; have n0_ := Aside0.mk (Kd.N_lower (Kd.N_mono (ok' := fun k_ => True) ho0 (fun k_ hk_ => trivial)) (below_size (by repeat (first | (with_reducible first | exact HB.out | apply below_alloc | apply pw_below_drewN | apply below_drew1) | exact HB.out)))); have n1_ := Aside0.mk (below_step (by repeat (first | (with_reducible first | exact HB.out | apply below_alloc | apply pw_below_drewN | apply below_drew1) | exact HB.out)) hb); clear HB; have HO405 := n0_; have HB := n1_; clear n0_ n1_; (try clear hb); (try clear hb2); (try clear hk); (try clear hi); (try clear ho0); obtain ⟨Ao7, co7, eo7⟩ := Kd.N_slice HO405.out; subst eo7) | ((with_reducible refine gate_callee (f := 12) rfl ?_); refine goesL_ (some 29) rfl rfl Try.func12 (by kernel_rfl) rfl #[.int .i64 1, .slice Ao7 t403.length co7] rfl (by (try simp only [List.map_toArray, List.map_cons, List.map_nil]); first | done | rfl | (simp only [List.length_drop, List.length_take]; rfl)) ?_; (with_reducible refine (strategy_Choose.calls k 1 _ _ t403 t406 t407 _ ?side1 ?side2 A3.out).mono ?_); (case side1 => repeat (first | exact (Kd.N_reads' HO405.out).2.2 | (with_reducible refine Kd.C_alloc ?_ _) | (with_reducible refine Kd.C_drewN ?_ _) | (with_reducible refine Kd.C_drew ?_))); (case side2 => exact (Kd.N_reads' HO405.out).2.1); rintro e w8 ⟨v408, rfl, ho0, hb⟩; refine ⟨_, rfl, ?_⟩; have n0_ := Aside0.mk (Kd.N_elder' (by (with_reducible repeat (first | apply Kd.N_alloc | apply Kd.N_drewN | apply Kd.N_drew)); exact HO405.out) (Kd.N_base (Kd.S_N ho0)) hb); have n1_ := Aside0.mk (Kd.N_lower (Kd.N_mono (ok' := fun k_ => some k_ ≠ (.slice Ao7 t403.length co7 : Value).ownBlock) (Kd.S_N (Kd.S_bound ho0)) (fun k_ hk_ => (Kd.fresh' (Kd.N_lt (by (with_reducible repeat (first | apply Kd.N_alloc | apply Kd.N_drewN | apply Kd.N_drew)); exact HO405.out)) k_ hk_.2.1))) (below_size (by repeat (first | (with_reducible first | exact HB.out | apply below_alloc | apply pw_below_drewN | apply below_drew1) | exact HB.out)))); have n2_ := Aside0.mk (below_step (by repeat (first | (with_reducible first | exact HB.out | apply below_alloc | apply pw_below_drewN | apply below_drew1) | exact HB.out)) hb); clear HO405; clear HB; have HO405 := n0_; have HO409 := n1_; have HB := n2_; clear n0_ n1_ n2_; (try clear hb); (try clear hb2); (try clear hk); (try clear hi); (try clear ho0)) | ((with_reducible refine gate_callee (f := 12) rfl ?_); refine goesL_ (some 34) rfl rfl Try.func12 (by kernel_rfl) rfl #[.int .i64 2, .slice Ao7 t403.length co7] rfl (by (try simp only [List.map_toArray, List.map_cons, List.map_nil]); first | done | rfl | (simp only [List.length_drop, List.length_take]; rfl)) ?_; (with_reducible refine (strategy_Choose.calls k 2 _ _ t403 t410 t411 _ ?side1 ?side2 A4.out).mono ?_); (case side1 => repeat (first | exact (Kd.N_reads' HO405.out).2.2 | (with_reducible refine Kd.C_alloc ?_ _) | (with_reducible refine Kd.C_drewN ?_ _) | (with_reducible refine Kd.C_drew ?_))); (case side2 => exact (Kd.N_reads' HO405.out).2.1); rintro e w9 ⟨v412, rfl, ho0, hb⟩; refine ⟨_, rfl, ?_⟩; have n0_ := Aside0.mk (Kd.N_elder' (by (with_reducible repeat (first | apply Kd.N_alloc | apply Kd.N_drewN | apply Kd.N_drew)); exact HO405.out) (Kd.N_base (Kd.S_N ho0)) hb); have n1_ := Aside0.mk (Kd.N_elder' (by (with_reducible repeat (first | apply Kd.N_alloc | apply Kd.N_drewN | apply Kd.N_drew)); exact HO409.out) (Kd.N_base (Kd.S_N ho0)) hb); have n2_ := Aside0.mk (Kd.N_lower (Kd.N_mono (ok' := fun k_ => some k_ ≠ (.slice Ao7 t403.length co7 : Value).ownBlock ∧ some k_ ≠ (v408 : Value).ownBlock) (Kd.S_N (Kd.S_bound ho0)) (fun k_ hk_ => ⟨(Kd.fresh' (Kd.N_lt (by (with_reducible repeat (first | apply Kd.N_alloc | apply Kd.N_drewN | apply Kd.N_drew)); exact HO405.out)) k_ hk_.2.1), (Kd.fresh' (Kd.N_lt (by (with_reducible repeat (first | apply Kd.N_alloc | apply Kd.N_drewN | apply Kd.N_drew)); exact HO409.out)) k_ hk_.2.1)⟩)) (below_size (by repeat (first | (with_reducible first | exact HB.out | apply below_alloc | apply pw_below_drewN | apply below_drew1) | exact HB.out)))); have n3_ := Aside0.mk (below_step (by repeat (first | (with_reducible first | exact HB.out | apply below_alloc | apply pw_below_drewN | apply below_drew1) | exact HB.out)) hb); clear HO405; clear HO409; clear HB; have HO405 := n0_; have HO409 := n1_; have HO413 := n2_; have HB := n3_; clear n0_ n1_ n2_ n3_; (try clear hb); (try clear hb2); (try clear hk); (try clear hi); (try clear ho0)))
  (try simp only [Act.put, List.setIfInBounds_toArray, List.set_cons_zero, List.set_cons_succ])
  go_cut [42] (fun v42 wc => ∃ (kq : Nat) (x42_4 : Bool), v42 = .bool x42_4 ∧ Aside0 (corporalaw27_StrategyNests.j0 kq t403 t406 t410 x42_4 = some r) ∧ Aside0 (kq ≤ k) ∧ Aside0 (Kd.N k38 38 wc w.heap.size (fun k_ => some k_ ≠ (v408 : Value).ownBlock ∧ some k_ ≠ (v412 : Value).ownBlock) (.slice Ao7 t403.length co7) t403) ∧ Aside0 (Kd.N k38 38 wc w.heap.size (fun k_ => some k_ ≠ ((.slice Ao7 t403.length co7) : Value).ownBlock ∧ some k_ ≠ (v412 : Value).ownBlock) v408 t406) ∧ Aside0 (Kd.N k38 38 wc w.heap.size (fun k_ => some k_ ≠ ((.slice Ao7 t403.length co7) : Value).ownBlock ∧ some k_ ≠ (v408 : Value).ownBlock) v412 t410) ∧ Aside0 (Below w.heap.size w wc))
  case first =>
    have H := HC5.out
    clear HC5
    by_cases c10 : t407 = 0
    · rw [if_pos c10] at H
      have c10b0 : (t407 == 0) = true := beq_iff_eq.mpr c10
      have c10b1 : (t407 != 0) = false := bne_eq_false_iff_eq.mpr c10
      clear c10
      (first | rw [c10b0] | (simp only [i64_w, i32_w]; rw [c10b0]) | skip)
      have H' := Aside0.mk H
      clear H
      go_wp2
      go_meet
      case rel => exact ⟨_, ((t411 != 0)), (by first | rfl | (simp; done) | (simp [*]; done)), H', ⟨by first | omega | exact Nat.le_refl _⟩, ⟨by (with_reducible repeat (first | apply Kd.N_alloc | apply Kd.N_drewN | apply Kd.N_drew)); exact Kd.N_mono HO405.out (fun _ hk => ⟨hk.1.2, hk.2⟩)⟩, ⟨by (with_reducible repeat (first | apply Kd.N_alloc | apply Kd.N_drewN | apply Kd.N_drew)); exact HO409.out⟩, ⟨by (with_reducible repeat (first | apply Kd.N_alloc | apply Kd.N_drewN | apply Kd.N_drew)); exact HO413.out⟩, ⟨by repeat (first | (with_reducible first | exact HB.out | apply below_alloc | apply pw_below_drewN | apply below_drew1) | exact HB.out)⟩⟩
    · rw [if_neg c10] at H
      have c10b0 : (t407 == 0) = false := beq_eq_false_iff_ne.mpr c10
      have c10b1 : (t407 != 0) = true := bne_iff_ne.mpr c10
      (first | rw [c10b0] | (simp only [i64_w, i32_w]; rw [c10b0]) | skip)
      have H' := Aside0.mk H
      clear H
      go_wp2
      go_meet
      case rel => exact ⟨_, (true), (by first | rfl | (simp; done) | (simp [*]; done)), H', ⟨by first | omega | exact Nat.le_refl _⟩, ⟨by (with_reducible repeat (first | apply Kd.N_alloc | apply Kd.N_drewN | apply Kd.N_drew)); exact Kd.N_mono HO405.out (fun _ hk => ⟨hk.1.2, hk.2⟩)⟩, ⟨by (with_reducible repeat (first | apply Kd.N_alloc | apply Kd.N_drewN | apply Kd.N_drew)); exact HO409.out⟩, ⟨by (with_reducible repeat (first | apply Kd.N_alloc | apply Kd.N_drewN | apply Kd.N_drew)); exact HO413.out⟩, ⟨by repeat (first | (with_reducible first | exact HB.out | apply below_alloc | apply pw_below_drewN | apply below_drew1) | exact HB.out)⟩⟩
  case rest =>
    clear HC5
    try clear c1
    try clear p2
    try clear c7
    try clear c10
    try clear c10b0
    try clear c10b1
    obtain ⟨kq, x42_4, rfl, HA, HJ4, HO_3, HO_4, HO_6, HB⟩ := hcut
    cases kq with
    | zero => exact absurd HA.out (by simp [corporalaw27_StrategyNests.j0])
    | succ kj4 =>
      have H := HA.out
      clear HA
      simp only [corporalaw27_StrategyNests.j0] at H
      by_cases c11 : x42_4 = true
      · subst c11
        have H1 : (some false) = some r := by rw [if_pos rfl] at H; exact H
        clear H
        have H := H1
        clear H1
        obtain rfl := Option.some.inj H
        go_wp2
        go_ret
        exact ⟨by first | rfl | (simp [errW_none, errW_some] <;> rfl) | (simp [*, errW_none, errW_some] <;> rfl), by repeat (first | (with_reducible first | exact HB.out | apply below_alloc | apply pw_below_drewN | apply below_drew1) | exact HB.out)⟩
      · replace c11 := Bool.eq_false_iff.mpr c11
        subst c11
        have H1 : ((strategy_Spans.f kj4 t406).bind fun t414 => ((strategy_Spans.f kj4 t410).bind fun t417 => ((some (([0, 1] : List Int) : List Int)).bind fun y420 => (corporalaw27_StrategyNests.l0 kj4 t403 t414 t417 y420 (y420.length : Int) 0)))) = some r := by rw [if_neg (show ¬ (false = true) by decide)] at H; exact H
        clear H
        have H := H1
        clear H1
        replace H := Option.bind_eq_some_iff.mp H
        obtain ⟨t414, A120, H⟩ := H
        replace H : ((strategy_Spans.f kj4 t410).bind fun t417 => ((some (([0, 1] : List Int) : List Int)).bind fun y420 => (corporalaw27_StrategyNests.l0 kj4 t403 t414 t417 y420 (y420.length : Int) 0))) = some r := H
        have A12 := Aside0.mk A120
        clear A120
        replace H := Option.bind_eq_some_iff.mp H
        obtain ⟨t417, A130, H⟩ := H
        replace H : ((some (([0, 1] : List Int) : List Int)).bind fun y420 => (corporalaw27_StrategyNests.l0 kj4 t403 t414 t417 y420 (y420.length : Int) 0)) = some r := H
        have A13 := Aside0.mk A130
        clear A130
        obtain ⟨y420, hy420⟩ : ∃ y_ : List Int, y_ = (([0, 1] : List Int)) := ⟨_, rfl⟩
        replace H : (corporalaw27_StrategyNests.l0 kj4 t403 t414 t417 y420 (y420.length : Int) 0) = some r := by first | (rw [hy420]; with_reducible exact H) | (have H2_ := (Option.bind_some _ _).symm.trans H; rw [hy420]; with_reducible exact H2_) | (have H2_ := (Option.bind_some _ _).symm.trans H; with_reducible exact H2_) | with_reducible exact H | (rw [hy420]; exact H) | exact H
        have Ny420 := Aside0.mk hy420
        clear hy420
        have H' := Aside0.mk H
        clear H
        obtain ⟨Ao14, co14, eo14⟩ := Kd.N_slice HO_4.out
        subst eo14
        go_wp2_with (first | ((with_reducible refine gate_callee (f := 16) rfl ?_); refine goesL_ (some 44) rfl rfl Try.func16 (by kernel_rfl) rfl #[.slice Ao14 t406.length co14] rfl (by (try simp only [List.map_toArray, List.map_cons, List.map_nil]); first | done | rfl | (simp only [List.length_drop, List.length_take]; rfl)) ?_; (with_reducible refine (strategy_Spans.calls kj4 _ _ t406 t414 _ ?side1 ?side2 A12.out).mono ?_); (case side1 => repeat (first | exact (Kd.N_reads' HO_4.out).2.2 | (with_reducible refine Kd.C_alloc ?_ _) | (with_reducible refine Kd.C_drewN ?_ _) | (with_reducible refine Kd.C_drew ?_))); (case side2 => exact (Kd.N_reads' HO_4.out).2.1); rintro e w15 ⟨v415, rfl, ho0, hb⟩; refine ⟨_, rfl, ?_⟩; have n0_ := Aside0.mk (Kd.N_elder' (by (with_reducible repeat (first | apply Kd.N_alloc | apply Kd.N_drewN | apply Kd.N_drew)); exact HO_3.out) (Kd.R_base ho0) hb); have n1_ := Aside0.mk (Kd.N_elder' (by (with_reducible repeat (first | apply Kd.N_alloc | apply Kd.N_drewN | apply Kd.N_drew)); exact HO_4.out) (Kd.R_base ho0) hb); have n2_ := Aside0.mk (Kd.N_elder' (by (with_reducible repeat (first | apply Kd.N_alloc | apply Kd.N_drewN | apply Kd.N_drew)); exact HO_6.out) (Kd.R_base ho0) hb); have n3_ := Aside0.mk (Kd.R_lower ho0 (below_size (by repeat (first | (with_reducible first | exact HB.out | apply below_alloc | apply pw_below_drewN | apply below_drew1) | exact HB.out)))); have n4_ := Aside0.mk (below_step (by repeat (first | (with_reducible first | exact HB.out | apply below_alloc | apply pw_below_drewN | apply below_drew1) | exact HB.out)) hb); clear HO_3; clear HO_4; clear HO_6; clear HB; have HO_3 := n0_; have HO_4 := n1_; have HO_6 := n2_; have HO416 := n3_; have HB := n4_; clear n0_ n1_ n2_ n3_ n4_; (try clear hb); (try clear hb2); (try clear hk); (try clear hi); (try clear ho0); obtain ⟨Ao16, co16, eo16⟩ := Kd.N_slice HO_6.out; subst eo16) | ((with_reducible refine gate_callee (f := 16) rfl ?_); refine goesL_ (some 46) rfl rfl Try.func16 (by kernel_rfl) rfl #[.slice Ao16 t410.length co16] rfl (by (try simp only [List.map_toArray, List.map_cons, List.map_nil]); first | done | rfl | (simp only [List.length_drop, List.length_take]; rfl)) ?_; (with_reducible refine (strategy_Spans.calls kj4 _ _ t410 t417 _ ?side1 ?side2 A13.out).mono ?_); (case side1 => repeat (first | exact (Kd.N_reads' HO_6.out).2.2 | (with_reducible refine Kd.C_alloc ?_ _) | (with_reducible refine Kd.C_drewN ?_ _) | (with_reducible refine Kd.C_drew ?_))); (case side2 => exact (Kd.N_reads' HO_6.out).2.1); rintro e w17 ⟨v418, rfl, ho0, hb⟩; refine ⟨_, rfl, ?_⟩; have n0_ := Aside0.mk (Kd.N_elder' (by (with_reducible repeat (first | apply Kd.N_alloc | apply Kd.N_drewN | apply Kd.N_drew)); exact HO_3.out) (Kd.R_base ho0) hb); have n1_ := Aside0.mk (Kd.N_elder' (by (with_reducible repeat (first | apply Kd.N_alloc | apply Kd.N_drewN | apply Kd.N_drew)); exact HO_4.out) (Kd.R_base ho0) hb); have n2_ := Aside0.mk (Kd.N_elder' (by (with_reducible repeat (first | apply Kd.N_alloc | apply Kd.N_drewN | apply Kd.N_drew)); exact HO_6.out) (Kd.R_base ho0) hb); have n3_ := Aside0.mk (Kd.R_elder' (by (with_reducible repeat (first | apply Kd.R_alloc | apply Kd.R_drewN | apply Kd.R_drew)); exact HO416.out) (Kd.R_base ho0) hb); have n4_ := Aside0.mk (Kd.R_lower (Kd.R_new' ho0 (Kd.R_lt (by (with_reducible repeat (first | apply Kd.R_alloc | apply Kd.R_drewN | apply Kd.R_drew)); exact HO416.out))) (below_size (by repeat (first | (with_reducible first | exact HB.out | apply below_alloc | apply pw_below_drewN | apply below_drew1) | exact HB.out)))); have n5_ := Aside0.mk (below_step (by repeat (first | (with_reducible first | exact HB.out | apply below_alloc | apply pw_below_drewN | apply below_drew1) | exact HB.out)) hb); clear HO_3; clear HO_4; clear HO_6; clear HO416; clear HB; have HO_3 := n0_; have HO_4 := n1_; have HO_6 := n2_; have HO416 := n3_; have HO419 := n4_; have HB := n5_; clear n0_ n1_ n2_ n3_ n4_ n5_; (try clear hb); (try clear hb2); (try clear hk); (try clear hi); (try clear ho0); obtain ⟨Ao24, co24, eo24⟩ := Kd.R_slice HO416.out; subst eo24; obtain ⟨Ao25, co25, eo25⟩ := Kd.R_slice HO419.out; subst eo25) | ((with_reducible refine gate_dst (N := 49) rfl ?_); refine Kd.R_lit (kPQ Ao24 t414.length co24 Ao25 t417.length co25) _ 31 ?hg (N := 49) ?hd (xs := ([0, 1] : List Int)) (inner := [.slice Ao24 t414.length co24, .slice Ao25 t417.length co25]) (ok := fun _ => True) (okp := fun _ => True) ?hr ?hp (fun _ hk => hk) trivial (Below.refl _ _) (Nat.le_refl _) (by simp) ?_; (case hd => rfl); (case hg => rfl); (case hr => first | (go_simp; done) | (go_simp; rfl)); (case hp => exact (Reps.one (kPQ_0 _ _ _ _ _ _ _ _ _) (Reps.one (kPQ_1 _ _ _ _ _ _ _ _ _) (Reps.none _ _)))); intro v421 w18 ho19 hb hg_ hnew_; clear hg_ hnew_; (first | rw [← Ny420.out] at ho19 | skip); have n0_ := Aside0.mk (Kd.N_elder' (by (with_reducible repeat (first | apply Kd.N_alloc | apply Kd.N_drewN | apply Kd.N_drew)); exact HO_3.out) (Kd.R_base ho19) hb); have n1_ := Aside0.mk (Kd.N_elder' (by (with_reducible repeat (first | apply Kd.N_alloc | apply Kd.N_drewN | apply Kd.N_drew)); exact HO_4.out) (Kd.R_base ho19) hb); have n2_ := Aside0.mk (Kd.N_elder' (by (with_reducible repeat (first | apply Kd.N_alloc | apply Kd.N_drewN | apply Kd.N_drew)); exact HO_6.out) (Kd.R_base ho19) hb); have n3_ := Aside0.mk (Kd.R_below (by (with_reducible repeat (first | apply Kd.R_alloc | apply Kd.R_drewN | apply Kd.R_drew)); exact HO416.out) hb); have n4_ := Aside0.mk (Kd.R_below (by (with_reducible repeat (first | apply Kd.R_alloc | apply Kd.R_drewN | apply Kd.R_drew)); exact HO419.out) hb); have n5_ := Aside0.mk (Kd.R_lower ho19 (below_size (by repeat (first | (with_reducible first | exact HB.out | apply below_alloc | apply pw_below_drewN | apply below_drew1) | exact HB.out)))); have n6_ := Aside0.mk (below_step (by repeat (first | (with_reducible first | exact HB.out | apply below_alloc | apply pw_below_drewN | apply below_drew1) | exact HB.out)) hb); clear HO_3; clear HO_4; clear HO_6; clear HO416; clear HO419; clear HB; have HO_3 := n0_; have HO_4 := n1_; have HO_6 := n2_; have HO416 := n3_; have HO419 := n4_; have HO422 := n5_; have HB := n6_; clear n0_ n1_ n2_ n3_ n4_ n5_ n6_; clear hb ho19; obtain ⟨Ao20, co20, eo20⟩ := Kd.R_slice HO422.out; subst eo20))
        go_loopg [51] kj4 (fun kq v51 w' => ∃ (x51_2 : Int), v51 = .int .i64 x51_2 ∧ Aside0 (corporalaw27_StrategyNests.l0 kq t403 t414 t417 y420 (y420.length : Int) x51_2 = some r) ∧ Aside0 (kq ≤ kj4) ∧ Aside0 (Kd.N k38 38 w' w.heap.size (fun k_ => some k_ ≠ (.slice Ao24 t414.length co24 : Value).ownBlock ∧ some k_ ≠ ((.slice Ao25 t417.length co25) : Value).ownBlock ∧ some k_ ≠ ((.slice Ao20 y420.length co20) : Value).ownBlock) (.slice Ao7 t403.length co7) t403) ∧ Aside0 (Kd.R k40 40 w' w.heap.size (fun k_ => some k_ ≠ ((.slice Ao25 t417.length co25) : Value).ownBlock) (.slice Ao24 t414.length co24) t414) ∧ Aside0 (Kd.R k40 40 w' w.heap.size (fun k_ => some k_ ≠ (.slice Ao24 t414.length co24 : Value).ownBlock) (.slice Ao25 t417.length co25) t417) ∧ Aside0 (Kd.R (kPQ Ao24 t414.length co24 Ao25 t417.length co25) 31 w' w.heap.size (fun _ => True) (.slice Ao20 y420.length co20) y420) ∧ Aside0 (Below w.heap.size w w'))
        case atStart => exact ⟨(0), (by first | rfl | (simp; done) | (simp [*]; done)), H', ⟨Nat.le_refl _⟩, ⟨by (with_reducible repeat (first | apply Kd.N_alloc | apply Kd.N_drewN | apply Kd.N_drew)); exact Kd.N_mono HO_3.out (fun _ hk => ⟨hk.1.1.2, ⟨hk.1.2, hk.2⟩⟩)⟩, ⟨by (with_reducible repeat (first | apply Kd.R_alloc | apply Kd.R_drewN | apply Kd.R_drew)); exact Kd.R_mono HO416.out (fun _ hk => hk.2)⟩, ⟨by (with_reducible repeat (first | apply Kd.R_alloc | apply Kd.R_drewN | apply Kd.R_drew)); exact Kd.R_mono HO419.out (fun _ hk => hk.2)⟩, ⟨by (with_reducible repeat (first | apply Kd.R_alloc | apply Kd.R_drewN | apply Kd.R_drew)); exact HO422.out⟩, ⟨by repeat (first | (with_reducible first | exact HB.out | apply below_alloc | apply pw_below_drewN | apply below_drew1) | exact HB.out)⟩⟩
        case round =>
          clear H'
          try clear c1
          try clear p2
          try clear c7
          try clear c10
          try clear c10b0
          try clear c10b1
          try clear c11
          try clear c12
          try clear c16
          try clear p2
          obtain ⟨x51_2, rfl, HA, HK2, HO_3, HO_8, HO_9, HO_49, HB⟩ := hrel
          cases gk with
          | zero => exact absurd HA.out (by simp [corporalaw27_StrategyNests.l0])
          | succ k2 =>
            have H := HA.out
            clear HA
            simp only [corporalaw27_StrategyNests.l0] at H
            by_cases c21 : x51_2 < (y420.length : Int)
            · rw [if_pos c21] at H
              have c21b0 : decide (x51_2 < (y420.length : Int)) = true := decide_eq_true c21
              clear c21
              by_cases c22 : 0 ≤ x51_2
              · rw [if_pos c22] at H
                have c22b0 : decide (0 ≤ x51_2) = true := decide_eq_true c22
                clear c22
                by_cases c23 : x51_2 < (y420.length : Int)
                · rw [if_pos c23] at H
                  have c23b0 : decide (x51_2 < (y420.length : Int)) = true := decide_eq_true c23
                  clear c23
                  by_cases cpq : rd y420 x51_2 = 0
                  · rw [if_pos cpq] at H
                    have H' := Aside0.mk H
                    clear H
                    have p423 : 0 ≤ (x51_2 : Int) := of_decide_eq_true (by first | (with_reducible assumption) | assumption)
                    have q423 : x51_2 < (y420.length : Int) := of_decide_eq_true (by first | (with_reducible assumption) | assumption)
                    obtain ⟨ad423, e423, hx423_0⟩ := at_PQ (Kd.R_reads' HO_49.out).2.2 x51_2 p423 q423
                    replace hx423_0 := hx423_0.trans (congrArg some (show encPQ Ao24 t414.length co24 Ao25 t417.length co25 (rd y420 x51_2) = .slice Ao24 t414.length co24 from if_pos cpq))
                    cases e423
                    replace p423 := eq_true p423
                    replace q423 := eq_true q423
                    go_wp2
                    go_loopg [57] k2 (fun kq v57 w' => ∃ (x57_3 : Int), v57 = .int .i64 x57_3 ∧ Aside0 (corporalaw27_StrategyNests.l1 kq t403 t414 t417 y420 (y420.length : Int) x51_2 t414 (t414.length : Int) x57_3 = some r) ∧ Aside0 (kq ≤ k2) ∧ Aside0 (Kd.N k38 38 w' w.heap.size (fun k_ => some k_ ≠ (.slice Ao24 t414.length co24 : Value).ownBlock ∧ some k_ ≠ ((.slice Ao25 t417.length co25) : Value).ownBlock ∧ some k_ ≠ ((.slice (some ad423) y420.length co20) : Value).ownBlock ∧ some k_ ≠ (.slice Ao24 t414.length co24 : Value).ownBlock) (.slice Ao7 t403.length co7) t403) ∧ Aside0 (Kd.R k40 40 w' w.heap.size (fun k_ => some k_ ≠ ((.slice Ao25 t417.length co25) : Value).ownBlock) (.slice Ao24 t414.length co24) t414) ∧ Aside0 (Kd.R k40 40 w' w.heap.size (fun k_ => some k_ ≠ (.slice Ao24 t414.length co24 : Value).ownBlock ∧ some k_ ≠ (.slice Ao24 t414.length co24 : Value).ownBlock) (.slice Ao25 t417.length co25) t417) ∧ Aside0 (Kd.R (kPQ Ao24 t414.length co24 Ao25 t417.length co25) 31 w' w.heap.size (fun _ => True) (.slice (some ad423) y420.length co20) y420) ∧ Aside0 (Kd.R k40 40 w' w.heap.size (fun k_ => some k_ ≠ ((.slice Ao25 t417.length co25) : Value).ownBlock) (.slice Ao24 t414.length co24) t414) ∧ Aside0 (Below w.heap.size w w'))
                    case atStart => exact ⟨(0), (by first | rfl | (simp; done) | (simp [*]; done)), H', ⟨Nat.le_refl _⟩, ⟨by (with_reducible repeat (first | apply Kd.N_alloc | apply Kd.N_drewN | apply Kd.N_drew)); exact Kd.N_mono HO_3.out (fun _ hk => ⟨hk.1, ⟨hk.2.1, ⟨hk.2.2, hk.1⟩⟩⟩)⟩, ⟨by (with_reducible repeat (first | apply Kd.R_alloc | apply Kd.R_drewN | apply Kd.R_drew)); exact HO_8.out⟩, ⟨by (with_reducible repeat (first | apply Kd.R_alloc | apply Kd.R_drewN | apply Kd.R_drew)); exact Kd.R_mono HO_9.out (fun _ hk => ⟨hk, hk⟩)⟩, ⟨by (with_reducible repeat (first | apply Kd.R_alloc | apply Kd.R_drewN | apply Kd.R_drew)); exact HO_49.out⟩, ⟨by (with_reducible repeat (first | apply Kd.R_alloc | apply Kd.R_drewN | apply Kd.R_drew)); exact HO_8.out⟩, ⟨by repeat (first | (with_reducible first | exact HB.out | apply below_alloc | apply pw_below_drewN | apply below_drew1) | exact HB.out)⟩⟩
                    case round =>
                      clear H'
                      try clear c1
                      try clear c2
                      try clear p2
                      try clear p4
                      try clear q4
                      try clear hx4
                      try clear c7
                      try clear c10
                      try clear c10b0
                      try clear c10b1
                      try clear c11
                      try clear c12
                      try clear c16
                      try clear c21
                      try clear c21b0
                      try clear c22
                      try clear c22b0
                      try clear c23
                      try clear c23b0
                      try clear hx423_0
                      try clear p2
                      try clear p423
                      try clear q423
                      obtain ⟨x57_3, rfl, HA, HK3, HO_3, HO_8, HO_9, HO_49, HO_55, HB⟩ := hrel
                      cases gk with
                      | zero => exact absurd HA.out (by simp [corporalaw27_StrategyNests.l1])
                      | succ k3 =>
                        have H := HA.out
                        clear HA
                        simp only [corporalaw27_StrategyNests.l1] at H
                        by_cases c25 : x57_3 < (t414.length : Int)
                        · rw [if_pos c25] at H
                          have c25b0 : decide (x57_3 < (t414.length : Int)) = true := decide_eq_true c25
                          clear c25
                          by_cases c26 : 0 ≤ x57_3
                          · rw [if_pos c26] at H
                            have c26b0 : decide (0 ≤ x57_3) = true := decide_eq_true c26
                            clear c26
                            by_cases c27 : x57_3 < (t414.length : Int)
                            · rw [if_pos c27] at H
                              have c27b0 : decide (x57_3 < (t414.length : Int)) = true := decide_eq_true c27
                              clear c27
                              have H' := Aside0.mk H
                              clear H
                              have p424 : 0 ≤ (x57_3 : Int) := of_decide_eq_true (by first | (with_reducible assumption) | assumption)
                              have q424 : x57_3 < (t414.length : Int) := of_decide_eq_true (by first | (with_reducible assumption) | assumption)
                              obtain ⟨ad424, e424, hx424_0, hx424_1⟩ := at_T40 (Kd.R_reads' HO_55.out).2.2 x57_3 p424 q424
                              cases e424
                              replace p424 := eq_true p424
                              replace q424 := eq_true q424
                              go_wp2_with (first | ((with_reducible refine gate_dst (N := 13) rfl ?_); refine box_event ?hg (N := 13) ?hd (cs := #[.int .i64 0, .int .i64 0]) (t := 40) ?hr ?_; (case hd => rfl); (case hg => rfl); (case hr => first | (go_simp; done) | (go_simp; rfl)); intro gb425 hg w28 hbox hb; have n0_ := Aside0.mk (Kd.N_below (Kd.N_elderB (by (with_reducible repeat (first | apply Kd.N_alloc | apply Kd.N_drewN | apply Kd.N_drew)); exact HO_3.out) gb425 (Nat.le_of_eq hg.symm)) hb); have n1_ := Aside0.mk (Kd.R_below (Kd.R_elderB (by (with_reducible repeat (first | apply Kd.R_alloc | apply Kd.R_drewN | apply Kd.R_drew)); exact HO_8.out) gb425 (Nat.le_of_eq hg.symm)) hb); have n2_ := Aside0.mk (Kd.R_below (Kd.R_elderB (by (with_reducible repeat (first | apply Kd.R_alloc | apply Kd.R_drewN | apply Kd.R_drew)); exact HO_9.out) gb425 (Nat.le_of_eq hg.symm)) hb); have n3_ := Aside0.mk (Kd.R_below (by (with_reducible repeat (first | apply Kd.R_alloc | apply Kd.R_drewN | apply Kd.R_drew)); exact HO_49.out) hb); have n4_ := Aside0.mk (Kd.R_below (Kd.R_elderB (by (with_reducible repeat (first | apply Kd.R_alloc | apply Kd.R_drewN | apply Kd.R_drew)); exact HO_55.out) gb425 (Nat.le_of_eq hg.symm)) hb); have n5_ := Aside0.mk (below_step (by repeat (first | (with_reducible first | exact HB.out | apply below_alloc | apply pw_below_drewN | apply below_drew1) | exact HB.out)) hb); have n6_ := Aside0.mk (hbox); have n7_ := Aside0.mk ((by rw [hg]; exact (below_size (by repeat (first | (with_reducible first | exact HB.out | apply below_alloc | apply pw_below_drewN | apply below_drew1) | exact HB.out))) : w.heap.size ≤ gb425)); have n8_ := Aside0.mk ((by rw [hg]; exact (below_size (by repeat (first | (with_reducible first | exact HB.out | apply below_alloc | apply pw_below_drewN | apply below_drew1) | exact HB.out))) : w.heap.size ≤ gb425)); clear HO_3; clear HO_8; clear HO_9; clear HO_49; clear HO_55; clear HB; have HO_3 := n0_; have HO_8 := n1_; have HO_9 := n2_; have HO_49 := n3_; have HO_55 := n4_; have HB := n5_; have BK425 := n6_; have GW425 := n7_; have GE425 := n8_; clear n0_ n1_ n2_ n3_ n4_ n5_ n6_ n7_ n8_; clear hb hbox hg; have hcz29_0 : w28.cell? ⟨gb425, 0, none⟩ = some (.int .i64 0) := (blk_cell BK425.out 0).trans rfl; have hcz29_1 : w28.cell? ⟨gb425, 1, none⟩ = some (.int .i64 0) := (blk_cell BK425.out 1).trans rfl; have hfz29_0 := blk_frozen BK425.out 0; have hfz29_1 := blk_frozen BK425.out 1))
                              go_loopg [64] k3 (fun kq v64 w' => ∃ (x64_4 : Int), v64 = .int .i64 x64_4 ∧ Aside0 (corporalaw27_StrategyNests.l2 kq t403 t414 t417 x57_3 y420 (y420.length : Int) x51_2 t414 (t414.length : Int) x57_3 t414 (t414.length : Int) x64_4 ((rd_T40 t414 x57_3).f0) ((rd_T40 t414 x57_3).f1) = some r) ∧ Aside0 (kq ≤ k3) ∧ Aside0 (Kd.N k38 38 w' w.heap.size (fun k_ => some k_ ≠ ((.slice (some ad424) t414.length co24) : Value).ownBlock ∧ some k_ ≠ ((.slice Ao25 t417.length co25) : Value).ownBlock ∧ some k_ ≠ ((.slice (some ad423) y420.length co20) : Value).ownBlock ∧ some k_ ≠ ((.slice (some ad424) t414.length co24) : Value).ownBlock ∧ some k_ ≠ ((.slice (some ad424) t414.length co24) : Value).ownBlock ∧ k_ ≠ gb425) (.slice Ao7 t403.length co7) t403) ∧ Aside0 (Kd.R k40 40 w' w.heap.size (fun k_ => some k_ ≠ ((.slice Ao25 t417.length co25) : Value).ownBlock ∧ k_ ≠ gb425) (.slice (some ad424) t414.length co24) t414) ∧ Aside0 (Kd.R k40 40 w' w.heap.size (fun k_ => some k_ ≠ ((.slice (some ad424) t414.length co24) : Value).ownBlock ∧ some k_ ≠ ((.slice (some ad424) t414.length co24) : Value).ownBlock ∧ some k_ ≠ ((.slice (some ad424) t414.length co24) : Value).ownBlock ∧ k_ ≠ gb425) (.slice Ao25 t417.length co25) t417) ∧ Aside0 (Kd.R (kPQ (some ad424) t414.length co24 Ao25 t417.length co25) 31 w' w.heap.size (fun _ => True) (.slice (some ad423) y420.length co20) y420) ∧ Aside0 (Kd.R k40 40 w' w.heap.size (fun k_ => some k_ ≠ ((.slice Ao25 t417.length co25) : Value).ownBlock ∧ k_ ≠ gb425) (.slice (some ad424) t414.length co24) t414) ∧ Aside0 (Kd.R k40 40 w' w.heap.size (fun k_ => some k_ ≠ ((.slice Ao25 t417.length co25) : Value).ownBlock ∧ k_ ≠ gb425) (.slice (some ad424) t414.length co24) t414) ∧ Aside0 (w'.heap[gb425]? = some (.cells #[.int .i64 ((rd_T40 t414 x57_3).f0), .int .i64 ((rd_T40 t414 x57_3).f1)] 40 (0, 0))) ∧ Aside0 (Below w.heap.size w w'))
                              case atStart => exact ⟨(0), (by first | rfl | (simp; done) | (simp [*]; done)), H', ⟨Nat.le_refl _⟩, ⟨by (with_reducible repeat (first | apply Kd.N_alloc | apply Kd.N_drewN | apply Kd.N_drew)); exact Kd.N_mono (Kd.N_far (p := ⟨gb425, 1, none⟩) (Kd.N_far (p := ⟨gb425, 0, none⟩) (Kd.N_mono HO_3.out (fun k_ hk => (⟨hk, hk.2⟩ : _ ∧ k_ ≠ gb425))) (fun _ hk => hk.2) (.int .i64 ((rd_T40 t414 x57_3).f0))) (fun _ hk => hk.2) (.int .i64 ((rd_T40 t414 x57_3).f1))) (fun _ hk => ⟨hk.1.1.1, ⟨hk.1.1.2.1, ⟨hk.1.1.2.2.1, ⟨hk.1.1.2.2.2, ⟨hk.1.1.1, hk.1.2⟩⟩⟩⟩⟩)⟩, ⟨by (with_reducible repeat (first | apply Kd.R_alloc | apply Kd.R_drewN | apply Kd.R_drew)); exact Kd.R_mono (Kd.R_far (p := ⟨gb425, 1, none⟩) (Kd.R_far (p := ⟨gb425, 0, none⟩) (Kd.R_mono HO_8.out (fun k_ hk => (⟨hk, hk.2⟩ : _ ∧ k_ ≠ gb425))) (fun _ hk => hk.2) (.int .i64 ((rd_T40 t414 x57_3).f0))) (fun _ hk => hk.2) (.int .i64 ((rd_T40 t414 x57_3).f1))) (fun _ hk => ⟨hk.1.1, hk.1.2⟩)⟩, ⟨by (with_reducible repeat (first | apply Kd.R_alloc | apply Kd.R_drewN | apply Kd.R_drew)); exact Kd.R_mono (Kd.R_far (p := ⟨gb425, 1, none⟩) (Kd.R_far (p := ⟨gb425, 0, none⟩) (Kd.R_mono HO_9.out (fun k_ hk => (⟨hk, hk.2⟩ : _ ∧ k_ ≠ gb425))) (fun _ hk => hk.2) (.int .i64 ((rd_T40 t414 x57_3).f0))) (fun _ hk => hk.2) (.int .i64 ((rd_T40 t414 x57_3).f1))) (fun _ hk => ⟨hk.1.1.1, ⟨hk.1.1.2, ⟨hk.1.1.1, hk.1.2⟩⟩⟩)⟩, ⟨by (with_reducible repeat (first | apply Kd.R_alloc | apply Kd.R_drewN | apply Kd.R_drew)); exact Kd.R_mono (Kd.R_far (p := ⟨gb425, 1, none⟩) (Kd.R_far (p := ⟨gb425, 0, none⟩) (Kd.R_types HO_49.out BK425.out kPQ_ne) (fun _ hk => hk.2) (.int .i64 ((rd_T40 t414 x57_3).f0))) (fun _ hk => hk.2) (.int .i64 ((rd_T40 t414 x57_3).f1))) (fun _ hk => trivial)⟩, ⟨by (with_reducible repeat (first | apply Kd.R_alloc | apply Kd.R_drewN | apply Kd.R_drew)); exact Kd.R_mono (Kd.R_far (p := ⟨gb425, 1, none⟩) (Kd.R_far (p := ⟨gb425, 0, none⟩) (Kd.R_mono HO_55.out (fun k_ hk => (⟨hk, hk.2⟩ : _ ∧ k_ ≠ gb425))) (fun _ hk => hk.2) (.int .i64 ((rd_T40 t414 x57_3).f0))) (fun _ hk => hk.2) (.int .i64 ((rd_T40 t414 x57_3).f1))) (fun _ hk => ⟨hk.1.1, hk.1.2⟩)⟩, ⟨by (with_reducible repeat (first | apply Kd.R_alloc | apply Kd.R_drewN | apply Kd.R_drew)); exact Kd.R_mono (Kd.R_far (p := ⟨gb425, 1, none⟩) (Kd.R_far (p := ⟨gb425, 0, none⟩) (Kd.R_mono HO_8.out (fun k_ hk => (⟨hk, hk.2⟩ : _ ∧ k_ ≠ gb425))) (fun _ hk => hk.2) (.int .i64 ((rd_T40 t414 x57_3).f0))) (fun _ hk => hk.2) (.int .i64 ((rd_T40 t414 x57_3).f1))) (fun _ hk => ⟨hk.1.1, hk.1.2⟩)⟩, ⟨by (with_reducible repeat (first | refine blk_drewN ?_ _ | refine blk_drew ?_ | refine blk_alloc ?_ _)); refine blk_put (cs := #[.int .i64 ((rd_T40 t414 x57_3).f0), .int .i64 0]) ?_ 1 _ rfl; (with_reducible repeat (first | refine blk_drewN ?_ _ | refine blk_drew ?_ | refine blk_alloc ?_ _)); refine blk_put (cs := #[.int .i64 0, .int .i64 0]) ?_ 0 _ rfl; (with_reducible repeat (first | refine blk_drewN ?_ _ | refine blk_drew ?_ | refine blk_alloc ?_ _)); exact BK425.out⟩, ⟨by repeat (first | (with_reducible first | exact HB.out | apply below_alloc | apply pw_below_drewN | apply below_drew1 | refine below_set ?_ GE425.out) | exact HB.out)⟩⟩
                              case round =>
                                clear H'
                                try clear c1
                                try clear c2
                                try clear p2
                                try clear p4
                                try clear q4
                                try clear hx4
                                try clear c7
                                try clear c10
                                try clear c10b0
                                try clear c10b1
                                try clear c11
                                try clear c12
                                try clear c16
                                try clear c21
                                try clear c21b0
                                try clear c22
                                try clear c22b0
                                try clear c23
                                try clear c23b0
                                try clear c25
                                try clear c25b0
                                try clear c26
                                try clear c26b0
                                try clear c27
                                try clear c27b0
                                try clear hcz29_0
                                try clear hcz29_1
                                try clear hfz29_0
                                try clear hfz29_1
                                try clear hx423_0
                                try clear hx424_0
                                try clear hx424_1
                                try clear p2
                                try clear p4
                                try clear p423
                                try clear p424
                                try clear q4
                                try clear q423
                                try clear q424
                                obtain ⟨x64_4, rfl, HA, HK4, HO_3, HO_8, HO_9, HO_49, HO_55, HO_62, BK425, HB⟩ := hrel
                                cases gk with
                                | zero => exact absurd HA.out (by simp [corporalaw27_StrategyNests.l2])
                                | succ k4 =>
                                  have H := HA.out
                                  clear HA
                                  simp only [corporalaw27_StrategyNests.l2] at H
                                  by_cases c30 : x64_4 < (t414.length : Int)
                                  · rw [if_pos c30] at H
                                    have c30b0 : decide (x64_4 < (t414.length : Int)) = true := decide_eq_true c30
                                    clear c30
                                    by_cases c31 : 0 ≤ x64_4
                                    · rw [if_pos c31] at H
                                      have c31b0 : decide (0 ≤ x64_4) = true := decide_eq_true c31
                                      clear c31
                                      by_cases c32 : x64_4 < (t414.length : Int)
                                      · rw [if_pos c32] at H
                                        have c32b0 : decide (x64_4 < (t414.length : Int)) = true := decide_eq_true c32
                                        clear c32
                                        by_cases c33 : x57_3 = x64_4
                                        · rw [if_pos c33] at H
                                          have c33b0 : (x57_3 == x64_4) = true := beq_iff_eq.mpr c33
                                          have c33b1 : (x57_3 != x64_4) = false := bne_eq_false_iff_eq.mpr c33
                                          clear c33
                                          have H' := Aside0.mk H
                                          clear H
                                          have p426 : 0 ≤ (x64_4 : Int) := of_decide_eq_true (by first | (with_reducible assumption) | assumption)
                                          have q426 : x64_4 < (t414.length : Int) := of_decide_eq_true (by first | (with_reducible assumption) | assumption)
                                          obtain ⟨ad426, e426, hx426_0, hx426_1⟩ := at_T40 (Kd.R_reads' HO_62.out).2.2 x64_4 p426 q426
                                          obtain rfl : ad424 = ad426 := (by injection e426)
                                          replace p426 := eq_true p426
                                          replace q426 := eq_true q426
                                          go_wp2_with (first | ((with_reducible refine gate_dst (N := 15) rfl ?_); refine box_event ?hg (N := 15) ?hd (cs := #[.int .i64 0, .int .i64 0]) (t := 40) ?hr ?_; (case hd => rfl); (case hg => rfl); (case hr => first | (go_simp; done) | (go_simp; rfl)); intro gb427 hg w34 hbox hb; have n0_ := Aside0.mk (Kd.N_below (Kd.N_elderB (by (with_reducible repeat (first | apply Kd.N_alloc | apply Kd.N_drewN | apply Kd.N_drew)); exact HO_3.out) gb427 (Nat.le_of_eq hg.symm)) hb); have n1_ := Aside0.mk (Kd.R_below (Kd.R_elderB (by (with_reducible repeat (first | apply Kd.R_alloc | apply Kd.R_drewN | apply Kd.R_drew)); exact HO_8.out) gb427 (Nat.le_of_eq hg.symm)) hb); have n2_ := Aside0.mk (Kd.R_below (Kd.R_elderB (by (with_reducible repeat (first | apply Kd.R_alloc | apply Kd.R_drewN | apply Kd.R_drew)); exact HO_9.out) gb427 (Nat.le_of_eq hg.symm)) hb); have n3_ := Aside0.mk (Kd.R_below (by (with_reducible repeat (first | apply Kd.R_alloc | apply Kd.R_drewN | apply Kd.R_drew)); exact HO_49.out) hb); have n4_ := Aside0.mk (Kd.R_below (Kd.R_elderB (by (with_reducible repeat (first | apply Kd.R_alloc | apply Kd.R_drewN | apply Kd.R_drew)); exact HO_55.out) gb427 (Nat.le_of_eq hg.symm)) hb); have n5_ := Aside0.mk (Kd.R_below (Kd.R_elderB (by (with_reducible repeat (first | apply Kd.R_alloc | apply Kd.R_drewN | apply Kd.R_drew)); exact HO_62.out) gb427 (Nat.le_of_eq hg.symm)) hb); have n6_ := Aside0.mk (blk_below (g := gb425) (o := .cells #[.int .i64 ((rd_T40 t414 x57_3).f0), .int .i64 ((rd_T40 t414 x57_3).f1)] 40 (0, 0)) (by (with_reducible repeat (first | refine blk_drewN ?_ _ | refine blk_drew ?_ | refine blk_alloc ?_ _)); exact BK425.out) hb); have n7_ := Aside0.mk (below_step (by repeat (first | (with_reducible first | exact HB.out | apply below_alloc | apply pw_below_drewN | apply below_drew1 | refine below_set ?_ GE425.out) | exact HB.out)) hb); have n8_ := Aside0.mk (hbox); have n9_ := Aside0.mk ((by rw [hg]; exact (below_size (by repeat (first | (with_reducible first | exact HB.out | apply below_alloc | apply pw_below_drewN | apply below_drew1 | refine below_set ?_ GE425.out) | exact HB.out))) : w.heap.size ≤ gb427)); have n10_ := Aside0.mk ((by rw [hg]; exact (below_size (by repeat (first | (with_reducible first | exact HB.out | apply below_alloc | apply pw_below_drewN | apply below_drew1 | refine below_set ?_ GE425.out) | exact HB.out))) : w.heap.size ≤ gb427)); have n11_ := Aside0.mk ((by rw [hg]; exact Nat.ne_of_lt (blk_lt (g := gb425) (o := .cells #[.int .i64 ((rd_T40 t414 x57_3).f0), .int .i64 ((rd_T40 t414 x57_3).f1)] 40 (0, 0)) (by (with_reducible repeat (first | refine blk_drewN ?_ _ | refine blk_drew ?_ | refine blk_alloc ?_ _)); exact BK425.out)) : gb425 ≠ gb427)); have n12_ := Aside0.mk ((by rw [hg]; exact Nat.ne_of_gt (blk_lt (g := gb425) (o := .cells #[.int .i64 ((rd_T40 t414 x57_3).f0), .int .i64 ((rd_T40 t414 x57_3).f1)] 40 (0, 0)) (by (with_reducible repeat (first | refine blk_drewN ?_ _ | refine blk_drew ?_ | refine blk_alloc ?_ _)); exact BK425.out)) : gb427 ≠ gb425)); clear HO_3; clear HO_8; clear HO_9; clear HO_49; clear HO_55; clear HO_62; clear BK425; clear HB; have HO_3 := n0_; have HO_8 := n1_; have HO_9 := n2_; have HO_49 := n3_; have HO_55 := n4_; have HO_62 := n5_; have BK425 := n6_; have HB := n7_; have BK427 := n8_; have GW427 := n9_; have GE427 := n10_; have NB425_427 := n11_; have NB427_425 := n12_; clear n0_ n1_ n2_ n3_ n4_ n5_ n6_ n7_ n8_ n9_ n10_ n11_ n12_; clear hb hbox hg; have hnb35 := NB427_425.out; have hnc35 := NB425_427.out; have hcz36_0 : w34.cell? ⟨gb427, 0, none⟩ = some (.int .i64 0) := (blk_cell BK427.out 0).trans rfl; have hcz36_1 : w34.cell? ⟨gb427, 1, none⟩ = some (.int .i64 0) := (blk_cell BK427.out 1).trans rfl; have hfz36_0 := blk_frozen BK427.out 0; have hfz36_1 := blk_frozen BK427.out 1))
                                          go_roundg k4
                                          case measure => have := HJ4.out; have := HK2.out; have := HK3.out; have := HK4.out; omega
                                          case rel => exact ⟨(wrap64 (x64_4 + 1)), (by first | rfl | (simp; done) | (simp [*]; done)), H', ⟨by have := HJ4.out; have := HK2.out; have := HK3.out; have := HK4.out; omega⟩, ⟨by (with_reducible repeat (first | apply Kd.N_alloc | apply Kd.N_drewN | apply Kd.N_drew)); exact Kd.N_mono (Kd.N_far (p := ⟨gb427, 1, none⟩) (Kd.N_far (p := ⟨gb427, 0, none⟩) (Kd.N_mono HO_3.out (fun k_ hk => (⟨hk, hk.2⟩ : _ ∧ k_ ≠ gb427))) (fun _ hk => hk.2) (.int .i64 ((rd_T40 t414 x64_4).f0))) (fun _ hk => hk.2) (.int .i64 ((rd_T40 t414 x64_4).f1))) (fun _ hk => ⟨hk.1.1.1, ⟨hk.1.1.2.1, ⟨hk.1.1.2.2.1, ⟨hk.1.1.2.2.2.1, ⟨hk.1.1.2.2.2.2.1, hk.1.1.2.2.2.2.2⟩⟩⟩⟩⟩)⟩, ⟨by (with_reducible repeat (first | apply Kd.R_alloc | apply Kd.R_drewN | apply Kd.R_drew)); exact Kd.R_mono (Kd.R_far (p := ⟨gb427, 1, none⟩) (Kd.R_far (p := ⟨gb427, 0, none⟩) (Kd.R_mono HO_8.out (fun k_ hk => (⟨hk, hk.2⟩ : _ ∧ k_ ≠ gb427))) (fun _ hk => hk.2) (.int .i64 ((rd_T40 t414 x64_4).f0))) (fun _ hk => hk.2) (.int .i64 ((rd_T40 t414 x64_4).f1))) (fun _ hk => ⟨hk.1.1.1, hk.1.1.2⟩)⟩, ⟨by (with_reducible repeat (first | apply Kd.R_alloc | apply Kd.R_drewN | apply Kd.R_drew)); exact Kd.R_mono (Kd.R_far (p := ⟨gb427, 1, none⟩) (Kd.R_far (p := ⟨gb427, 0, none⟩) (Kd.R_mono HO_9.out (fun k_ hk => (⟨hk, hk.2⟩ : _ ∧ k_ ≠ gb427))) (fun _ hk => hk.2) (.int .i64 ((rd_T40 t414 x64_4).f0))) (fun _ hk => hk.2) (.int .i64 ((rd_T40 t414 x64_4).f1))) (fun _ hk => ⟨hk.1.1.1, ⟨hk.1.1.2.1, ⟨hk.1.1.2.2.1, hk.1.1.2.2.2⟩⟩⟩)⟩, ⟨by (with_reducible repeat (first | apply Kd.R_alloc | apply Kd.R_drewN | apply Kd.R_drew)); exact Kd.R_mono (Kd.R_far (p := ⟨gb427, 1, none⟩) (Kd.R_far (p := ⟨gb427, 0, none⟩) (Kd.R_types HO_49.out BK427.out kPQ_ne) (fun _ hk => hk.2) (.int .i64 ((rd_T40 t414 x64_4).f0))) (fun _ hk => hk.2) (.int .i64 ((rd_T40 t414 x64_4).f1))) (fun _ hk => trivial)⟩, ⟨by (with_reducible repeat (first | apply Kd.R_alloc | apply Kd.R_drewN | apply Kd.R_drew)); exact Kd.R_mono (Kd.R_far (p := ⟨gb427, 1, none⟩) (Kd.R_far (p := ⟨gb427, 0, none⟩) (Kd.R_mono HO_55.out (fun k_ hk => (⟨hk, hk.2⟩ : _ ∧ k_ ≠ gb427))) (fun _ hk => hk.2) (.int .i64 ((rd_T40 t414 x64_4).f0))) (fun _ hk => hk.2) (.int .i64 ((rd_T40 t414 x64_4).f1))) (fun _ hk => ⟨hk.1.1.1, hk.1.1.2⟩)⟩, ⟨by (with_reducible repeat (first | apply Kd.R_alloc | apply Kd.R_drewN | apply Kd.R_drew)); exact Kd.R_mono (Kd.R_far (p := ⟨gb427, 1, none⟩) (Kd.R_far (p := ⟨gb427, 0, none⟩) (Kd.R_mono HO_62.out (fun k_ hk => (⟨hk, hk.2⟩ : _ ∧ k_ ≠ gb427))) (fun _ hk => hk.2) (.int .i64 ((rd_T40 t414 x64_4).f0))) (fun _ hk => hk.2) (.int .i64 ((rd_T40 t414 x64_4).f1))) (fun _ hk => ⟨hk.1.1.1, hk.1.1.2⟩)⟩, ⟨by (with_reducible repeat (first | refine blk_drewN ?_ _ | refine blk_drew ?_ | refine blk_alloc ?_ _)); refine blk_far ?_ NB425_427.out _; (with_reducible repeat (first | refine blk_drewN ?_ _ | refine blk_drew ?_ | refine blk_alloc ?_ _)); refine blk_far ?_ NB425_427.out _; (with_reducible repeat (first | refine blk_drewN ?_ _ | refine blk_drew ?_ | refine blk_alloc ?_ _)); exact BK425.out⟩, ⟨by repeat (first | (with_reducible first | exact HB.out | apply below_alloc | apply pw_below_drewN | apply below_drew1 | refine below_set ?_ GE425.out | refine below_set ?_ GE427.out) | exact HB.out)⟩⟩
                                        · rw [if_neg c33] at H
                                          have c33b0 : (x57_3 == x64_4) = false := beq_eq_false_iff_ne.mpr c33
                                          have c33b1 : (x57_3 != x64_4) = true := bne_iff_ne.mpr c33
                                          replace H := Option.bind_eq_some_iff.mp H
                                          obtain ⟨t428, A370, H⟩ := H
                                          replace H : (if t428 = true then (some false) else (corporalaw27_StrategyNests.l2 k4 t403 t414 t417 x57_3 y420 (y420.length : Int) x51_2 t414 (t414.length : Int) x57_3 t414 (t414.length : Int) (wrap64 (x64_4 + 1)) ((rd_T40 t414 x57_3).f0) ((rd_T40 t414 x57_3).f1))) = some r := H
                                          have A37 := Aside0.mk A370
                                          clear A370
                                          by_cases c38 : t428 = true
                                          · subst c38
                                            have H1 : (some false) = some r := by rw [if_pos rfl] at H; exact H
                                            clear H
                                            have H := H1
                                            clear H1
                                            obtain rfl := Option.some.inj H
                                            have p426 : 0 ≤ (x64_4 : Int) := of_decide_eq_true (by first | (with_reducible assumption) | assumption)
                                            have q426 : x64_4 < (t414.length : Int) := of_decide_eq_true (by first | (with_reducible assumption) | assumption)
                                            obtain ⟨ad426, e426, hx426_0, hx426_1⟩ := at_T40 (Kd.R_reads' HO_62.out).2.2 x64_4 p426 q426
                                            obtain rfl : ad424 = ad426 := (by injection e426)
                                            replace p426 := eq_true p426
                                            replace q426 := eq_true q426
                                            go_wp2_with (first | ((with_reducible refine gate_dst (N := 15) rfl ?_); refine box_event ?hg (N := 15) ?hd (cs := #[.int .i64 0, .int .i64 0]) (t := 40) ?hr ?_; (case hd => rfl); (case hg => rfl); (case hr => first | (go_simp; done) | (go_simp; rfl)); intro gb427 hg w39 hbox hb; have n0_ := Aside0.mk (Kd.N_below (Kd.N_elderB (by (with_reducible repeat (first | apply Kd.N_alloc | apply Kd.N_drewN | apply Kd.N_drew)); exact HO_3.out) gb427 (Nat.le_of_eq hg.symm)) hb); have n1_ := Aside0.mk (Kd.R_below (Kd.R_elderB (by (with_reducible repeat (first | apply Kd.R_alloc | apply Kd.R_drewN | apply Kd.R_drew)); exact HO_8.out) gb427 (Nat.le_of_eq hg.symm)) hb); have n2_ := Aside0.mk (Kd.R_below (Kd.R_elderB (by (with_reducible repeat (first | apply Kd.R_alloc | apply Kd.R_drewN | apply Kd.R_drew)); exact HO_9.out) gb427 (Nat.le_of_eq hg.symm)) hb); have n3_ := Aside0.mk (Kd.R_below (by (with_reducible repeat (first | apply Kd.R_alloc | apply Kd.R_drewN | apply Kd.R_drew)); exact HO_49.out) hb); have n4_ := Aside0.mk (Kd.R_below (Kd.R_elderB (by (with_reducible repeat (first | apply Kd.R_alloc | apply Kd.R_drewN | apply Kd.R_drew)); exact HO_55.out) gb427 (Nat.le_of_eq hg.symm)) hb); have n5_ := Aside0.mk (Kd.R_below (Kd.R_elderB (by (with_reducible repeat (first | apply Kd.R_alloc | apply Kd.R_drewN | apply Kd.R_drew)); exact HO_62.out) gb427 (Nat.le_of_eq hg.symm)) hb); have n6_ := Aside0.mk (blk_below (g := gb425) (o := .cells #[.int .i64 ((rd_T40 t414 x57_3).f0), .int .i64 ((rd_T40 t414 x57_3).f1)] 40 (0, 0)) (by (with_reducible repeat (first | refine blk_drewN ?_ _ | refine blk_drew ?_ | refine blk_alloc ?_ _)); exact BK425.out) hb); have n7_ := Aside0.mk (below_step (by repeat (first | (with_reducible first | exact HB.out | apply below_alloc | apply pw_below_drewN | apply below_drew1 | refine below_set ?_ GE425.out) | exact HB.out)) hb); have n8_ := Aside0.mk (hbox); have n9_ := Aside0.mk ((by rw [hg]; exact (below_size (by repeat (first | (with_reducible first | exact HB.out | apply below_alloc | apply pw_below_drewN | apply below_drew1 | refine below_set ?_ GE425.out) | exact HB.out))) : w.heap.size ≤ gb427)); have n10_ := Aside0.mk ((by rw [hg]; exact (below_size (by repeat (first | (with_reducible first | exact HB.out | apply below_alloc | apply pw_below_drewN | apply below_drew1 | refine below_set ?_ GE425.out) | exact HB.out))) : w.heap.size ≤ gb427)); have n11_ := Aside0.mk ((by rw [hg]; exact Nat.ne_of_lt (blk_lt (g := gb425) (o := .cells #[.int .i64 ((rd_T40 t414 x57_3).f0), .int .i64 ((rd_T40 t414 x57_3).f1)] 40 (0, 0)) (by (with_reducible repeat (first | refine blk_drewN ?_ _ | refine blk_drew ?_ | refine blk_alloc ?_ _)); exact BK425.out)) : gb425 ≠ gb427)); have n12_ := Aside0.mk ((by rw [hg]; exact Nat.ne_of_gt (blk_lt (g := gb425) (o := .cells #[.int .i64 ((rd_T40 t414 x57_3).f0), .int .i64 ((rd_T40 t414 x57_3).f1)] 40 (0, 0)) (by (with_reducible repeat (first | refine blk_drewN ?_ _ | refine blk_drew ?_ | refine blk_alloc ?_ _)); exact BK425.out)) : gb427 ≠ gb425)); clear HO_3; clear HO_8; clear HO_9; clear HO_49; clear HO_55; clear HO_62; clear BK425; clear HB; have HO_3 := n0_; have HO_8 := n1_; have HO_9 := n2_; have HO_49 := n3_; have HO_55 := n4_; have HO_62 := n5_; have BK425 := n6_; have HB := n7_; have BK427 := n8_; have GW427 := n9_; have GE427 := n10_; have NB425_427 := n11_; have NB427_425 := n12_; clear n0_ n1_ n2_ n3_ n4_ n5_ n6_ n7_ n8_ n9_ n10_ n11_ n12_; clear hb hbox hg; have hnb40 := NB427_425.out; have hnc40 := NB425_427.out; have hcz41_0 : w39.cell? ⟨gb427, 0, none⟩ = some (.int .i64 0) := (blk_cell BK427.out 0).trans rfl; have hcz41_1 : w39.cell? ⟨gb427, 1, none⟩ = some (.int .i64 0) := (blk_cell BK427.out 1).trans rfl; have hfz41_0 := blk_frozen BK427.out 0; have hfz41_1 := blk_frozen BK427.out 1; have hcz42_0 : w39.cell? ⟨gb425, 0, none⟩ = some (.int .i64 ((rd_T40 t414 x57_3).f0)) := (blk_cell BK425.out 0).trans rfl; have hcz42_1 : w39.cell? ⟨gb425, 1, none⟩ = some (.int .i64 ((rd_T40 t414 x57_3).f1)) := (blk_cell BK425.out 1).trans rfl; have hfz42_0 := blk_frozen BK425.out 0; have hfz42_1 := blk_frozen BK425.out 1) | (go_at_call 20; (with_reducible refine (corporaref27_Contains.calls ((rd_T40 t414 x57_3).f0) ((rd_T40 t414 x57_3).f1) ((rd_T40 t414 x64_4).f0) ((rd_T40 t414 x64_4).f1) true _ A37.out).mono ?_); rintro e w43 ⟨rfl, hb⟩; have n0_ := Aside0.mk (Kd.N_below (by (with_reducible repeat (first | apply Kd.N_alloc | apply Kd.N_drewN | apply Kd.N_drew)); exact (Kd.N_mono (Kd.N_far (p := ⟨gb427, 1, none⟩) (Kd.N_far (p := ⟨gb427, 0, none⟩) (Kd.N_mono HO_3.out (fun k_ hk => (⟨hk, hk.2⟩ : _ ∧ k_ ≠ gb427))) (fun _ hk => hk.2) (.int .i64 ((rd_T40 t414 x64_4).f0))) (fun _ hk => hk.2) (.int .i64 ((rd_T40 t414 x64_4).f1))) (fun _ h_ => h_.1))) hb); have n1_ := Aside0.mk (Kd.R_below (by (with_reducible repeat (first | apply Kd.R_alloc | apply Kd.R_drewN | apply Kd.R_drew)); exact (Kd.R_mono (Kd.R_far (p := ⟨gb427, 1, none⟩) (Kd.R_far (p := ⟨gb427, 0, none⟩) (Kd.R_mono HO_8.out (fun k_ hk => (⟨hk, hk.2⟩ : _ ∧ k_ ≠ gb427))) (fun _ hk => hk.2) (.int .i64 ((rd_T40 t414 x64_4).f0))) (fun _ hk => hk.2) (.int .i64 ((rd_T40 t414 x64_4).f1))) (fun _ h_ => h_.1))) hb); have n2_ := Aside0.mk (Kd.R_below (by (with_reducible repeat (first | apply Kd.R_alloc | apply Kd.R_drewN | apply Kd.R_drew)); exact (Kd.R_mono (Kd.R_far (p := ⟨gb427, 1, none⟩) (Kd.R_far (p := ⟨gb427, 0, none⟩) (Kd.R_mono HO_9.out (fun k_ hk => (⟨hk, hk.2⟩ : _ ∧ k_ ≠ gb427))) (fun _ hk => hk.2) (.int .i64 ((rd_T40 t414 x64_4).f0))) (fun _ hk => hk.2) (.int .i64 ((rd_T40 t414 x64_4).f1))) (fun _ h_ => h_.1))) hb); have n3_ := Aside0.mk (Kd.R_below (by (with_reducible repeat (first | apply Kd.R_alloc | apply Kd.R_drewN | apply Kd.R_drew)); exact (Kd.R_mono (Kd.R_far (p := ⟨gb427, 1, none⟩) (Kd.R_far (p := ⟨gb427, 0, none⟩) (Kd.R_types HO_49.out BK427.out kPQ_ne) (fun _ hk => hk.2) (.int .i64 ((rd_T40 t414 x64_4).f0))) (fun _ hk => hk.2) (.int .i64 ((rd_T40 t414 x64_4).f1))) (fun _ h_ => h_.1))) hb); have n4_ := Aside0.mk (Kd.R_below (by (with_reducible repeat (first | apply Kd.R_alloc | apply Kd.R_drewN | apply Kd.R_drew)); exact (Kd.R_mono (Kd.R_far (p := ⟨gb427, 1, none⟩) (Kd.R_far (p := ⟨gb427, 0, none⟩) (Kd.R_mono HO_55.out (fun k_ hk => (⟨hk, hk.2⟩ : _ ∧ k_ ≠ gb427))) (fun _ hk => hk.2) (.int .i64 ((rd_T40 t414 x64_4).f0))) (fun _ hk => hk.2) (.int .i64 ((rd_T40 t414 x64_4).f1))) (fun _ h_ => h_.1))) hb); have n5_ := Aside0.mk (Kd.R_below (by (with_reducible repeat (first | apply Kd.R_alloc | apply Kd.R_drewN | apply Kd.R_drew)); exact (Kd.R_mono (Kd.R_far (p := ⟨gb427, 1, none⟩) (Kd.R_far (p := ⟨gb427, 0, none⟩) (Kd.R_mono HO_62.out (fun k_ hk => (⟨hk, hk.2⟩ : _ ∧ k_ ≠ gb427))) (fun _ hk => hk.2) (.int .i64 ((rd_T40 t414 x64_4).f0))) (fun _ hk => hk.2) (.int .i64 ((rd_T40 t414 x64_4).f1))) (fun _ h_ => h_.1))) hb); have n6_ := Aside0.mk (blk_below (g := gb425) (o := .cells #[.int .i64 ((rd_T40 t414 x57_3).f0), .int .i64 ((rd_T40 t414 x57_3).f1)] 40 (0, 0)) (by (with_reducible repeat (first | refine blk_drewN ?_ _ | refine blk_drew ?_ | refine blk_alloc ?_ _)); refine blk_far ?_ NB425_427.out _; (with_reducible repeat (first | refine blk_drewN ?_ _ | refine blk_drew ?_ | refine blk_alloc ?_ _)); refine blk_far ?_ NB425_427.out _; (with_reducible repeat (first | refine blk_drewN ?_ _ | refine blk_drew ?_ | refine blk_alloc ?_ _)); exact BK425.out) hb); have n7_ := Aside0.mk (blk_below (g := gb427) (o := .cells #[.int .i64 ((rd_T40 t414 x64_4).f0), .int .i64 ((rd_T40 t414 x64_4).f1)] 40 (0, 0)) (by (with_reducible repeat (first | refine blk_drewN ?_ _ | refine blk_drew ?_ | refine blk_alloc ?_ _)); refine blk_put (cs := #[.int .i64 ((rd_T40 t414 x64_4).f0), .int .i64 0]) ?_ 1 _ rfl; (with_reducible repeat (first | refine blk_drewN ?_ _ | refine blk_drew ?_ | refine blk_alloc ?_ _)); refine blk_put (cs := #[.int .i64 0, .int .i64 0]) ?_ 0 _ rfl; (with_reducible repeat (first | refine blk_drewN ?_ _ | refine blk_drew ?_ | refine blk_alloc ?_ _)); exact BK427.out) hb); have n8_ := Aside0.mk (below_step (by repeat (first | (with_reducible first | exact HB.out | apply below_alloc | apply pw_below_drewN | apply below_drew1 | refine below_set ?_ GE425.out | refine below_set ?_ GE427.out) | exact HB.out)) hb); clear HO_3; clear HO_8; clear HO_9; clear HO_49; clear HO_55; clear HO_62; clear BK425; clear BK427; clear HB; have HO_3 := n0_; have HO_8 := n1_; have HO_9 := n2_; have HO_49 := n3_; have HO_55 := n4_; have HO_62 := n5_; have BK425 := n6_; have BK427 := n7_; have HB := n8_; clear n0_ n1_ n2_ n3_ n4_ n5_ n6_ n7_ n8_; (try clear hb); (try clear hb2); (try clear hk); (try clear hi)))
                                            go_ret
                                            exact ⟨by first | rfl | (simp [errW_none, errW_some] <;> rfl) | (simp [*, errW_none, errW_some] <;> rfl), by repeat (first | (with_reducible first | exact HB.out | apply below_alloc | apply pw_below_drewN | apply below_drew1 | refine below_set ?_ GE425.out | refine below_set ?_ GE427.out) | exact HB.out)⟩
                                          · replace c38 := Bool.eq_false_iff.mpr c38
                                            subst c38
                                            have H1 : (corporalaw27_StrategyNests.l2 k4 t403 t414 t417 x57_3 y420 (y420.length : Int) x51_2 t414 (t414.length : Int) x57_3 t414 (t414.length : Int) (wrap64 (x64_4 + 1)) ((rd_T40 t414 x57_3).f0) ((rd_T40 t414 x57_3).f1)) = some r := by rw [if_neg (show ¬ (false = true) by decide)] at H; exact H
                                            clear H
                                            have H := H1
                                            clear H1
                                            have H' := Aside0.mk H
                                            clear H
                                            have p426 : 0 ≤ (x64_4 : Int) := of_decide_eq_true (by first | (with_reducible assumption) | assumption)
                                            have q426 : x64_4 < (t414.length : Int) := of_decide_eq_true (by first | (with_reducible assumption) | assumption)
                                            obtain ⟨ad426, e426, hx426_0, hx426_1⟩ := at_T40 (Kd.R_reads' HO_62.out).2.2 x64_4 p426 q426
                                            obtain rfl : ad424 = ad426 := (by injection e426)
                                            replace p426 := eq_true p426
                                            replace q426 := eq_true q426
                                            go_wp2_with (first | ((with_reducible refine gate_dst (N := 15) rfl ?_); refine box_event ?hg (N := 15) ?hd (cs := #[.int .i64 0, .int .i64 0]) (t := 40) ?hr ?_; (case hd => rfl); (case hg => rfl); (case hr => first | (go_simp; done) | (go_simp; rfl)); intro gb427 hg w44 hbox hb; have n0_ := Aside0.mk (Kd.N_below (Kd.N_elderB (by (with_reducible repeat (first | apply Kd.N_alloc | apply Kd.N_drewN | apply Kd.N_drew)); exact HO_3.out) gb427 (Nat.le_of_eq hg.symm)) hb); have n1_ := Aside0.mk (Kd.R_below (Kd.R_elderB (by (with_reducible repeat (first | apply Kd.R_alloc | apply Kd.R_drewN | apply Kd.R_drew)); exact HO_8.out) gb427 (Nat.le_of_eq hg.symm)) hb); have n2_ := Aside0.mk (Kd.R_below (Kd.R_elderB (by (with_reducible repeat (first | apply Kd.R_alloc | apply Kd.R_drewN | apply Kd.R_drew)); exact HO_9.out) gb427 (Nat.le_of_eq hg.symm)) hb); have n3_ := Aside0.mk (Kd.R_below (by (with_reducible repeat (first | apply Kd.R_alloc | apply Kd.R_drewN | apply Kd.R_drew)); exact HO_49.out) hb); have n4_ := Aside0.mk (Kd.R_below (Kd.R_elderB (by (with_reducible repeat (first | apply Kd.R_alloc | apply Kd.R_drewN | apply Kd.R_drew)); exact HO_55.out) gb427 (Nat.le_of_eq hg.symm)) hb); have n5_ := Aside0.mk (Kd.R_below (Kd.R_elderB (by (with_reducible repeat (first | apply Kd.R_alloc | apply Kd.R_drewN | apply Kd.R_drew)); exact HO_62.out) gb427 (Nat.le_of_eq hg.symm)) hb); have n6_ := Aside0.mk (blk_below (g := gb425) (o := .cells #[.int .i64 ((rd_T40 t414 x57_3).f0), .int .i64 ((rd_T40 t414 x57_3).f1)] 40 (0, 0)) (by (with_reducible repeat (first | refine blk_drewN ?_ _ | refine blk_drew ?_ | refine blk_alloc ?_ _)); exact BK425.out) hb); have n7_ := Aside0.mk (below_step (by repeat (first | (with_reducible first | exact HB.out | apply below_alloc | apply pw_below_drewN | apply below_drew1 | refine below_set ?_ GE425.out) | exact HB.out)) hb); have n8_ := Aside0.mk (hbox); have n9_ := Aside0.mk ((by rw [hg]; exact (below_size (by repeat (first | (with_reducible first | exact HB.out | apply below_alloc | apply pw_below_drewN | apply below_drew1 | refine below_set ?_ GE425.out) | exact HB.out))) : w.heap.size ≤ gb427)); have n10_ := Aside0.mk ((by rw [hg]; exact (below_size (by repeat (first | (with_reducible first | exact HB.out | apply below_alloc | apply pw_below_drewN | apply below_drew1 | refine below_set ?_ GE425.out) | exact HB.out))) : w.heap.size ≤ gb427)); have n11_ := Aside0.mk ((by rw [hg]; exact Nat.ne_of_lt (blk_lt (g := gb425) (o := .cells #[.int .i64 ((rd_T40 t414 x57_3).f0), .int .i64 ((rd_T40 t414 x57_3).f1)] 40 (0, 0)) (by (with_reducible repeat (first | refine blk_drewN ?_ _ | refine blk_drew ?_ | refine blk_alloc ?_ _)); exact BK425.out)) : gb425 ≠ gb427)); have n12_ := Aside0.mk ((by rw [hg]; exact Nat.ne_of_gt (blk_lt (g := gb425) (o := .cells #[.int .i64 ((rd_T40 t414 x57_3).f0), .int .i64 ((rd_T40 t414 x57_3).f1)] 40 (0, 0)) (by (with_reducible repeat (first | refine blk_drewN ?_ _ | refine blk_drew ?_ | refine blk_alloc ?_ _)); exact BK425.out)) : gb427 ≠ gb425)); clear HO_3; clear HO_8; clear HO_9; clear HO_49; clear HO_55; clear HO_62; clear BK425; clear HB; have HO_3 := n0_; have HO_8 := n1_; have HO_9 := n2_; have HO_49 := n3_; have HO_55 := n4_; have HO_62 := n5_; have BK425 := n6_; have HB := n7_; have BK427 := n8_; have GW427 := n9_; have GE427 := n10_; have NB425_427 := n11_; have NB427_425 := n12_; clear n0_ n1_ n2_ n3_ n4_ n5_ n6_ n7_ n8_ n9_ n10_ n11_ n12_; clear hb hbox hg; have hnb45 := NB427_425.out; have hnc45 := NB425_427.out; have hcz46_0 : w44.cell? ⟨gb427, 0, none⟩ = some (.int .i64 0) := (blk_cell BK427.out 0).trans rfl; have hcz46_1 : w44.cell? ⟨gb427, 1, none⟩ = some (.int .i64 0) := (blk_cell BK427.out 1).trans rfl; have hfz46_0 := blk_frozen BK427.out 0; have hfz46_1 := blk_frozen BK427.out 1; have hcz47_0 : w44.cell? ⟨gb425, 0, none⟩ = some (.int .i64 ((rd_T40 t414 x57_3).f0)) := (blk_cell BK425.out 0).trans rfl; have hcz47_1 : w44.cell? ⟨gb425, 1, none⟩ = some (.int .i64 ((rd_T40 t414 x57_3).f1)) := (blk_cell BK425.out 1).trans rfl; have hfz47_0 := blk_frozen BK425.out 0; have hfz47_1 := blk_frozen BK425.out 1) | (go_at_call 20; (with_reducible refine (corporaref27_Contains.calls ((rd_T40 t414 x57_3).f0) ((rd_T40 t414 x57_3).f1) ((rd_T40 t414 x64_4).f0) ((rd_T40 t414 x64_4).f1) false _ A37.out).mono ?_); rintro e w48 ⟨rfl, hb⟩; have n0_ := Aside0.mk (Kd.N_below (by (with_reducible repeat (first | apply Kd.N_alloc | apply Kd.N_drewN | apply Kd.N_drew)); exact (Kd.N_mono (Kd.N_far (p := ⟨gb427, 1, none⟩) (Kd.N_far (p := ⟨gb427, 0, none⟩) (Kd.N_mono HO_3.out (fun k_ hk => (⟨hk, hk.2⟩ : _ ∧ k_ ≠ gb427))) (fun _ hk => hk.2) (.int .i64 ((rd_T40 t414 x64_4).f0))) (fun _ hk => hk.2) (.int .i64 ((rd_T40 t414 x64_4).f1))) (fun _ h_ => h_.1))) hb); have n1_ := Aside0.mk (Kd.R_below (by (with_reducible repeat (first | apply Kd.R_alloc | apply Kd.R_drewN | apply Kd.R_drew)); exact (Kd.R_mono (Kd.R_far (p := ⟨gb427, 1, none⟩) (Kd.R_far (p := ⟨gb427, 0, none⟩) (Kd.R_mono HO_8.out (fun k_ hk => (⟨hk, hk.2⟩ : _ ∧ k_ ≠ gb427))) (fun _ hk => hk.2) (.int .i64 ((rd_T40 t414 x64_4).f0))) (fun _ hk => hk.2) (.int .i64 ((rd_T40 t414 x64_4).f1))) (fun _ h_ => h_.1))) hb); have n2_ := Aside0.mk (Kd.R_below (by (with_reducible repeat (first | apply Kd.R_alloc | apply Kd.R_drewN | apply Kd.R_drew)); exact (Kd.R_mono (Kd.R_far (p := ⟨gb427, 1, none⟩) (Kd.R_far (p := ⟨gb427, 0, none⟩) (Kd.R_mono HO_9.out (fun k_ hk => (⟨hk, hk.2⟩ : _ ∧ k_ ≠ gb427))) (fun _ hk => hk.2) (.int .i64 ((rd_T40 t414 x64_4).f0))) (fun _ hk => hk.2) (.int .i64 ((rd_T40 t414 x64_4).f1))) (fun _ h_ => h_.1))) hb); have n3_ := Aside0.mk (Kd.R_below (by (with_reducible repeat (first | apply Kd.R_alloc | apply Kd.R_drewN | apply Kd.R_drew)); exact (Kd.R_mono (Kd.R_far (p := ⟨gb427, 1, none⟩) (Kd.R_far (p := ⟨gb427, 0, none⟩) (Kd.R_types HO_49.out BK427.out kPQ_ne) (fun _ hk => hk.2) (.int .i64 ((rd_T40 t414 x64_4).f0))) (fun _ hk => hk.2) (.int .i64 ((rd_T40 t414 x64_4).f1))) (fun _ h_ => h_.1))) hb); have n4_ := Aside0.mk (Kd.R_below (by (with_reducible repeat (first | apply Kd.R_alloc | apply Kd.R_drewN | apply Kd.R_drew)); exact (Kd.R_mono (Kd.R_far (p := ⟨gb427, 1, none⟩) (Kd.R_far (p := ⟨gb427, 0, none⟩) (Kd.R_mono HO_55.out (fun k_ hk => (⟨hk, hk.2⟩ : _ ∧ k_ ≠ gb427))) (fun _ hk => hk.2) (.int .i64 ((rd_T40 t414 x64_4).f0))) (fun _ hk => hk.2) (.int .i64 ((rd_T40 t414 x64_4).f1))) (fun _ h_ => h_.1))) hb); have n5_ := Aside0.mk (Kd.R_below (by (with_reducible repeat (first | apply Kd.R_alloc | apply Kd.R_drewN | apply Kd.R_drew)); exact (Kd.R_mono (Kd.R_far (p := ⟨gb427, 1, none⟩) (Kd.R_far (p := ⟨gb427, 0, none⟩) (Kd.R_mono HO_62.out (fun k_ hk => (⟨hk, hk.2⟩ : _ ∧ k_ ≠ gb427))) (fun _ hk => hk.2) (.int .i64 ((rd_T40 t414 x64_4).f0))) (fun _ hk => hk.2) (.int .i64 ((rd_T40 t414 x64_4).f1))) (fun _ h_ => h_.1))) hb); have n6_ := Aside0.mk (blk_below (g := gb425) (o := .cells #[.int .i64 ((rd_T40 t414 x57_3).f0), .int .i64 ((rd_T40 t414 x57_3).f1)] 40 (0, 0)) (by (with_reducible repeat (first | refine blk_drewN ?_ _ | refine blk_drew ?_ | refine blk_alloc ?_ _)); refine blk_far ?_ NB425_427.out _; (with_reducible repeat (first | refine blk_drewN ?_ _ | refine blk_drew ?_ | refine blk_alloc ?_ _)); refine blk_far ?_ NB425_427.out _; (with_reducible repeat (first | refine blk_drewN ?_ _ | refine blk_drew ?_ | refine blk_alloc ?_ _)); exact BK425.out) hb); have n7_ := Aside0.mk (blk_below (g := gb427) (o := .cells #[.int .i64 ((rd_T40 t414 x64_4).f0), .int .i64 ((rd_T40 t414 x64_4).f1)] 40 (0, 0)) (by (with_reducible repeat (first | refine blk_drewN ?_ _ | refine blk_drew ?_ | refine blk_alloc ?_ _)); refine blk_put (cs := #[.int .i64 ((rd_T40 t414 x64_4).f0), .int .i64 0]) ?_ 1 _ rfl; (with_reducible repeat (first | refine blk_drewN ?_ _ | refine blk_drew ?_ | refine blk_alloc ?_ _)); refine blk_put (cs := #[.int .i64 0, .int .i64 0]) ?_ 0 _ rfl; (with_reducible repeat (first | refine blk_drewN ?_ _ | refine blk_drew ?_ | refine blk_alloc ?_ _)); exact BK427.out) hb); have n8_ := Aside0.mk (below_step (by repeat (first | (with_reducible first | exact HB.out | apply below_alloc | apply pw_below_drewN | apply below_drew1 | refine below_set ?_ GE425.out | refine below_set ?_ GE427.out) | exact HB.out)) hb); clear HO_3; clear HO_8; clear HO_9; clear HO_49; clear HO_55; clear HO_62; clear BK425; clear BK427; clear HB; have HO_3 := n0_; have HO_8 := n1_; have HO_9 := n2_; have HO_49 := n3_; have HO_55 := n4_; have HO_62 := n5_; have BK425 := n6_; have BK427 := n7_; have HB := n8_; clear n0_ n1_ n2_ n3_ n4_ n5_ n6_ n7_ n8_; (try clear hb); (try clear hb2); (try clear hk); (try clear hi)))
                                            go_roundg k4
                                            case measure => have := HJ4.out; have := HK2.out; have := HK3.out; have := HK4.out; omega
                                            case rel => exact ⟨(wrap64 (x64_4 + 1)), (by first | rfl | (simp; done) | (simp [*]; done)), H', ⟨by have := HJ4.out; have := HK2.out; have := HK3.out; have := HK4.out; omega⟩, ⟨by (with_reducible repeat (first | apply Kd.N_alloc | apply Kd.N_drewN | apply Kd.N_drew)); exact Kd.N_mono HO_3.out (fun _ hk => ⟨hk.1.1, ⟨hk.1.2.1, ⟨hk.1.2.2.1, ⟨hk.1.2.2.2.1, ⟨hk.1.2.2.2.2.1, hk.1.2.2.2.2.2⟩⟩⟩⟩⟩)⟩, ⟨by (with_reducible repeat (first | apply Kd.R_alloc | apply Kd.R_drewN | apply Kd.R_drew)); exact Kd.R_mono HO_8.out (fun _ hk => ⟨hk.1.1, hk.1.2⟩)⟩, ⟨by (with_reducible repeat (first | apply Kd.R_alloc | apply Kd.R_drewN | apply Kd.R_drew)); exact Kd.R_mono HO_9.out (fun _ hk => ⟨hk.1.1, ⟨hk.1.2.1, ⟨hk.1.2.2.1, hk.1.2.2.2⟩⟩⟩)⟩, ⟨by (with_reducible repeat (first | apply Kd.R_alloc | apply Kd.R_drewN | apply Kd.R_drew)); exact HO_49.out⟩, ⟨by (with_reducible repeat (first | apply Kd.R_alloc | apply Kd.R_drewN | apply Kd.R_drew)); exact Kd.R_mono HO_55.out (fun _ hk => ⟨hk.1.1, hk.1.2⟩)⟩, ⟨by (with_reducible repeat (first | apply Kd.R_alloc | apply Kd.R_drewN | apply Kd.R_drew)); exact Kd.R_mono HO_62.out (fun _ hk => ⟨hk.1.1, hk.1.2⟩)⟩, ⟨by (with_reducible repeat (first | refine blk_drewN ?_ _ | refine blk_drew ?_ | refine blk_alloc ?_ _)); exact BK425.out⟩, ⟨by repeat (first | (with_reducible first | exact HB.out | apply below_alloc | apply pw_below_drewN | apply below_drew1 | refine below_set ?_ GE425.out | refine below_set ?_ GE427.out) | exact HB.out)⟩⟩
                                      · rw [if_neg c32] at H
                                        exact absurd H (by simp)
                                    · rw [if_neg c31] at H
                                      exact absurd H (by simp)
                                  · rw [if_neg c30] at H
                                    have c30b0 : decide (x64_4 < (t414.length : Int)) = false := decide_eq_false c30
                                    clear c30
                                    have H' := Aside0.mk H
                                    clear H
                                    go_wp2
                                    go_roundg k4
                                    case measure => have := HJ4.out; have := HK2.out; have := HK3.out; have := HK4.out; omega
                                    case rel => exact ⟨(wrap64 (x57_3 + 1)), (by first | rfl | (simp; done) | (simp [*]; done)), H', ⟨by have := HJ4.out; have := HK2.out; have := HK3.out; have := HK4.out; omega⟩, ⟨by (with_reducible repeat (first | apply Kd.N_alloc | apply Kd.N_drewN | apply Kd.N_drew)); exact Kd.N_mono HO_3.out (fun _ hk => ⟨hk.1, ⟨hk.2.1, ⟨hk.2.2.1, hk.2.2.2.1⟩⟩⟩)⟩, ⟨by (with_reducible repeat (first | apply Kd.R_alloc | apply Kd.R_drewN | apply Kd.R_drew)); exact Kd.R_mono HO_8.out (fun _ hk => hk.1)⟩, ⟨by (with_reducible repeat (first | apply Kd.R_alloc | apply Kd.R_drewN | apply Kd.R_drew)); exact Kd.R_mono HO_9.out (fun _ hk => ⟨hk.1, hk.2.1⟩)⟩, ⟨by (with_reducible repeat (first | apply Kd.R_alloc | apply Kd.R_drewN | apply Kd.R_drew)); exact HO_49.out⟩, ⟨by (with_reducible repeat (first | apply Kd.R_alloc | apply Kd.R_drewN | apply Kd.R_drew)); exact Kd.R_mono HO_55.out (fun _ hk => hk.1)⟩, ⟨by repeat (first | (with_reducible first | exact HB.out | apply below_alloc | apply pw_below_drewN | apply below_drew1 | refine below_set ?_ GE425.out) | exact HB.out)⟩⟩
                            · rw [if_neg c27] at H
                              exact absurd H (by simp)
                          · rw [if_neg c26] at H
                            exact absurd H (by simp)
                        · rw [if_neg c25] at H
                          have c25b0 : decide (x57_3 < (t414.length : Int)) = false := decide_eq_false c25
                          clear c25
                          have H' := Aside0.mk H
                          clear H
                          go_wp2
                          go_roundg k3
                          case measure => have := HJ4.out; have := HK2.out; have := HK3.out; omega
                          case rel => exact ⟨(wrap64 (x51_2 + 1)), (by first | rfl | (simp; done) | (simp [*]; done)), H', ⟨by have := HJ4.out; have := HK2.out; have := HK3.out; omega⟩, ⟨by (with_reducible repeat (first | apply Kd.N_alloc | apply Kd.N_drewN | apply Kd.N_drew)); exact Kd.N_mono HO_3.out (fun _ hk => ⟨hk.1, ⟨hk.2.1, hk.2.2.1⟩⟩)⟩, ⟨by (with_reducible repeat (first | apply Kd.R_alloc | apply Kd.R_drewN | apply Kd.R_drew)); exact HO_8.out⟩, ⟨by (with_reducible repeat (first | apply Kd.R_alloc | apply Kd.R_drewN | apply Kd.R_drew)); exact Kd.R_mono HO_9.out (fun _ hk => hk.1)⟩, ⟨by (with_reducible repeat (first | apply Kd.R_alloc | apply Kd.R_drewN | apply Kd.R_drew)); exact HO_49.out⟩, ⟨by repeat (first | (with_reducible first | exact HB.out | apply below_alloc | apply pw_below_drewN | apply below_drew1) | exact HB.out)⟩⟩
                  · rw [if_neg cpq] at H
                    have H' := Aside0.mk H
                    clear H
                    have p423 : 0 ≤ (x51_2 : Int) := of_decide_eq_true (by first | (with_reducible assumption) | assumption)
                    have q423 : x51_2 < (y420.length : Int) := of_decide_eq_true (by first | (with_reducible assumption) | assumption)
                    obtain ⟨ad423, e423, hx423_0⟩ := at_PQ (Kd.R_reads' HO_49.out).2.2 x51_2 p423 q423
                    replace hx423_0 := hx423_0.trans (congrArg some (show encPQ Ao24 t414.length co24 Ao25 t417.length co25 (rd y420 x51_2) = .slice Ao25 t417.length co25 from if_neg cpq))
                    cases e423
                    replace p423 := eq_true p423
                    replace q423 := eq_true q423
                    have n0_ := Aside0.mk (Kd.N_mono (ok' := fun k_ => some k_ ≠ (.slice Ao25 t417.length co25 : Value).ownBlock ∧ some k_ ≠ (.slice Ao24 t414.length co24 : Value).ownBlock ∧ some k_ ≠ (.slice (some ad423) y420.length co20 : Value).ownBlock) HO_3.out (fun _ hk => ⟨hk.2.1, hk.1, hk.2.2⟩))
                    clear HO_3
                    have HO_3 := n0_
                    clear n0_
                    go_wp2
                    go_loopg [57] k2 (fun kq v57 w' => ∃ (x57_3 : Int), v57 = .int .i64 x57_3 ∧ Aside0 (corporalaw27_StrategyNests.l1 kq t403 t414 t417 y420 (y420.length : Int) x51_2 t417 (t417.length : Int) x57_3 = some r) ∧ Aside0 (kq ≤ k2) ∧ Aside0 (Kd.N k38 38 w' w.heap.size (fun k_ => some k_ ≠ (.slice Ao25 t417.length co25 : Value).ownBlock ∧ some k_ ≠ ((.slice Ao24 t414.length co24) : Value).ownBlock ∧ some k_ ≠ ((.slice (some ad423) y420.length co20) : Value).ownBlock ∧ some k_ ≠ (.slice Ao25 t417.length co25 : Value).ownBlock) (.slice Ao7 t403.length co7) t403) ∧ Aside0 (Kd.R k40 40 w' w.heap.size (fun k_ => some k_ ≠ ((.slice Ao24 t414.length co24) : Value).ownBlock) (.slice Ao25 t417.length co25) t417) ∧ Aside0 (Kd.R k40 40 w' w.heap.size (fun k_ => some k_ ≠ (.slice Ao25 t417.length co25 : Value).ownBlock ∧ some k_ ≠ (.slice Ao25 t417.length co25 : Value).ownBlock) (.slice Ao24 t414.length co24) t414) ∧ Aside0 (Kd.R (kPQ Ao24 t414.length co24 Ao25 t417.length co25) 31 w' w.heap.size (fun _ => True) (.slice (some ad423) y420.length co20) y420) ∧ Aside0 (Kd.R k40 40 w' w.heap.size (fun k_ => some k_ ≠ ((.slice Ao24 t414.length co24) : Value).ownBlock) (.slice Ao25 t417.length co25) t417) ∧ Aside0 (Below w.heap.size w w'))
                    case atStart => exact ⟨(0), (by first | rfl | (simp; done) | (simp [*]; done)), H', ⟨Nat.le_refl _⟩, ⟨by (with_reducible repeat (first | apply Kd.N_alloc | apply Kd.N_drewN | apply Kd.N_drew)); exact Kd.N_mono HO_3.out (fun _ hk => ⟨hk.1, ⟨hk.2.1, ⟨hk.2.2, hk.1⟩⟩⟩)⟩, ⟨by (with_reducible repeat (first | apply Kd.R_alloc | apply Kd.R_drewN | apply Kd.R_drew)); exact HO_9.out⟩, ⟨by (with_reducible repeat (first | apply Kd.R_alloc | apply Kd.R_drewN | apply Kd.R_drew)); exact Kd.R_mono HO_8.out (fun _ hk => ⟨hk, hk⟩)⟩, ⟨by (with_reducible repeat (first | apply Kd.R_alloc | apply Kd.R_drewN | apply Kd.R_drew)); exact HO_49.out⟩, ⟨by (with_reducible repeat (first | apply Kd.R_alloc | apply Kd.R_drewN | apply Kd.R_drew)); exact HO_9.out⟩, ⟨by repeat (first | (with_reducible first | exact HB.out | apply below_alloc | apply pw_below_drewN | apply below_drew1) | exact HB.out)⟩⟩
                    case round =>
                      clear H'
                      try clear c1
                      try clear c2
                      try clear p2
                      try clear p4
                      try clear q4
                      try clear hx4
                      try clear c7
                      try clear c10
                      try clear c10b0
                      try clear c10b1
                      try clear c11
                      try clear c12
                      try clear c16
                      try clear c21
                      try clear c21b0
                      try clear c22
                      try clear c22b0
                      try clear c23
                      try clear c23b0
                      try clear hx423_0
                      try clear p2
                      try clear p423
                      try clear q423
                      obtain ⟨x57_3, rfl, HA, HK3, HO_3, HO_9, HO_8, HO_49, HO_55, HB⟩ := hrel
                      cases gk with
                      | zero => exact absurd HA.out (by simp [corporalaw27_StrategyNests.l1])
                      | succ k3 =>
                        have H := HA.out
                        clear HA
                        simp only [corporalaw27_StrategyNests.l1] at H
                        by_cases c25 : x57_3 < (t417.length : Int)
                        · rw [if_pos c25] at H
                          have c25b0 : decide (x57_3 < (t417.length : Int)) = true := decide_eq_true c25
                          clear c25
                          by_cases c26 : 0 ≤ x57_3
                          · rw [if_pos c26] at H
                            have c26b0 : decide (0 ≤ x57_3) = true := decide_eq_true c26
                            clear c26
                            by_cases c27 : x57_3 < (t417.length : Int)
                            · rw [if_pos c27] at H
                              have c27b0 : decide (x57_3 < (t417.length : Int)) = true := decide_eq_true c27
                              clear c27
                              have H' := Aside0.mk H
                              clear H
                              have p424 : 0 ≤ (x57_3 : Int) := of_decide_eq_true (by first | (with_reducible assumption) | assumption)
                              have q424 : x57_3 < (t417.length : Int) := of_decide_eq_true (by first | (with_reducible assumption) | assumption)
                              obtain ⟨ad424, e424, hx424_0, hx424_1⟩ := at_T40 (Kd.R_reads' HO_55.out).2.2 x57_3 p424 q424
                              cases e424
                              replace p424 := eq_true p424
                              replace q424 := eq_true q424
                              go_wp2_with (first | ((with_reducible refine gate_dst (N := 13) rfl ?_); refine box_event ?hg (N := 13) ?hd (cs := #[.int .i64 0, .int .i64 0]) (t := 40) ?hr ?_; (case hd => rfl); (case hg => rfl); (case hr => first | (go_simp; done) | (go_simp; rfl)); intro gb425 hg w28 hbox hb; have n0_ := Aside0.mk (Kd.N_below (Kd.N_elderB (by (with_reducible repeat (first | apply Kd.N_alloc | apply Kd.N_drewN | apply Kd.N_drew)); exact HO_3.out) gb425 (Nat.le_of_eq hg.symm)) hb); have n1_ := Aside0.mk (Kd.R_below (Kd.R_elderB (by (with_reducible repeat (first | apply Kd.R_alloc | apply Kd.R_drewN | apply Kd.R_drew)); exact HO_9.out) gb425 (Nat.le_of_eq hg.symm)) hb); have n2_ := Aside0.mk (Kd.R_below (Kd.R_elderB (by (with_reducible repeat (first | apply Kd.R_alloc | apply Kd.R_drewN | apply Kd.R_drew)); exact HO_8.out) gb425 (Nat.le_of_eq hg.symm)) hb); have n3_ := Aside0.mk (Kd.R_below (by (with_reducible repeat (first | apply Kd.R_alloc | apply Kd.R_drewN | apply Kd.R_drew)); exact HO_49.out) hb); have n4_ := Aside0.mk (Kd.R_below (Kd.R_elderB (by (with_reducible repeat (first | apply Kd.R_alloc | apply Kd.R_drewN | apply Kd.R_drew)); exact HO_55.out) gb425 (Nat.le_of_eq hg.symm)) hb); have n5_ := Aside0.mk (below_step (by repeat (first | (with_reducible first | exact HB.out | apply below_alloc | apply pw_below_drewN | apply below_drew1) | exact HB.out)) hb); have n6_ := Aside0.mk (hbox); have n7_ := Aside0.mk ((by rw [hg]; exact (below_size (by repeat (first | (with_reducible first | exact HB.out | apply below_alloc | apply pw_below_drewN | apply below_drew1) | exact HB.out))) : w.heap.size ≤ gb425)); have n8_ := Aside0.mk ((by rw [hg]; exact (below_size (by repeat (first | (with_reducible first | exact HB.out | apply below_alloc | apply pw_below_drewN | apply below_drew1) | exact HB.out))) : w.heap.size ≤ gb425)); clear HO_3; clear HO_9; clear HO_8; clear HO_49; clear HO_55; clear HB; have HO_3 := n0_; have HO_9 := n1_; have HO_8 := n2_; have HO_49 := n3_; have HO_55 := n4_; have HB := n5_; have BK425 := n6_; have GW425 := n7_; have GE425 := n8_; clear n0_ n1_ n2_ n3_ n4_ n5_ n6_ n7_ n8_; clear hb hbox hg; have hcz29_0 : w28.cell? ⟨gb425, 0, none⟩ = some (.int .i64 0) := (blk_cell BK425.out 0).trans rfl; have hcz29_1 : w28.cell? ⟨gb425, 1, none⟩ = some (.int .i64 0) := (blk_cell BK425.out 1).trans rfl; have hfz29_0 := blk_frozen BK425.out 0; have hfz29_1 := blk_frozen BK425.out 1))
                              go_loopg [64] k3 (fun kq v64 w' => ∃ (x64_4 : Int), v64 = .int .i64 x64_4 ∧ Aside0 (corporalaw27_StrategyNests.l2 kq t403 t414 t417 x57_3 y420 (y420.length : Int) x51_2 t417 (t417.length : Int) x57_3 t417 (t417.length : Int) x64_4 ((rd_T40 t417 x57_3).f0) ((rd_T40 t417 x57_3).f1) = some r) ∧ Aside0 (kq ≤ k3) ∧ Aside0 (Kd.N k38 38 w' w.heap.size (fun k_ => some k_ ≠ ((.slice (some ad424) t417.length co25) : Value).ownBlock ∧ some k_ ≠ ((.slice Ao24 t414.length co24) : Value).ownBlock ∧ some k_ ≠ ((.slice (some ad423) y420.length co20) : Value).ownBlock ∧ some k_ ≠ ((.slice (some ad424) t417.length co25) : Value).ownBlock ∧ some k_ ≠ ((.slice (some ad424) t417.length co25) : Value).ownBlock ∧ k_ ≠ gb425) (.slice Ao7 t403.length co7) t403) ∧ Aside0 (Kd.R k40 40 w' w.heap.size (fun k_ => some k_ ≠ ((.slice Ao24 t414.length co24) : Value).ownBlock ∧ k_ ≠ gb425) (.slice (some ad424) t417.length co25) t417) ∧ Aside0 (Kd.R k40 40 w' w.heap.size (fun k_ => some k_ ≠ ((.slice (some ad424) t417.length co25) : Value).ownBlock ∧ some k_ ≠ ((.slice (some ad424) t417.length co25) : Value).ownBlock ∧ some k_ ≠ ((.slice (some ad424) t417.length co25) : Value).ownBlock ∧ k_ ≠ gb425) (.slice Ao24 t414.length co24) t414) ∧ Aside0 (Kd.R (kPQ Ao24 t414.length co24 (some ad424) t417.length co25) 31 w' w.heap.size (fun _ => True) (.slice (some ad423) y420.length co20) y420) ∧ Aside0 (Kd.R k40 40 w' w.heap.size (fun k_ => some k_ ≠ ((.slice Ao24 t414.length co24) : Value).ownBlock ∧ k_ ≠ gb425) (.slice (some ad424) t417.length co25) t417) ∧ Aside0 (Kd.R k40 40 w' w.heap.size (fun k_ => some k_ ≠ ((.slice Ao24 t414.length co24) : Value).ownBlock ∧ k_ ≠ gb425) (.slice (some ad424) t417.length co25) t417) ∧ Aside0 (w'.heap[gb425]? = some (.cells #[.int .i64 ((rd_T40 t417 x57_3).f0), .int .i64 ((rd_T40 t417 x57_3).f1)] 40 (0, 0))) ∧ Aside0 (Below w.heap.size w w'))
                              case atStart => exact ⟨(0), (by first | rfl | (simp; done) | (simp [*]; done)), H', ⟨Nat.le_refl _⟩, ⟨by (with_reducible repeat (first | apply Kd.N_alloc | apply Kd.N_drewN | apply Kd.N_drew)); exact Kd.N_mono (Kd.N_far (p := ⟨gb425, 1, none⟩) (Kd.N_far (p := ⟨gb425, 0, none⟩) (Kd.N_mono HO_3.out (fun k_ hk => (⟨hk, hk.2⟩ : _ ∧ k_ ≠ gb425))) (fun _ hk => hk.2) (.int .i64 ((rd_T40 t417 x57_3).f0))) (fun _ hk => hk.2) (.int .i64 ((rd_T40 t417 x57_3).f1))) (fun _ hk => ⟨hk.1.1.1, ⟨hk.1.1.2.1, ⟨hk.1.1.2.2.1, ⟨hk.1.1.2.2.2, ⟨hk.1.1.1, hk.1.2⟩⟩⟩⟩⟩)⟩, ⟨by (with_reducible repeat (first | apply Kd.R_alloc | apply Kd.R_drewN | apply Kd.R_drew)); exact Kd.R_mono (Kd.R_far (p := ⟨gb425, 1, none⟩) (Kd.R_far (p := ⟨gb425, 0, none⟩) (Kd.R_mono HO_9.out (fun k_ hk => (⟨hk, hk.2⟩ : _ ∧ k_ ≠ gb425))) (fun _ hk => hk.2) (.int .i64 ((rd_T40 t417 x57_3).f0))) (fun _ hk => hk.2) (.int .i64 ((rd_T40 t417 x57_3).f1))) (fun _ hk => ⟨hk.1.1, hk.1.2⟩)⟩, ⟨by (with_reducible repeat (first | apply Kd.R_alloc | apply Kd.R_drewN | apply Kd.R_drew)); exact Kd.R_mono (Kd.R_far (p := ⟨gb425, 1, none⟩) (Kd.R_far (p := ⟨gb425, 0, none⟩) (Kd.R_mono HO_8.out (fun k_ hk => (⟨hk, hk.2⟩ : _ ∧ k_ ≠ gb425))) (fun _ hk => hk.2) (.int .i64 ((rd_T40 t417 x57_3).f0))) (fun _ hk => hk.2) (.int .i64 ((rd_T40 t417 x57_3).f1))) (fun _ hk => ⟨hk.1.1.1, ⟨hk.1.1.2, ⟨hk.1.1.1, hk.1.2⟩⟩⟩)⟩, ⟨by (with_reducible repeat (first | apply Kd.R_alloc | apply Kd.R_drewN | apply Kd.R_drew)); exact Kd.R_mono (Kd.R_far (p := ⟨gb425, 1, none⟩) (Kd.R_far (p := ⟨gb425, 0, none⟩) (Kd.R_types HO_49.out BK425.out kPQ_ne) (fun _ hk => hk.2) (.int .i64 ((rd_T40 t417 x57_3).f0))) (fun _ hk => hk.2) (.int .i64 ((rd_T40 t417 x57_3).f1))) (fun _ hk => trivial)⟩, ⟨by (with_reducible repeat (first | apply Kd.R_alloc | apply Kd.R_drewN | apply Kd.R_drew)); exact Kd.R_mono (Kd.R_far (p := ⟨gb425, 1, none⟩) (Kd.R_far (p := ⟨gb425, 0, none⟩) (Kd.R_mono HO_55.out (fun k_ hk => (⟨hk, hk.2⟩ : _ ∧ k_ ≠ gb425))) (fun _ hk => hk.2) (.int .i64 ((rd_T40 t417 x57_3).f0))) (fun _ hk => hk.2) (.int .i64 ((rd_T40 t417 x57_3).f1))) (fun _ hk => ⟨hk.1.1, hk.1.2⟩)⟩, ⟨by (with_reducible repeat (first | apply Kd.R_alloc | apply Kd.R_drewN | apply Kd.R_drew)); exact Kd.R_mono (Kd.R_far (p := ⟨gb425, 1, none⟩) (Kd.R_far (p := ⟨gb425, 0, none⟩) (Kd.R_mono HO_9.out (fun k_ hk => (⟨hk, hk.2⟩ : _ ∧ k_ ≠ gb425))) (fun _ hk => hk.2) (.int .i64 ((rd_T40 t417 x57_3).f0))) (fun _ hk => hk.2) (.int .i64 ((rd_T40 t417 x57_3).f1))) (fun _ hk => ⟨hk.1.1, hk.1.2⟩)⟩, ⟨by (with_reducible repeat (first | refine blk_drewN ?_ _ | refine blk_drew ?_ | refine blk_alloc ?_ _)); refine blk_put (cs := #[.int .i64 ((rd_T40 t417 x57_3).f0), .int .i64 0]) ?_ 1 _ rfl; (with_reducible repeat (first | refine blk_drewN ?_ _ | refine blk_drew ?_ | refine blk_alloc ?_ _)); refine blk_put (cs := #[.int .i64 0, .int .i64 0]) ?_ 0 _ rfl; (with_reducible repeat (first | refine blk_drewN ?_ _ | refine blk_drew ?_ | refine blk_alloc ?_ _)); exact BK425.out⟩, ⟨by repeat (first | (with_reducible first | exact HB.out | apply below_alloc | apply pw_below_drewN | apply below_drew1 | refine below_set ?_ GE425.out) | exact HB.out)⟩⟩
                              case round =>
                                clear H'
                                try clear c1
                                try clear c2
                                try clear p2
                                try clear p4
                                try clear q4
                                try clear hx4
                                try clear c7
                                try clear c10
                                try clear c10b0
                                try clear c10b1
                                try clear c11
                                try clear c12
                                try clear c16
                                try clear c21
                                try clear c21b0
                                try clear c22
                                try clear c22b0
                                try clear c23
                                try clear c23b0
                                try clear c25
                                try clear c25b0
                                try clear c26
                                try clear c26b0
                                try clear c27
                                try clear c27b0
                                try clear hcz29_0
                                try clear hcz29_1
                                try clear hfz29_0
                                try clear hfz29_1
                                try clear hx423_0
                                try clear hx424_0
                                try clear hx424_1
                                try clear p2
                                try clear p4
                                try clear p423
                                try clear p424
                                try clear q4
                                try clear q423
                                try clear q424
                                obtain ⟨x64_4, rfl, HA, HK4, HO_3, HO_9, HO_8, HO_49, HO_55, HO_62, BK425, HB⟩ := hrel
                                cases gk with
                                | zero => exact absurd HA.out (by simp [corporalaw27_StrategyNests.l2])
                                | succ k4 =>
                                  have H := HA.out
                                  clear HA
                                  simp only [corporalaw27_StrategyNests.l2] at H
                                  by_cases c30 : x64_4 < (t417.length : Int)
                                  · rw [if_pos c30] at H
                                    have c30b0 : decide (x64_4 < (t417.length : Int)) = true := decide_eq_true c30
                                    clear c30
                                    by_cases c31 : 0 ≤ x64_4
                                    · rw [if_pos c31] at H
                                      have c31b0 : decide (0 ≤ x64_4) = true := decide_eq_true c31
                                      clear c31
                                      by_cases c32 : x64_4 < (t417.length : Int)
                                      · rw [if_pos c32] at H
                                        have c32b0 : decide (x64_4 < (t417.length : Int)) = true := decide_eq_true c32
                                        clear c32
                                        by_cases c33 : x57_3 = x64_4
                                        · rw [if_pos c33] at H
                                          have c33b0 : (x57_3 == x64_4) = true := beq_iff_eq.mpr c33
                                          have c33b1 : (x57_3 != x64_4) = false := bne_eq_false_iff_eq.mpr c33
                                          clear c33
                                          have H' := Aside0.mk H
                                          clear H
                                          have p426 : 0 ≤ (x64_4 : Int) := of_decide_eq_true (by first | (with_reducible assumption) | assumption)
                                          have q426 : x64_4 < (t417.length : Int) := of_decide_eq_true (by first | (with_reducible assumption) | assumption)
                                          obtain ⟨ad426, e426, hx426_0, hx426_1⟩ := at_T40 (Kd.R_reads' HO_62.out).2.2 x64_4 p426 q426
                                          obtain rfl : ad424 = ad426 := (by injection e426)
                                          replace p426 := eq_true p426
                                          replace q426 := eq_true q426
                                          go_wp2_with (first | ((with_reducible refine gate_dst (N := 15) rfl ?_); refine box_event ?hg (N := 15) ?hd (cs := #[.int .i64 0, .int .i64 0]) (t := 40) ?hr ?_; (case hd => rfl); (case hg => rfl); (case hr => first | (go_simp; done) | (go_simp; rfl)); intro gb427 hg w34 hbox hb; have n0_ := Aside0.mk (Kd.N_below (Kd.N_elderB (by (with_reducible repeat (first | apply Kd.N_alloc | apply Kd.N_drewN | apply Kd.N_drew)); exact HO_3.out) gb427 (Nat.le_of_eq hg.symm)) hb); have n1_ := Aside0.mk (Kd.R_below (Kd.R_elderB (by (with_reducible repeat (first | apply Kd.R_alloc | apply Kd.R_drewN | apply Kd.R_drew)); exact HO_9.out) gb427 (Nat.le_of_eq hg.symm)) hb); have n2_ := Aside0.mk (Kd.R_below (Kd.R_elderB (by (with_reducible repeat (first | apply Kd.R_alloc | apply Kd.R_drewN | apply Kd.R_drew)); exact HO_8.out) gb427 (Nat.le_of_eq hg.symm)) hb); have n3_ := Aside0.mk (Kd.R_below (by (with_reducible repeat (first | apply Kd.R_alloc | apply Kd.R_drewN | apply Kd.R_drew)); exact HO_49.out) hb); have n4_ := Aside0.mk (Kd.R_below (Kd.R_elderB (by (with_reducible repeat (first | apply Kd.R_alloc | apply Kd.R_drewN | apply Kd.R_drew)); exact HO_55.out) gb427 (Nat.le_of_eq hg.symm)) hb); have n5_ := Aside0.mk (Kd.R_below (Kd.R_elderB (by (with_reducible repeat (first | apply Kd.R_alloc | apply Kd.R_drewN | apply Kd.R_drew)); exact HO_62.out) gb427 (Nat.le_of_eq hg.symm)) hb); have n6_ := Aside0.mk (blk_below (g := gb425) (o := .cells #[.int .i64 ((rd_T40 t417 x57_3).f0), .int .i64 ((rd_T40 t417 x57_3).f1)] 40 (0, 0)) (by (with_reducible repeat (first | refine blk_drewN ?_ _ | refine blk_drew ?_ | refine blk_alloc ?_ _)); exact BK425.out) hb); have n7_ := Aside0.mk (below_step (by repeat (first | (with_reducible first | exact HB.out | apply below_alloc | apply pw_below_drewN | apply below_drew1 | refine below_set ?_ GE425.out) | exact HB.out)) hb); have n8_ := Aside0.mk (hbox); have n9_ := Aside0.mk ((by rw [hg]; exact (below_size (by repeat (first | (with_reducible first | exact HB.out | apply below_alloc | apply pw_below_drewN | apply below_drew1 | refine below_set ?_ GE425.out) | exact HB.out))) : w.heap.size ≤ gb427)); have n10_ := Aside0.mk ((by rw [hg]; exact (below_size (by repeat (first | (with_reducible first | exact HB.out | apply below_alloc | apply pw_below_drewN | apply below_drew1 | refine below_set ?_ GE425.out) | exact HB.out))) : w.heap.size ≤ gb427)); have n11_ := Aside0.mk ((by rw [hg]; exact Nat.ne_of_lt (blk_lt (g := gb425) (o := .cells #[.int .i64 ((rd_T40 t417 x57_3).f0), .int .i64 ((rd_T40 t417 x57_3).f1)] 40 (0, 0)) (by (with_reducible repeat (first | refine blk_drewN ?_ _ | refine blk_drew ?_ | refine blk_alloc ?_ _)); exact BK425.out)) : gb425 ≠ gb427)); have n12_ := Aside0.mk ((by rw [hg]; exact Nat.ne_of_gt (blk_lt (g := gb425) (o := .cells #[.int .i64 ((rd_T40 t417 x57_3).f0), .int .i64 ((rd_T40 t417 x57_3).f1)] 40 (0, 0)) (by (with_reducible repeat (first | refine blk_drewN ?_ _ | refine blk_drew ?_ | refine blk_alloc ?_ _)); exact BK425.out)) : gb427 ≠ gb425)); clear HO_3; clear HO_9; clear HO_8; clear HO_49; clear HO_55; clear HO_62; clear BK425; clear HB; have HO_3 := n0_; have HO_9 := n1_; have HO_8 := n2_; have HO_49 := n3_; have HO_55 := n4_; have HO_62 := n5_; have BK425 := n6_; have HB := n7_; have BK427 := n8_; have GW427 := n9_; have GE427 := n10_; have NB425_427 := n11_; have NB427_425 := n12_; clear n0_ n1_ n2_ n3_ n4_ n5_ n6_ n7_ n8_ n9_ n10_ n11_ n12_; clear hb hbox hg; have hnb35 := NB427_425.out; have hnc35 := NB425_427.out; have hcz36_0 : w34.cell? ⟨gb427, 0, none⟩ = some (.int .i64 0) := (blk_cell BK427.out 0).trans rfl; have hcz36_1 : w34.cell? ⟨gb427, 1, none⟩ = some (.int .i64 0) := (blk_cell BK427.out 1).trans rfl; have hfz36_0 := blk_frozen BK427.out 0; have hfz36_1 := blk_frozen BK427.out 1))
                                          go_roundg k4
                                          case measure => have := HJ4.out; have := HK2.out; have := HK3.out; have := HK4.out; omega
                                          case rel => exact ⟨(wrap64 (x64_4 + 1)), (by first | rfl | (simp; done) | (simp [*]; done)), H', ⟨by have := HJ4.out; have := HK2.out; have := HK3.out; have := HK4.out; omega⟩, ⟨by (with_reducible repeat (first | apply Kd.N_alloc | apply Kd.N_drewN | apply Kd.N_drew)); exact Kd.N_mono (Kd.N_far (p := ⟨gb427, 1, none⟩) (Kd.N_far (p := ⟨gb427, 0, none⟩) (Kd.N_mono HO_3.out (fun k_ hk => (⟨hk, hk.2⟩ : _ ∧ k_ ≠ gb427))) (fun _ hk => hk.2) (.int .i64 ((rd_T40 t417 x64_4).f0))) (fun _ hk => hk.2) (.int .i64 ((rd_T40 t417 x64_4).f1))) (fun _ hk => ⟨hk.1.1.1, ⟨hk.1.1.2.1, ⟨hk.1.1.2.2.1, ⟨hk.1.1.2.2.2.1, ⟨hk.1.1.2.2.2.2.1, hk.1.1.2.2.2.2.2⟩⟩⟩⟩⟩)⟩, ⟨by (with_reducible repeat (first | apply Kd.R_alloc | apply Kd.R_drewN | apply Kd.R_drew)); exact Kd.R_mono (Kd.R_far (p := ⟨gb427, 1, none⟩) (Kd.R_far (p := ⟨gb427, 0, none⟩) (Kd.R_mono HO_9.out (fun k_ hk => (⟨hk, hk.2⟩ : _ ∧ k_ ≠ gb427))) (fun _ hk => hk.2) (.int .i64 ((rd_T40 t417 x64_4).f0))) (fun _ hk => hk.2) (.int .i64 ((rd_T40 t417 x64_4).f1))) (fun _ hk => ⟨hk.1.1.1, hk.1.1.2⟩)⟩, ⟨by (with_reducible repeat (first | apply Kd.R_alloc | apply Kd.R_drewN | apply Kd.R_drew)); exact Kd.R_mono (Kd.R_far (p := ⟨gb427, 1, none⟩) (Kd.R_far (p := ⟨gb427, 0, none⟩) (Kd.R_mono HO_8.out (fun k_ hk => (⟨hk, hk.2⟩ : _ ∧ k_ ≠ gb427))) (fun _ hk => hk.2) (.int .i64 ((rd_T40 t417 x64_4).f0))) (fun _ hk => hk.2) (.int .i64 ((rd_T40 t417 x64_4).f1))) (fun _ hk => ⟨hk.1.1.1, ⟨hk.1.1.2.1, ⟨hk.1.1.2.2.1, hk.1.1.2.2.2⟩⟩⟩)⟩, ⟨by (with_reducible repeat (first | apply Kd.R_alloc | apply Kd.R_drewN | apply Kd.R_drew)); exact Kd.R_mono (Kd.R_far (p := ⟨gb427, 1, none⟩) (Kd.R_far (p := ⟨gb427, 0, none⟩) (Kd.R_types HO_49.out BK427.out kPQ_ne) (fun _ hk => hk.2) (.int .i64 ((rd_T40 t417 x64_4).f0))) (fun _ hk => hk.2) (.int .i64 ((rd_T40 t417 x64_4).f1))) (fun _ hk => trivial)⟩, ⟨by (with_reducible repeat (first | apply Kd.R_alloc | apply Kd.R_drewN | apply Kd.R_drew)); exact Kd.R_mono (Kd.R_far (p := ⟨gb427, 1, none⟩) (Kd.R_far (p := ⟨gb427, 0, none⟩) (Kd.R_mono HO_55.out (fun k_ hk => (⟨hk, hk.2⟩ : _ ∧ k_ ≠ gb427))) (fun _ hk => hk.2) (.int .i64 ((rd_T40 t417 x64_4).f0))) (fun _ hk => hk.2) (.int .i64 ((rd_T40 t417 x64_4).f1))) (fun _ hk => ⟨hk.1.1.1, hk.1.1.2⟩)⟩, ⟨by (with_reducible repeat (first | apply Kd.R_alloc | apply Kd.R_drewN | apply Kd.R_drew)); exact Kd.R_mono (Kd.R_far (p := ⟨gb427, 1, none⟩) (Kd.R_far (p := ⟨gb427, 0, none⟩) (Kd.R_mono HO_62.out (fun k_ hk => (⟨hk, hk.2⟩ : _ ∧ k_ ≠ gb427))) (fun _ hk => hk.2) (.int .i64 ((rd_T40 t417 x64_4).f0))) (fun _ hk => hk.2) (.int .i64 ((rd_T40 t417 x64_4).f1))) (fun _ hk => ⟨hk.1.1.1, hk.1.1.2⟩)⟩, ⟨by (with_reducible repeat (first | refine blk_drewN ?_ _ | refine blk_drew ?_ | refine blk_alloc ?_ _)); refine blk_far ?_ NB425_427.out _; (with_reducible repeat (first | refine blk_drewN ?_ _ | refine blk_drew ?_ | refine blk_alloc ?_ _)); refine blk_far ?_ NB425_427.out _; (with_reducible repeat (first | refine blk_drewN ?_ _ | refine blk_drew ?_ | refine blk_alloc ?_ _)); exact BK425.out⟩, ⟨by repeat (first | (with_reducible first | exact HB.out | apply below_alloc | apply pw_below_drewN | apply below_drew1 | refine below_set ?_ GE425.out | refine below_set ?_ GE427.out) | exact HB.out)⟩⟩
                                        · rw [if_neg c33] at H
                                          have c33b0 : (x57_3 == x64_4) = false := beq_eq_false_iff_ne.mpr c33
                                          have c33b1 : (x57_3 != x64_4) = true := bne_iff_ne.mpr c33
                                          replace H := Option.bind_eq_some_iff.mp H
                                          obtain ⟨t428, A370, H⟩ := H
                                          replace H : (if t428 = true then (some false) else (corporalaw27_StrategyNests.l2 k4 t403 t414 t417 x57_3 y420 (y420.length : Int) x51_2 t417 (t417.length : Int) x57_3 t417 (t417.length : Int) (wrap64 (x64_4 + 1)) ((rd_T40 t417 x57_3).f0) ((rd_T40 t417 x57_3).f1))) = some r := H
                                          have A37 := Aside0.mk A370
                                          clear A370
                                          by_cases c38 : t428 = true
                                          · subst c38
                                            have H1 : (some false) = some r := by rw [if_pos rfl] at H; exact H
                                            clear H
                                            have H := H1
                                            clear H1
                                            obtain rfl := Option.some.inj H
                                            have p426 : 0 ≤ (x64_4 : Int) := of_decide_eq_true (by first | (with_reducible assumption) | assumption)
                                            have q426 : x64_4 < (t417.length : Int) := of_decide_eq_true (by first | (with_reducible assumption) | assumption)
                                            obtain ⟨ad426, e426, hx426_0, hx426_1⟩ := at_T40 (Kd.R_reads' HO_62.out).2.2 x64_4 p426 q426
                                            obtain rfl : ad424 = ad426 := (by injection e426)
                                            replace p426 := eq_true p426
                                            replace q426 := eq_true q426
                                            go_wp2_with (first | ((with_reducible refine gate_dst (N := 15) rfl ?_); refine box_event ?hg (N := 15) ?hd (cs := #[.int .i64 0, .int .i64 0]) (t := 40) ?hr ?_; (case hd => rfl); (case hg => rfl); (case hr => first | (go_simp; done) | (go_simp; rfl)); intro gb427 hg w39 hbox hb; have n0_ := Aside0.mk (Kd.N_below (Kd.N_elderB (by (with_reducible repeat (first | apply Kd.N_alloc | apply Kd.N_drewN | apply Kd.N_drew)); exact HO_3.out) gb427 (Nat.le_of_eq hg.symm)) hb); have n1_ := Aside0.mk (Kd.R_below (Kd.R_elderB (by (with_reducible repeat (first | apply Kd.R_alloc | apply Kd.R_drewN | apply Kd.R_drew)); exact HO_9.out) gb427 (Nat.le_of_eq hg.symm)) hb); have n2_ := Aside0.mk (Kd.R_below (Kd.R_elderB (by (with_reducible repeat (first | apply Kd.R_alloc | apply Kd.R_drewN | apply Kd.R_drew)); exact HO_8.out) gb427 (Nat.le_of_eq hg.symm)) hb); have n3_ := Aside0.mk (Kd.R_below (by (with_reducible repeat (first | apply Kd.R_alloc | apply Kd.R_drewN | apply Kd.R_drew)); exact HO_49.out) hb); have n4_ := Aside0.mk (Kd.R_below (Kd.R_elderB (by (with_reducible repeat (first | apply Kd.R_alloc | apply Kd.R_drewN | apply Kd.R_drew)); exact HO_55.out) gb427 (Nat.le_of_eq hg.symm)) hb); have n5_ := Aside0.mk (Kd.R_below (Kd.R_elderB (by (with_reducible repeat (first | apply Kd.R_alloc | apply Kd.R_drewN | apply Kd.R_drew)); exact HO_62.out) gb427 (Nat.le_of_eq hg.symm)) hb); have n6_ := Aside0.mk (blk_below (g := gb425) (o := .cells #[.int .i64 ((rd_T40 t417 x57_3).f0), .int .i64 ((rd_T40 t417 x57_3).f1)] 40 (0, 0)) (by (with_reducible repeat (first | refine blk_drewN ?_ _ | refine blk_drew ?_ | refine blk_alloc ?_ _)); exact BK425.out) hb); have n7_ := Aside0.mk (below_step (by repeat (first | (with_reducible first | exact HB.out | apply below_alloc | apply pw_below_drewN | apply below_drew1 | refine below_set ?_ GE425.out) | exact HB.out)) hb); have n8_ := Aside0.mk (hbox); have n9_ := Aside0.mk ((by rw [hg]; exact (below_size (by repeat (first | (with_reducible first | exact HB.out | apply below_alloc | apply pw_below_drewN | apply below_drew1 | refine below_set ?_ GE425.out) | exact HB.out))) : w.heap.size ≤ gb427)); have n10_ := Aside0.mk ((by rw [hg]; exact (below_size (by repeat (first | (with_reducible first | exact HB.out | apply below_alloc | apply pw_below_drewN | apply below_drew1 | refine below_set ?_ GE425.out) | exact HB.out))) : w.heap.size ≤ gb427)); have n11_ := Aside0.mk ((by rw [hg]; exact Nat.ne_of_lt (blk_lt (g := gb425) (o := .cells #[.int .i64 ((rd_T40 t417 x57_3).f0), .int .i64 ((rd_T40 t417 x57_3).f1)] 40 (0, 0)) (by (with_reducible repeat (first | refine blk_drewN ?_ _ | refine blk_drew ?_ | refine blk_alloc ?_ _)); exact BK425.out)) : gb425 ≠ gb427)); have n12_ := Aside0.mk ((by rw [hg]; exact Nat.ne_of_gt (blk_lt (g := gb425) (o := .cells #[.int .i64 ((rd_T40 t417 x57_3).f0), .int .i64 ((rd_T40 t417 x57_3).f1)] 40 (0, 0)) (by (with_reducible repeat (first | refine blk_drewN ?_ _ | refine blk_drew ?_ | refine blk_alloc ?_ _)); exact BK425.out)) : gb427 ≠ gb425)); clear HO_3; clear HO_9; clear HO_8; clear HO_49; clear HO_55; clear HO_62; clear BK425; clear HB; have HO_3 := n0_; have HO_9 := n1_; have HO_8 := n2_; have HO_49 := n3_; have HO_55 := n4_; have HO_62 := n5_; have BK425 := n6_; have HB := n7_; have BK427 := n8_; have GW427 := n9_; have GE427 := n10_; have NB425_427 := n11_; have NB427_425 := n12_; clear n0_ n1_ n2_ n3_ n4_ n5_ n6_ n7_ n8_ n9_ n10_ n11_ n12_; clear hb hbox hg; have hnb40 := NB427_425.out; have hnc40 := NB425_427.out; have hcz41_0 : w39.cell? ⟨gb427, 0, none⟩ = some (.int .i64 0) := (blk_cell BK427.out 0).trans rfl; have hcz41_1 : w39.cell? ⟨gb427, 1, none⟩ = some (.int .i64 0) := (blk_cell BK427.out 1).trans rfl; have hfz41_0 := blk_frozen BK427.out 0; have hfz41_1 := blk_frozen BK427.out 1; have hcz42_0 : w39.cell? ⟨gb425, 0, none⟩ = some (.int .i64 ((rd_T40 t417 x57_3).f0)) := (blk_cell BK425.out 0).trans rfl; have hcz42_1 : w39.cell? ⟨gb425, 1, none⟩ = some (.int .i64 ((rd_T40 t417 x57_3).f1)) := (blk_cell BK425.out 1).trans rfl; have hfz42_0 := blk_frozen BK425.out 0; have hfz42_1 := blk_frozen BK425.out 1) | (go_at_call 20; (with_reducible refine (corporaref27_Contains.calls ((rd_T40 t417 x57_3).f0) ((rd_T40 t417 x57_3).f1) ((rd_T40 t417 x64_4).f0) ((rd_T40 t417 x64_4).f1) true _ A37.out).mono ?_); rintro e w43 ⟨rfl, hb⟩; have n0_ := Aside0.mk (Kd.N_below (by (with_reducible repeat (first | apply Kd.N_alloc | apply Kd.N_drewN | apply Kd.N_drew)); exact (Kd.N_mono (Kd.N_far (p := ⟨gb427, 1, none⟩) (Kd.N_far (p := ⟨gb427, 0, none⟩) (Kd.N_mono HO_3.out (fun k_ hk => (⟨hk, hk.2⟩ : _ ∧ k_ ≠ gb427))) (fun _ hk => hk.2) (.int .i64 ((rd_T40 t417 x64_4).f0))) (fun _ hk => hk.2) (.int .i64 ((rd_T40 t417 x64_4).f1))) (fun _ h_ => h_.1))) hb); have n1_ := Aside0.mk (Kd.R_below (by (with_reducible repeat (first | apply Kd.R_alloc | apply Kd.R_drewN | apply Kd.R_drew)); exact (Kd.R_mono (Kd.R_far (p := ⟨gb427, 1, none⟩) (Kd.R_far (p := ⟨gb427, 0, none⟩) (Kd.R_mono HO_9.out (fun k_ hk => (⟨hk, hk.2⟩ : _ ∧ k_ ≠ gb427))) (fun _ hk => hk.2) (.int .i64 ((rd_T40 t417 x64_4).f0))) (fun _ hk => hk.2) (.int .i64 ((rd_T40 t417 x64_4).f1))) (fun _ h_ => h_.1))) hb); have n2_ := Aside0.mk (Kd.R_below (by (with_reducible repeat (first | apply Kd.R_alloc | apply Kd.R_drewN | apply Kd.R_drew)); exact (Kd.R_mono (Kd.R_far (p := ⟨gb427, 1, none⟩) (Kd.R_far (p := ⟨gb427, 0, none⟩) (Kd.R_mono HO_8.out (fun k_ hk => (⟨hk, hk.2⟩ : _ ∧ k_ ≠ gb427))) (fun _ hk => hk.2) (.int .i64 ((rd_T40 t417 x64_4).f0))) (fun _ hk => hk.2) (.int .i64 ((rd_T40 t417 x64_4).f1))) (fun _ h_ => h_.1))) hb); have n3_ := Aside0.mk (Kd.R_below (by (with_reducible repeat (first | apply Kd.R_alloc | apply Kd.R_drewN | apply Kd.R_drew)); exact (Kd.R_mono (Kd.R_far (p := ⟨gb427, 1, none⟩) (Kd.R_far (p := ⟨gb427, 0, none⟩) (Kd.R_types HO_49.out BK427.out kPQ_ne) (fun _ hk => hk.2) (.int .i64 ((rd_T40 t417 x64_4).f0))) (fun _ hk => hk.2) (.int .i64 ((rd_T40 t417 x64_4).f1))) (fun _ h_ => h_.1))) hb); have n4_ := Aside0.mk (Kd.R_below (by (with_reducible repeat (first | apply Kd.R_alloc | apply Kd.R_drewN | apply Kd.R_drew)); exact (Kd.R_mono (Kd.R_far (p := ⟨gb427, 1, none⟩) (Kd.R_far (p := ⟨gb427, 0, none⟩) (Kd.R_mono HO_55.out (fun k_ hk => (⟨hk, hk.2⟩ : _ ∧ k_ ≠ gb427))) (fun _ hk => hk.2) (.int .i64 ((rd_T40 t417 x64_4).f0))) (fun _ hk => hk.2) (.int .i64 ((rd_T40 t417 x64_4).f1))) (fun _ h_ => h_.1))) hb); have n5_ := Aside0.mk (Kd.R_below (by (with_reducible repeat (first | apply Kd.R_alloc | apply Kd.R_drewN | apply Kd.R_drew)); exact (Kd.R_mono (Kd.R_far (p := ⟨gb427, 1, none⟩) (Kd.R_far (p := ⟨gb427, 0, none⟩) (Kd.R_mono HO_62.out (fun k_ hk => (⟨hk, hk.2⟩ : _ ∧ k_ ≠ gb427))) (fun _ hk => hk.2) (.int .i64 ((rd_T40 t417 x64_4).f0))) (fun _ hk => hk.2) (.int .i64 ((rd_T40 t417 x64_4).f1))) (fun _ h_ => h_.1))) hb); have n6_ := Aside0.mk (blk_below (g := gb425) (o := .cells #[.int .i64 ((rd_T40 t417 x57_3).f0), .int .i64 ((rd_T40 t417 x57_3).f1)] 40 (0, 0)) (by (with_reducible repeat (first | refine blk_drewN ?_ _ | refine blk_drew ?_ | refine blk_alloc ?_ _)); refine blk_far ?_ NB425_427.out _; (with_reducible repeat (first | refine blk_drewN ?_ _ | refine blk_drew ?_ | refine blk_alloc ?_ _)); refine blk_far ?_ NB425_427.out _; (with_reducible repeat (first | refine blk_drewN ?_ _ | refine blk_drew ?_ | refine blk_alloc ?_ _)); exact BK425.out) hb); have n7_ := Aside0.mk (blk_below (g := gb427) (o := .cells #[.int .i64 ((rd_T40 t417 x64_4).f0), .int .i64 ((rd_T40 t417 x64_4).f1)] 40 (0, 0)) (by (with_reducible repeat (first | refine blk_drewN ?_ _ | refine blk_drew ?_ | refine blk_alloc ?_ _)); refine blk_put (cs := #[.int .i64 ((rd_T40 t417 x64_4).f0), .int .i64 0]) ?_ 1 _ rfl; (with_reducible repeat (first | refine blk_drewN ?_ _ | refine blk_drew ?_ | refine blk_alloc ?_ _)); refine blk_put (cs := #[.int .i64 0, .int .i64 0]) ?_ 0 _ rfl; (with_reducible repeat (first | refine blk_drewN ?_ _ | refine blk_drew ?_ | refine blk_alloc ?_ _)); exact BK427.out) hb); have n8_ := Aside0.mk (below_step (by repeat (first | (with_reducible first | exact HB.out | apply below_alloc | apply pw_below_drewN | apply below_drew1 | refine below_set ?_ GE425.out | refine below_set ?_ GE427.out) | exact HB.out)) hb); clear HO_3; clear HO_9; clear HO_8; clear HO_49; clear HO_55; clear HO_62; clear BK425; clear BK427; clear HB; have HO_3 := n0_; have HO_9 := n1_; have HO_8 := n2_; have HO_49 := n3_; have HO_55 := n4_; have HO_62 := n5_; have BK425 := n6_; have BK427 := n7_; have HB := n8_; clear n0_ n1_ n2_ n3_ n4_ n5_ n6_ n7_ n8_; (try clear hb); (try clear hb2); (try clear hk); (try clear hi)))
                                            go_ret
                                            exact ⟨by first | rfl | (simp [errW_none, errW_some] <;> rfl) | (simp [*, errW_none, errW_some] <;> rfl), by repeat (first | (with_reducible first | exact HB.out | apply below_alloc | apply pw_below_drewN | apply below_drew1 | refine below_set ?_ GE425.out | refine below_set ?_ GE427.out) | exact HB.out)⟩
                                          · replace c38 := Bool.eq_false_iff.mpr c38
                                            subst c38
                                            have H1 : (corporalaw27_StrategyNests.l2 k4 t403 t414 t417 x57_3 y420 (y420.length : Int) x51_2 t417 (t417.length : Int) x57_3 t417 (t417.length : Int) (wrap64 (x64_4 + 1)) ((rd_T40 t417 x57_3).f0) ((rd_T40 t417 x57_3).f1)) = some r := by rw [if_neg (show ¬ (false = true) by decide)] at H; exact H
                                            clear H
                                            have H := H1
                                            clear H1
                                            have H' := Aside0.mk H
                                            clear H
                                            have p426 : 0 ≤ (x64_4 : Int) := of_decide_eq_true (by first | (with_reducible assumption) | assumption)
                                            have q426 : x64_4 < (t417.length : Int) := of_decide_eq_true (by first | (with_reducible assumption) | assumption)
                                            obtain ⟨ad426, e426, hx426_0, hx426_1⟩ := at_T40 (Kd.R_reads' HO_62.out).2.2 x64_4 p426 q426
                                            obtain rfl : ad424 = ad426 := (by injection e426)
                                            replace p426 := eq_true p426
                                            replace q426 := eq_true q426
                                            go_wp2_with (first | ((with_reducible refine gate_dst (N := 15) rfl ?_); refine box_event ?hg (N := 15) ?hd (cs := #[.int .i64 0, .int .i64 0]) (t := 40) ?hr ?_; (case hd => rfl); (case hg => rfl); (case hr => first | (go_simp; done) | (go_simp; rfl)); intro gb427 hg w44 hbox hb; have n0_ := Aside0.mk (Kd.N_below (Kd.N_elderB (by (with_reducible repeat (first | apply Kd.N_alloc | apply Kd.N_drewN | apply Kd.N_drew)); exact HO_3.out) gb427 (Nat.le_of_eq hg.symm)) hb); have n1_ := Aside0.mk (Kd.R_below (Kd.R_elderB (by (with_reducible repeat (first | apply Kd.R_alloc | apply Kd.R_drewN | apply Kd.R_drew)); exact HO_9.out) gb427 (Nat.le_of_eq hg.symm)) hb); have n2_ := Aside0.mk (Kd.R_below (Kd.R_elderB (by (with_reducible repeat (first | apply Kd.R_alloc | apply Kd.R_drewN | apply Kd.R_drew)); exact HO_8.out) gb427 (Nat.le_of_eq hg.symm)) hb); have n3_ := Aside0.mk (Kd.R_below (by (with_reducible repeat (first | apply Kd.R_alloc | apply Kd.R_drewN | apply Kd.R_drew)); exact HO_49.out) hb); have n4_ := Aside0.mk (Kd.R_below (Kd.R_elderB (by (with_reducible repeat (first | apply Kd.R_alloc | apply Kd.R_drewN | apply Kd.R_drew)); exact HO_55.out) gb427 (Nat.le_of_eq hg.symm)) hb); have n5_ := Aside0.mk (Kd.R_below (Kd.R_elderB (by (with_reducible repeat (first | apply Kd.R_alloc | apply Kd.R_drewN | apply Kd.R_drew)); exact HO_62.out) gb427 (Nat.le_of_eq hg.symm)) hb); have n6_ := Aside0.mk (blk_below (g := gb425) (o := .cells #[.int .i64 ((rd_T40 t417 x57_3).f0), .int .i64 ((rd_T40 t417 x57_3).f1)] 40 (0, 0)) (by (with_reducible repeat (first | refine blk_drewN ?_ _ | refine blk_drew ?_ | refine blk_alloc ?_ _)); exact BK425.out) hb); have n7_ := Aside0.mk (below_step (by repeat (first | (with_reducible first | exact HB.out | apply below_alloc | apply pw_below_drewN | apply below_drew1 | refine below_set ?_ GE425.out) | exact HB.out)) hb); have n8_ := Aside0.mk (hbox); have n9_ := Aside0.mk ((by rw [hg]; exact (below_size (by repeat (first | (with_reducible first | exact HB.out | apply below_alloc | apply pw_below_drewN | apply below_drew1 | refine below_set ?_ GE425.out) | exact HB.out))) : w.heap.size ≤ gb427)); have n10_ := Aside0.mk ((by rw [hg]; exact (below_size (by repeat (first | (with_reducible first | exact HB.out | apply below_alloc | apply pw_below_drewN | apply below_drew1 | refine below_set ?_ GE425.out) | exact HB.out))) : w.heap.size ≤ gb427)); have n11_ := Aside0.mk ((by rw [hg]; exact Nat.ne_of_lt (blk_lt (g := gb425) (o := .cells #[.int .i64 ((rd_T40 t417 x57_3).f0), .int .i64 ((rd_T40 t417 x57_3).f1)] 40 (0, 0)) (by (with_reducible repeat (first | refine blk_drewN ?_ _ | refine blk_drew ?_ | refine blk_alloc ?_ _)); exact BK425.out)) : gb425 ≠ gb427)); have n12_ := Aside0.mk ((by rw [hg]; exact Nat.ne_of_gt (blk_lt (g := gb425) (o := .cells #[.int .i64 ((rd_T40 t417 x57_3).f0), .int .i64 ((rd_T40 t417 x57_3).f1)] 40 (0, 0)) (by (with_reducible repeat (first | refine blk_drewN ?_ _ | refine blk_drew ?_ | refine blk_alloc ?_ _)); exact BK425.out)) : gb427 ≠ gb425)); clear HO_3; clear HO_9; clear HO_8; clear HO_49; clear HO_55; clear HO_62; clear BK425; clear HB; have HO_3 := n0_; have HO_9 := n1_; have HO_8 := n2_; have HO_49 := n3_; have HO_55 := n4_; have HO_62 := n5_; have BK425 := n6_; have HB := n7_; have BK427 := n8_; have GW427 := n9_; have GE427 := n10_; have NB425_427 := n11_; have NB427_425 := n12_; clear n0_ n1_ n2_ n3_ n4_ n5_ n6_ n7_ n8_ n9_ n10_ n11_ n12_; clear hb hbox hg; have hnb45 := NB427_425.out; have hnc45 := NB425_427.out; have hcz46_0 : w44.cell? ⟨gb427, 0, none⟩ = some (.int .i64 0) := (blk_cell BK427.out 0).trans rfl; have hcz46_1 : w44.cell? ⟨gb427, 1, none⟩ = some (.int .i64 0) := (blk_cell BK427.out 1).trans rfl; have hfz46_0 := blk_frozen BK427.out 0; have hfz46_1 := blk_frozen BK427.out 1; have hcz47_0 : w44.cell? ⟨gb425, 0, none⟩ = some (.int .i64 ((rd_T40 t417 x57_3).f0)) := (blk_cell BK425.out 0).trans rfl; have hcz47_1 : w44.cell? ⟨gb425, 1, none⟩ = some (.int .i64 ((rd_T40 t417 x57_3).f1)) := (blk_cell BK425.out 1).trans rfl; have hfz47_0 := blk_frozen BK425.out 0; have hfz47_1 := blk_frozen BK425.out 1) | (go_at_call 20; (with_reducible refine (corporaref27_Contains.calls ((rd_T40 t417 x57_3).f0) ((rd_T40 t417 x57_3).f1) ((rd_T40 t417 x64_4).f0) ((rd_T40 t417 x64_4).f1) false _ A37.out).mono ?_); rintro e w48 ⟨rfl, hb⟩; have n0_ := Aside0.mk (Kd.N_below (by (with_reducible repeat (first | apply Kd.N_alloc | apply Kd.N_drewN | apply Kd.N_drew)); exact (Kd.N_mono (Kd.N_far (p := ⟨gb427, 1, none⟩) (Kd.N_far (p := ⟨gb427, 0, none⟩) (Kd.N_mono HO_3.out (fun k_ hk => (⟨hk, hk.2⟩ : _ ∧ k_ ≠ gb427))) (fun _ hk => hk.2) (.int .i64 ((rd_T40 t417 x64_4).f0))) (fun _ hk => hk.2) (.int .i64 ((rd_T40 t417 x64_4).f1))) (fun _ h_ => h_.1))) hb); have n1_ := Aside0.mk (Kd.R_below (by (with_reducible repeat (first | apply Kd.R_alloc | apply Kd.R_drewN | apply Kd.R_drew)); exact (Kd.R_mono (Kd.R_far (p := ⟨gb427, 1, none⟩) (Kd.R_far (p := ⟨gb427, 0, none⟩) (Kd.R_mono HO_9.out (fun k_ hk => (⟨hk, hk.2⟩ : _ ∧ k_ ≠ gb427))) (fun _ hk => hk.2) (.int .i64 ((rd_T40 t417 x64_4).f0))) (fun _ hk => hk.2) (.int .i64 ((rd_T40 t417 x64_4).f1))) (fun _ h_ => h_.1))) hb); have n2_ := Aside0.mk (Kd.R_below (by (with_reducible repeat (first | apply Kd.R_alloc | apply Kd.R_drewN | apply Kd.R_drew)); exact (Kd.R_mono (Kd.R_far (p := ⟨gb427, 1, none⟩) (Kd.R_far (p := ⟨gb427, 0, none⟩) (Kd.R_mono HO_8.out (fun k_ hk => (⟨hk, hk.2⟩ : _ ∧ k_ ≠ gb427))) (fun _ hk => hk.2) (.int .i64 ((rd_T40 t417 x64_4).f0))) (fun _ hk => hk.2) (.int .i64 ((rd_T40 t417 x64_4).f1))) (fun _ h_ => h_.1))) hb); have n3_ := Aside0.mk (Kd.R_below (by (with_reducible repeat (first | apply Kd.R_alloc | apply Kd.R_drewN | apply Kd.R_drew)); exact (Kd.R_mono (Kd.R_far (p := ⟨gb427, 1, none⟩) (Kd.R_far (p := ⟨gb427, 0, none⟩) (Kd.R_types HO_49.out BK427.out kPQ_ne) (fun _ hk => hk.2) (.int .i64 ((rd_T40 t417 x64_4).f0))) (fun _ hk => hk.2) (.int .i64 ((rd_T40 t417 x64_4).f1))) (fun _ h_ => h_.1))) hb); have n4_ := Aside0.mk (Kd.R_below (by (with_reducible repeat (first | apply Kd.R_alloc | apply Kd.R_drewN | apply Kd.R_drew)); exact (Kd.R_mono (Kd.R_far (p := ⟨gb427, 1, none⟩) (Kd.R_far (p := ⟨gb427, 0, none⟩) (Kd.R_mono HO_55.out (fun k_ hk => (⟨hk, hk.2⟩ : _ ∧ k_ ≠ gb427))) (fun _ hk => hk.2) (.int .i64 ((rd_T40 t417 x64_4).f0))) (fun _ hk => hk.2) (.int .i64 ((rd_T40 t417 x64_4).f1))) (fun _ h_ => h_.1))) hb); have n5_ := Aside0.mk (Kd.R_below (by (with_reducible repeat (first | apply Kd.R_alloc | apply Kd.R_drewN | apply Kd.R_drew)); exact (Kd.R_mono (Kd.R_far (p := ⟨gb427, 1, none⟩) (Kd.R_far (p := ⟨gb427, 0, none⟩) (Kd.R_mono HO_62.out (fun k_ hk => (⟨hk, hk.2⟩ : _ ∧ k_ ≠ gb427))) (fun _ hk => hk.2) (.int .i64 ((rd_T40 t417 x64_4).f0))) (fun _ hk => hk.2) (.int .i64 ((rd_T40 t417 x64_4).f1))) (fun _ h_ => h_.1))) hb); have n6_ := Aside0.mk (blk_below (g := gb425) (o := .cells #[.int .i64 ((rd_T40 t417 x57_3).f0), .int .i64 ((rd_T40 t417 x57_3).f1)] 40 (0, 0)) (by (with_reducible repeat (first | refine blk_drewN ?_ _ | refine blk_drew ?_ | refine blk_alloc ?_ _)); refine blk_far ?_ NB425_427.out _; (with_reducible repeat (first | refine blk_drewN ?_ _ | refine blk_drew ?_ | refine blk_alloc ?_ _)); refine blk_far ?_ NB425_427.out _; (with_reducible repeat (first | refine blk_drewN ?_ _ | refine blk_drew ?_ | refine blk_alloc ?_ _)); exact BK425.out) hb); have n7_ := Aside0.mk (blk_below (g := gb427) (o := .cells #[.int .i64 ((rd_T40 t417 x64_4).f0), .int .i64 ((rd_T40 t417 x64_4).f1)] 40 (0, 0)) (by (with_reducible repeat (first | refine blk_drewN ?_ _ | refine blk_drew ?_ | refine blk_alloc ?_ _)); refine blk_put (cs := #[.int .i64 ((rd_T40 t417 x64_4).f0), .int .i64 0]) ?_ 1 _ rfl; (with_reducible repeat (first | refine blk_drewN ?_ _ | refine blk_drew ?_ | refine blk_alloc ?_ _)); refine blk_put (cs := #[.int .i64 0, .int .i64 0]) ?_ 0 _ rfl; (with_reducible repeat (first | refine blk_drewN ?_ _ | refine blk_drew ?_ | refine blk_alloc ?_ _)); exact BK427.out) hb); have n8_ := Aside0.mk (below_step (by repeat (first | (with_reducible first | exact HB.out | apply below_alloc | apply pw_below_drewN | apply below_drew1 | refine below_set ?_ GE425.out | refine below_set ?_ GE427.out) | exact HB.out)) hb); clear HO_3; clear HO_9; clear HO_8; clear HO_49; clear HO_55; clear HO_62; clear BK425; clear BK427; clear HB; have HO_3 := n0_; have HO_9 := n1_; have HO_8 := n2_; have HO_49 := n3_; have HO_55 := n4_; have HO_62 := n5_; have BK425 := n6_; have BK427 := n7_; have HB := n8_; clear n0_ n1_ n2_ n3_ n4_ n5_ n6_ n7_ n8_; (try clear hb); (try clear hb2); (try clear hk); (try clear hi)))
                                            go_roundg k4
                                            case measure => have := HJ4.out; have := HK2.out; have := HK3.out; have := HK4.out; omega
                                            case rel => exact ⟨(wrap64 (x64_4 + 1)), (by first | rfl | (simp; done) | (simp [*]; done)), H', ⟨by have := HJ4.out; have := HK2.out; have := HK3.out; have := HK4.out; omega⟩, ⟨by (with_reducible repeat (first | apply Kd.N_alloc | apply Kd.N_drewN | apply Kd.N_drew)); exact Kd.N_mono HO_3.out (fun _ hk => ⟨hk.1.1, ⟨hk.1.2.1, ⟨hk.1.2.2.1, ⟨hk.1.2.2.2.1, ⟨hk.1.2.2.2.2.1, hk.1.2.2.2.2.2⟩⟩⟩⟩⟩)⟩, ⟨by (with_reducible repeat (first | apply Kd.R_alloc | apply Kd.R_drewN | apply Kd.R_drew)); exact Kd.R_mono HO_9.out (fun _ hk => ⟨hk.1.1, hk.1.2⟩)⟩, ⟨by (with_reducible repeat (first | apply Kd.R_alloc | apply Kd.R_drewN | apply Kd.R_drew)); exact Kd.R_mono HO_8.out (fun _ hk => ⟨hk.1.1, ⟨hk.1.2.1, ⟨hk.1.2.2.1, hk.1.2.2.2⟩⟩⟩)⟩, ⟨by (with_reducible repeat (first | apply Kd.R_alloc | apply Kd.R_drewN | apply Kd.R_drew)); exact HO_49.out⟩, ⟨by (with_reducible repeat (first | apply Kd.R_alloc | apply Kd.R_drewN | apply Kd.R_drew)); exact Kd.R_mono HO_55.out (fun _ hk => ⟨hk.1.1, hk.1.2⟩)⟩, ⟨by (with_reducible repeat (first | apply Kd.R_alloc | apply Kd.R_drewN | apply Kd.R_drew)); exact Kd.R_mono HO_62.out (fun _ hk => ⟨hk.1.1, hk.1.2⟩)⟩, ⟨by (with_reducible repeat (first | refine blk_drewN ?_ _ | refine blk_drew ?_ | refine blk_alloc ?_ _)); exact BK425.out⟩, ⟨by repeat (first | (with_reducible first | exact HB.out | apply below_alloc | apply pw_below_drewN | apply below_drew1 | refine below_set ?_ GE425.out | refine below_set ?_ GE427.out) | exact HB.out)⟩⟩
                                      · rw [if_neg c32] at H
                                        exact absurd H (by simp)
                                    · rw [if_neg c31] at H
                                      exact absurd H (by simp)
                                  · rw [if_neg c30] at H
                                    have c30b0 : decide (x64_4 < (t417.length : Int)) = false := decide_eq_false c30
                                    clear c30
                                    have H' := Aside0.mk H
                                    clear H
                                    go_wp2
                                    go_roundg k4
                                    case measure => have := HJ4.out; have := HK2.out; have := HK3.out; have := HK4.out; omega
                                    case rel => exact ⟨(wrap64 (x57_3 + 1)), (by first | rfl | (simp; done) | (simp [*]; done)), H', ⟨by have := HJ4.out; have := HK2.out; have := HK3.out; have := HK4.out; omega⟩, ⟨by (with_reducible repeat (first | apply Kd.N_alloc | apply Kd.N_drewN | apply Kd.N_drew)); exact Kd.N_mono HO_3.out (fun _ hk => ⟨hk.1, ⟨hk.2.1, ⟨hk.2.2.1, hk.2.2.2.1⟩⟩⟩)⟩, ⟨by (with_reducible repeat (first | apply Kd.R_alloc | apply Kd.R_drewN | apply Kd.R_drew)); exact Kd.R_mono HO_9.out (fun _ hk => hk.1)⟩, ⟨by (with_reducible repeat (first | apply Kd.R_alloc | apply Kd.R_drewN | apply Kd.R_drew)); exact Kd.R_mono HO_8.out (fun _ hk => ⟨hk.1, hk.2.1⟩)⟩, ⟨by (with_reducible repeat (first | apply Kd.R_alloc | apply Kd.R_drewN | apply Kd.R_drew)); exact HO_49.out⟩, ⟨by (with_reducible repeat (first | apply Kd.R_alloc | apply Kd.R_drewN | apply Kd.R_drew)); exact Kd.R_mono HO_55.out (fun _ hk => hk.1)⟩, ⟨by repeat (first | (with_reducible first | exact HB.out | apply below_alloc | apply pw_below_drewN | apply below_drew1 | refine below_set ?_ GE425.out) | exact HB.out)⟩⟩
                            · rw [if_neg c27] at H
                              exact absurd H (by simp)
                          · rw [if_neg c26] at H
                            exact absurd H (by simp)
                        · rw [if_neg c25] at H
                          have c25b0 : decide (x57_3 < (t417.length : Int)) = false := decide_eq_false c25
                          clear c25
                          have H' := Aside0.mk H
                          clear H
                          go_wp2
                          go_roundg k3
                          case measure => have := HJ4.out; have := HK2.out; have := HK3.out; omega
                          case rel => exact ⟨(wrap64 (x51_2 + 1)), (by first | rfl | (simp; done) | (simp [*]; done)), H', ⟨by have := HJ4.out; have := HK2.out; have := HK3.out; omega⟩, ⟨by (with_reducible repeat (first | apply Kd.N_alloc | apply Kd.N_drewN | apply Kd.N_drew)); exact Kd.N_mono HO_3.out (fun _ hk => ⟨hk.2.1, ⟨hk.1, hk.2.2.1⟩⟩)⟩, ⟨by (with_reducible repeat (first | apply Kd.R_alloc | apply Kd.R_drewN | apply Kd.R_drew)); exact Kd.R_mono HO_8.out (fun _ hk => hk.1)⟩, ⟨by (with_reducible repeat (first | apply Kd.R_alloc | apply Kd.R_drewN | apply Kd.R_drew)); exact HO_9.out⟩, ⟨by (with_reducible repeat (first | apply Kd.R_alloc | apply Kd.R_drewN | apply Kd.R_drew)); exact HO_49.out⟩, ⟨by repeat (first | (with_reducible first | exact HB.out | apply below_alloc | apply pw_below_drewN | apply below_drew1) | exact HB.out)⟩⟩
                · rw [if_neg c23] at H
                  exact absurd H (by simp)
              · rw [if_neg c22] at H
                exact absurd H (by simp)
            · rw [if_neg c21] at H
              have c21b0 : decide (x51_2 < (y420.length : Int)) = false := decide_eq_false c21
              clear c21
              have H' := Aside0.mk H
              clear H
              go_wp2
              go_loopg [82] k2 (fun kq v82 w' => ∃ (x82_3 : Int), v82 = .int .i64 x82_3 ∧ Aside0 (corporalaw27_StrategyNests.l3 kq t414 t417 t403 (t403.length : Int) x82_3 = some r) ∧ Aside0 (kq ≤ k2) ∧ Aside0 (Kd.R k40 40 w' w.heap.size (fun k_ => some k_ ≠ ((.slice Ao25 t417.length co25) : Value).ownBlock) (.slice Ao24 t414.length co24) t414) ∧ Aside0 (Kd.R k40 40 w' w.heap.size (fun k_ => some k_ ≠ (.slice Ao24 t414.length co24 : Value).ownBlock) (.slice Ao25 t417.length co25) t417) ∧ Aside0 (Kd.N k38 38 w' w.heap.size (fun k_ => some k_ ≠ (.slice Ao24 t414.length co24 : Value).ownBlock ∧ some k_ ≠ ((.slice Ao25 t417.length co25) : Value).ownBlock) (.slice Ao7 t403.length co7) t403) ∧ Aside0 (Below w.heap.size w w'))
              case atStart => exact ⟨(0), (by first | rfl | (simp; done) | (simp [*]; done)), H', ⟨Nat.le_refl _⟩, ⟨by (with_reducible repeat (first | apply Kd.R_alloc | apply Kd.R_drewN | apply Kd.R_drew)); exact HO_8.out⟩, ⟨by (with_reducible repeat (first | apply Kd.R_alloc | apply Kd.R_drewN | apply Kd.R_drew)); exact HO_9.out⟩, ⟨by (with_reducible repeat (first | apply Kd.N_alloc | apply Kd.N_drewN | apply Kd.N_drew)); exact Kd.N_mono HO_3.out (fun _ hk => ⟨hk.1, hk.2.1⟩)⟩, ⟨by repeat (first | (with_reducible first | exact HB.out | apply below_alloc | apply pw_below_drewN | apply below_drew1) | exact HB.out)⟩⟩
              case round =>
                clear H'
                try clear c1
                try clear c2
                try clear p2
                try clear c3
                try clear c4
                try clear p4
                try clear q4
                try clear hx4
                try clear p6
                try clear c7
                try clear c10
                try clear c10b0
                try clear c10b1
                try clear c11
                try clear c12
                try clear c16
                try clear c21
                try clear c21b0
                try clear c22
                try clear c22b0
                try clear c23
                try clear c23b0
                try clear c25
                try clear c25b0
                try clear c26
                try clear c26b0
                try clear c27
                try clear c27b0
                try clear c30
                try clear c30b0
                try clear c31
                try clear c31b0
                try clear c32
                try clear c32b0
                try clear c33
                try clear c33b0
                try clear c33b1
                try clear c35
                try clear c38
                try clear c40
                try clear p42
                try clear q42
                try clear hx42
                try clear c45
                try clear hcz29_0
                try clear hcz29_1
                try clear hcz36_0
                try clear hcz36_1
                try clear hcz41_0
                try clear hcz41_1
                try clear hcz42_0
                try clear hcz42_1
                try clear hcz46_0
                try clear hcz46_1
                try clear hcz47_0
                try clear hcz47_1
                try clear hfz29_0
                try clear hfz29_1
                try clear hfz36_0
                try clear hfz36_1
                try clear hfz41_0
                try clear hfz41_1
                try clear hfz42_0
                try clear hfz42_1
                try clear hfz46_0
                try clear hfz46_1
                try clear hfz47_0
                try clear hfz47_1
                try clear hx423_0
                try clear hx424_0
                try clear hx424_1
                try clear hx426_0
                try clear hx426_1
                try clear p2
                try clear p4
                try clear p423
                try clear p424
                try clear p426
                try clear q4
                try clear q423
                try clear q424
                try clear q426
                obtain ⟨x82_3, rfl, HA, HK3, HO_8, HO_9, HO_80, HB⟩ := hrel
                cases gk with
                | zero => exact absurd HA.out (by simp [corporalaw27_StrategyNests.l3])
                | succ k3 =>
                  have H := HA.out
                  clear HA
                  simp only [corporalaw27_StrategyNests.l3] at H
                  by_cases c49 : x82_3 < (t403.length : Int)
                  · rw [if_pos c49] at H
                    have c49b0 : decide (x82_3 < (t403.length : Int)) = true := decide_eq_true c49
                    clear c49
                    by_cases c50 : 0 ≤ x82_3
                    · rw [if_pos c50] at H
                      have c50b0 : decide (0 ≤ x82_3) = true := decide_eq_true c50
                      clear c50
                      by_cases c51 : x82_3 < (t403.length : Int)
                      · rw [if_pos c51] at H
                        have c51b0 : decide (x82_3 < (t403.length : Int)) = true := decide_eq_true c51
                        clear c51
                        have H' := Aside0.mk H
                        clear H
                        have p430 : 0 ≤ (x82_3 : Int) := of_decide_eq_true (by first | (with_reducible assumption) | assumption)
                        have q430 : x82_3 < (t403.length : Int) := of_decide_eq_true (by first | (with_reducible assumption) | assumption)
                        obtain ⟨ad430, A430_2, c430_2, e430, hx430_0, hx430_1, hx430_2, hl430_2, hi430_2⟩ := at_T38 (Kd.N_reads' HO_80.out).2.2 x82_3 p430 q430
                        cases e430
                        obtain ⟨ce430, hce430, hMe430, hcc430⟩ := Kd.N_get HO_80.out z38 x82_3 p430 (by first | exact q430 | exact of_decide_eq_true (by first | (with_reducible assumption) | assumption) | (have e_ := (Kd.N_reads' HO_80.out).1; omega))
                        obtain ⟨ua430_2, uc430_2, rfl, ul430_2, ge430_2⟩ := k38_openF hMe430
                        have hv430_2 := hcc430 2 _ rfl
                        rw [add_field _ _ 2 (by omega)] at hv430_2
                        replace hv430_2 := Option.some.inj (hv430_2.symm.trans hx430_2)
                        injection hv430_2 with hva_ hvn_ hvc_
                        rw [hva_] at ge430_2
                        rw [hvc_] at ul430_2
                        have HL430_2 := Aside0.mk (show Kd.V (Kd.int .i64) 3 _ w.heap.size _ _ ((rd_T38 t403 x82_3).f2) from Kd.V_mk ul430_2 ge430_2)
                        clear hva_ hvn_ hvc_ ge430_2 ul430_2
                        clear hcc430 hce430
                        have HR430_2 := Aside0.mk hi430_2
                        have HC430_2 := Aside0.mk hl430_2
                        clear hi430_2 hl430_2
                        replace p430 := eq_true p430
                        replace q430 := eq_true q430
                        go_wp2_with (first | ((with_reducible refine gate_dst (N := 17) rfl ?_); refine box_event ?hg (N := 17) ?hd (cs := #[.int .i64 0, .int .i64 0, .slice none 0 0]) (t := 38) ?hr ?_; (case hd => rfl); (case hg => rfl); (case hr => first | (go_simp; done) | (go_simp; rfl)); intro gb431 hg w52 hbox hb; have n0_ := Aside0.mk (Kd.R_below (by (with_reducible repeat (first | apply Kd.R_alloc | apply Kd.R_drewN | apply Kd.R_drew)); exact HO_8.out) hb); have n1_ := Aside0.mk (Kd.R_below (by (with_reducible repeat (first | apply Kd.R_alloc | apply Kd.R_drewN | apply Kd.R_drew)); exact HO_9.out) hb); have n2_ := Aside0.mk (Kd.N_below (Kd.N_elderB (by (with_reducible repeat (first | apply Kd.N_alloc | apply Kd.N_drewN | apply Kd.N_drew)); exact HO_80.out) gb431 (Nat.le_of_eq hg.symm)) hb); have n3_ := Aside0.mk (Kd.V_below (Kd.V_elderB (by (with_reducible repeat (first | apply Kd.V_alloc | apply Kd.V_drewN | apply Kd.V_drew)); exact HL430_2.out) gb431 (Nat.le_of_eq hg.symm)) hb); have n4_ := Aside0.mk (Kd.C_below (by repeat (first | (with_reducible exact HR430_2.out) | (with_reducible refine Kd.C_alloc ?_ _) | (with_reducible refine Kd.C_drewN ?_ _) | (with_reducible refine Kd.C_drew ?_) | exact HR430_2.out)) hb); have n5_ := Aside0.mk (below_step (by repeat (first | (with_reducible first | exact HB.out | apply below_alloc | apply pw_below_drewN | apply below_drew1) | exact HB.out)) hb); have n6_ := Aside0.mk (hbox); have n7_ := Aside0.mk ((by rw [hg]; exact (below_size (by repeat (first | (with_reducible first | exact HB.out | apply below_alloc | apply pw_below_drewN | apply below_drew1) | exact HB.out))) : w.heap.size ≤ gb431)); have n8_ := Aside0.mk ((by rw [hg]; exact (below_size (by repeat (first | (with_reducible first | exact HB.out | apply below_alloc | apply pw_below_drewN | apply below_drew1) | exact HB.out))) : w.heap.size ≤ gb431)); clear HO_8; clear HO_9; clear HO_80; clear HL430_2; clear HR430_2; clear HB; have HO_8 := n0_; have HO_9 := n1_; have HO_80 := n2_; have HL430_2 := n3_; have HR430_2 := n4_; have HB := n5_; have BK431 := n6_; have GW431 := n7_; have GE431 := n8_; clear n0_ n1_ n2_ n3_ n4_ n5_ n6_ n7_ n8_; clear hb hbox hg; have hcz53_0 : w52.cell? ⟨gb431, 0, none⟩ = some (.int .i64 0) := (blk_cell BK431.out 0).trans rfl; have hcz53_1 : w52.cell? ⟨gb431, 1, none⟩ = some (.int .i64 0) := (blk_cell BK431.out 1).trans rfl; have hcz53_2 : w52.cell? ⟨gb431, 2, none⟩ = some (.slice none 0 0) := (blk_cell BK431.out 2).trans rfl; have hfz53_0 := blk_frozen BK431.out 0; have hfz53_1 := blk_frozen BK431.out 1; have hfz53_2 := blk_frozen BK431.out 2) | ((with_reducible refine gate_dst (N := 18) rfl ?_); refine box_event ?hg (N := 18) ?hd (cs := #[.int .i64 0, .int .i64 0]) (t := 40) ?hr ?_; (case hd => rfl); (case hg => rfl); (case hr => first | (go_simp; done) | (go_simp; rfl)); intro gb432 hg w54 hbox hb; have n0_ := Aside0.mk (Kd.R_below (Kd.R_elderB (by (with_reducible repeat (first | apply Kd.R_alloc | apply Kd.R_drewN | apply Kd.R_drew)); exact (Kd.R_mono (Kd.R_far (p := ⟨gb431, 2, none⟩) (Kd.R_far (p := ⟨gb431, 1, none⟩) (Kd.R_far (p := ⟨gb431, 0, none⟩) (Kd.R_types HO_8.out BK431.out (by decide)) (fun _ hk => hk.2) (.int .i64 ((rd_T38 t403 x82_3).f0))) (fun _ hk => hk.2) (.int .i64 ((rd_T38 t403 x82_3).f1))) (fun _ hk => hk.2) (.slice A430_2 ((rd_T38 t403 x82_3).f2).length c430_2)) (fun _ h_ => h_.1))) gb432 (Nat.le_of_eq hg.symm)) hb); have n1_ := Aside0.mk (Kd.R_below (Kd.R_elderB (by (with_reducible repeat (first | apply Kd.R_alloc | apply Kd.R_drewN | apply Kd.R_drew)); exact (Kd.R_mono (Kd.R_far (p := ⟨gb431, 2, none⟩) (Kd.R_far (p := ⟨gb431, 1, none⟩) (Kd.R_far (p := ⟨gb431, 0, none⟩) (Kd.R_types HO_9.out BK431.out (by decide)) (fun _ hk => hk.2) (.int .i64 ((rd_T38 t403 x82_3).f0))) (fun _ hk => hk.2) (.int .i64 ((rd_T38 t403 x82_3).f1))) (fun _ hk => hk.2) (.slice A430_2 ((rd_T38 t403 x82_3).f2).length c430_2)) (fun _ h_ => h_.1))) gb432 (Nat.le_of_eq hg.symm)) hb); have n2_ := Aside0.mk (Kd.N_below (Kd.N_elderB (by (with_reducible repeat (first | apply Kd.N_alloc | apply Kd.N_drewN | apply Kd.N_drew)); exact (Kd.N_mono (Kd.N_far (p := ⟨gb431, 2, none⟩) (Kd.N_far (p := ⟨gb431, 1, none⟩) (Kd.N_far (p := ⟨gb431, 0, none⟩) (Kd.N_mono HO_80.out (fun k_ hk => (⟨hk, hk.2⟩ : _ ∧ k_ ≠ gb431))) (fun _ hk => hk.2) (.int .i64 ((rd_T38 t403 x82_3).f0))) (fun _ hk => hk.2) (.int .i64 ((rd_T38 t403 x82_3).f1))) (fun _ hk => hk.2) (.slice A430_2 ((rd_T38 t403 x82_3).f2).length c430_2)) (fun _ h_ => h_.1))) gb432 (Nat.le_of_eq hg.symm)) hb); have n3_ := Aside0.mk (Kd.V_below (Kd.V_elderB (by (with_reducible repeat (first | apply Kd.V_alloc | apply Kd.V_drewN | apply Kd.V_drew)); exact (Kd.V_mono (Kd.V_far (p := ⟨gb431, 2, none⟩) (Kd.V_far (p := ⟨gb431, 1, none⟩) (Kd.V_far (p := ⟨gb431, 0, none⟩) (Kd.V_mono HL430_2.out (fun k_ hk => (⟨hk, hk.2⟩ : _ ∧ k_ ≠ gb431))) (fun _ hk => hk.2) (.int .i64 ((rd_T38 t403 x82_3).f0))) (fun _ hk => hk.2) (.int .i64 ((rd_T38 t403 x82_3).f1))) (fun _ hk => hk.2) (.slice A430_2 ((rd_T38 t403 x82_3).f2).length c430_2)) (fun _ h_ => h_.1))) gb432 (Nat.le_of_eq hg.symm)) hb); have n4_ := Aside0.mk (Kd.C_below ((Kd.V_reads' (by (with_reducible repeat (first | apply Kd.V_alloc | apply Kd.V_drewN | apply Kd.V_drew)); exact (Kd.V_mono (Kd.V_far (p := ⟨gb431, 2, none⟩) (Kd.V_far (p := ⟨gb431, 1, none⟩) (Kd.V_far (p := ⟨gb431, 0, none⟩) (Kd.V_mono HL430_2.out (fun k_ hk => (⟨hk, hk.2⟩ : _ ∧ k_ ≠ gb431))) (fun _ hk => hk.2) (.int .i64 ((rd_T38 t403 x82_3).f0))) (fun _ hk => hk.2) (.int .i64 ((rd_T38 t403 x82_3).f1))) (fun _ hk => hk.2) (.slice A430_2 ((rd_T38 t403 x82_3).f2).length c430_2)) (fun _ h_ => h_.1)))).2.2) hb); have n5_ := Aside0.mk (blk_below (g := gb431) (o := .cells #[.int .i64 ((rd_T38 t403 x82_3).f0), .int .i64 ((rd_T38 t403 x82_3).f1), .slice A430_2 ((rd_T38 t403 x82_3).f2).length c430_2] 38 (0, 0)) (by (with_reducible repeat (first | refine blk_drewN ?_ _ | refine blk_drew ?_ | refine blk_alloc ?_ _)); refine blk_put (cs := #[.int .i64 ((rd_T38 t403 x82_3).f0), .int .i64 ((rd_T38 t403 x82_3).f1), .slice none 0 0]) ?_ 2 _ rfl; (with_reducible repeat (first | refine blk_drewN ?_ _ | refine blk_drew ?_ | refine blk_alloc ?_ _)); refine blk_put (cs := #[.int .i64 ((rd_T38 t403 x82_3).f0), .int .i64 0, .slice none 0 0]) ?_ 1 _ rfl; (with_reducible repeat (first | refine blk_drewN ?_ _ | refine blk_drew ?_ | refine blk_alloc ?_ _)); refine blk_put (cs := #[.int .i64 0, .int .i64 0, .slice none 0 0]) ?_ 0 _ rfl; (with_reducible repeat (first | refine blk_drewN ?_ _ | refine blk_drew ?_ | refine blk_alloc ?_ _)); exact BK431.out) hb); have n6_ := Aside0.mk (below_step (by repeat (first | (with_reducible first | exact HB.out | apply below_alloc | apply pw_below_drewN | apply below_drew1 | refine below_set ?_ GE431.out) | exact HB.out)) hb); have n7_ := Aside0.mk (hbox); have n8_ := Aside0.mk ((by rw [hg]; exact (below_size (by repeat (first | (with_reducible first | exact HB.out | apply below_alloc | apply pw_below_drewN | apply below_drew1 | refine below_set ?_ GE431.out) | exact HB.out))) : w.heap.size ≤ gb432)); have n9_ := Aside0.mk ((by rw [hg]; exact (below_size (by repeat (first | (with_reducible first | exact HB.out | apply below_alloc | apply pw_below_drewN | apply below_drew1 | refine below_set ?_ GE431.out) | exact HB.out))) : w.heap.size ≤ gb432)); have n10_ := Aside0.mk ((by rw [hg]; exact Nat.ne_of_lt (blk_lt (g := gb431) (o := .cells #[.int .i64 ((rd_T38 t403 x82_3).f0), .int .i64 ((rd_T38 t403 x82_3).f1), .slice A430_2 ((rd_T38 t403 x82_3).f2).length c430_2] 38 (0, 0)) (by (with_reducible repeat (first | refine blk_drewN ?_ _ | refine blk_drew ?_ | refine blk_alloc ?_ _)); refine blk_put (cs := #[.int .i64 ((rd_T38 t403 x82_3).f0), .int .i64 ((rd_T38 t403 x82_3).f1), .slice none 0 0]) ?_ 2 _ rfl; (with_reducible repeat (first | refine blk_drewN ?_ _ | refine blk_drew ?_ | refine blk_alloc ?_ _)); refine blk_put (cs := #[.int .i64 ((rd_T38 t403 x82_3).f0), .int .i64 0, .slice none 0 0]) ?_ 1 _ rfl; (with_reducible repeat (first | refine blk_drewN ?_ _ | refine blk_drew ?_ | refine blk_alloc ?_ _)); refine blk_put (cs := #[.int .i64 0, .int .i64 0, .slice none 0 0]) ?_ 0 _ rfl; (with_reducible repeat (first | refine blk_drewN ?_ _ | refine blk_drew ?_ | refine blk_alloc ?_ _)); exact BK431.out)) : gb431 ≠ gb432)); have n11_ := Aside0.mk ((by rw [hg]; exact Nat.ne_of_gt (blk_lt (g := gb431) (o := .cells #[.int .i64 ((rd_T38 t403 x82_3).f0), .int .i64 ((rd_T38 t403 x82_3).f1), .slice A430_2 ((rd_T38 t403 x82_3).f2).length c430_2] 38 (0, 0)) (by (with_reducible repeat (first | refine blk_drewN ?_ _ | refine blk_drew ?_ | refine blk_alloc ?_ _)); refine blk_put (cs := #[.int .i64 ((rd_T38 t403 x82_3).f0), .int .i64 ((rd_T38 t403 x82_3).f1), .slice none 0 0]) ?_ 2 _ rfl; (with_reducible repeat (first | refine blk_drewN ?_ _ | refine blk_drew ?_ | refine blk_alloc ?_ _)); refine blk_put (cs := #[.int .i64 ((rd_T38 t403 x82_3).f0), .int .i64 0, .slice none 0 0]) ?_ 1 _ rfl; (with_reducible repeat (first | refine blk_drewN ?_ _ | refine blk_drew ?_ | refine blk_alloc ?_ _)); refine blk_put (cs := #[.int .i64 0, .int .i64 0, .slice none 0 0]) ?_ 0 _ rfl; (with_reducible repeat (first | refine blk_drewN ?_ _ | refine blk_drew ?_ | refine blk_alloc ?_ _)); exact BK431.out)) : gb432 ≠ gb431)); clear HO_8; clear HO_9; clear HO_80; clear HL430_2; clear HR430_2; clear BK431; clear HB; have HO_8 := n0_; have HO_9 := n1_; have HO_80 := n2_; have HL430_2 := n3_; have HR430_2 := n4_; have BK431 := n5_; have HB := n6_; have BK432 := n7_; have GW432 := n8_; have GE432 := n9_; have NB431_432 := n10_; have NB432_431 := n11_; clear n0_ n1_ n2_ n3_ n4_ n5_ n6_ n7_ n8_ n9_ n10_ n11_; clear hb hbox hg; have hnb55 := NB432_431.out; have hnc55 := NB431_432.out; have hcz56_0 : w54.cell? ⟨gb432, 0, none⟩ = some (.int .i64 0) := (blk_cell BK432.out 0).trans rfl; have hcz56_1 : w54.cell? ⟨gb432, 1, none⟩ = some (.int .i64 0) := (blk_cell BK432.out 1).trans rfl; have hfz56_0 := blk_frozen BK432.out 0; have hfz56_1 := blk_frozen BK432.out 1))
                        go_loopg [19, 93] k3 (fun kq v19 v93 w' => ∃ (x19_4 : Bool) (x93_4 : Int), v19 = .bool x19_4 ∧ v93 = .int .i64 x93_4 ∧ Aside0 (corporalaw27_StrategyNests.l4 kq t414 t417 x19_4 false t403 (t403.length : Int) x82_3 t414 (t414.length : Int) x93_4 ((rd_T38 t403 x82_3).f0) ((rd_T38 t403 x82_3).f1) = some r) ∧ Aside0 (kq ≤ k3) ∧ Aside0 (Kd.R k40 40 w' w.heap.size (fun k_ => some k_ ≠ ((.slice Ao25 t417.length co25) : Value).ownBlock ∧ k_ ≠ gb432) (.slice Ao24 t414.length co24) t414) ∧ Aside0 (Kd.R k40 40 w' w.heap.size (fun k_ => some k_ ≠ ((.slice Ao24 t414.length co24) : Value).ownBlock ∧ some k_ ≠ ((.slice Ao24 t414.length co24) : Value).ownBlock ∧ k_ ≠ gb432) (.slice Ao25 t417.length co25) t417) ∧ Aside0 (Kd.N k38 38 w' w.heap.size (fun k_ => some k_ ≠ ((.slice Ao24 t414.length co24) : Value).ownBlock ∧ some k_ ≠ ((.slice Ao25 t417.length co25) : Value).ownBlock ∧ some k_ ≠ ((.slice Ao24 t414.length co24) : Value).ownBlock ∧ k_ ≠ gb431 ∧ k_ ≠ gb432) (.slice (some ad430) t403.length co7) t403) ∧ Aside0 (Kd.R k40 40 w' w.heap.size (fun k_ => some k_ ≠ ((.slice Ao25 t417.length co25) : Value).ownBlock ∧ k_ ≠ gb432) (.slice Ao24 t414.length co24) t414) ∧ Aside0 (w'.heap[gb431]? = some (.cells #[.int .i64 ((rd_T38 t403 x82_3).f0), .int .i64 ((rd_T38 t403 x82_3).f1), (.slice A430_2 ((rd_T38 t403 x82_3).f2).length c430_2)] 38 (0, 0))) ∧ Aside0 (w'.heap[gb432]? = some (.cells #[.int .i64 ((rd_T38 t403 x82_3).f0), .int .i64 ((rd_T38 t403 x82_3).f1)] 40 (0, 0))) ∧ Aside0 (Below w.heap.size w w'))
                        case atStart => exact ⟨(false), (0), (by first | rfl | (simp; done) | (simp [*]; done)), (by first | rfl | (simp; done) | (simp [*]; done)), H', ⟨Nat.le_refl _⟩, ⟨by (with_reducible repeat (first | apply Kd.R_alloc | apply Kd.R_drewN | apply Kd.R_drew)); exact Kd.R_mono (Kd.R_far (p := ⟨gb432, 1, none⟩) (Kd.R_far (p := ⟨gb432, 0, none⟩) (Kd.R_mono HO_8.out (fun k_ hk => (⟨hk, hk.2⟩ : _ ∧ k_ ≠ gb432))) (fun _ hk => hk.2) (.int .i64 ((rd_T38 t403 x82_3).f0))) (fun _ hk => hk.2) (.int .i64 ((rd_T38 t403 x82_3).f1))) (fun _ hk => ⟨hk.1.1, hk.1.2⟩)⟩, ⟨by (with_reducible repeat (first | apply Kd.R_alloc | apply Kd.R_drewN | apply Kd.R_drew)); exact Kd.R_mono (Kd.R_far (p := ⟨gb432, 1, none⟩) (Kd.R_far (p := ⟨gb432, 0, none⟩) (Kd.R_mono HO_9.out (fun k_ hk => (⟨hk, hk.2⟩ : _ ∧ k_ ≠ gb432))) (fun _ hk => hk.2) (.int .i64 ((rd_T38 t403 x82_3).f0))) (fun _ hk => hk.2) (.int .i64 ((rd_T38 t403 x82_3).f1))) (fun _ hk => ⟨hk.1.1, ⟨hk.1.1, hk.1.2⟩⟩)⟩, ⟨by (with_reducible repeat (first | apply Kd.N_alloc | apply Kd.N_drewN | apply Kd.N_drew)); exact Kd.N_mono (Kd.N_far (p := ⟨gb432, 1, none⟩) (Kd.N_far (p := ⟨gb432, 0, none⟩) (Kd.N_mono HO_80.out (fun k_ hk => (⟨hk, hk.2⟩ : _ ∧ k_ ≠ gb432))) (fun _ hk => hk.2) (.int .i64 ((rd_T38 t403 x82_3).f0))) (fun _ hk => hk.2) (.int .i64 ((rd_T38 t403 x82_3).f1))) (fun _ hk => ⟨hk.1.1.1.1, ⟨hk.1.1.1.2, ⟨hk.1.1.1.1, ⟨hk.1.1.2, hk.1.2⟩⟩⟩⟩)⟩, ⟨by (with_reducible repeat (first | apply Kd.R_alloc | apply Kd.R_drewN | apply Kd.R_drew)); exact Kd.R_mono (Kd.R_far (p := ⟨gb432, 1, none⟩) (Kd.R_far (p := ⟨gb432, 0, none⟩) (Kd.R_mono HO_8.out (fun k_ hk => (⟨hk, hk.2⟩ : _ ∧ k_ ≠ gb432))) (fun _ hk => hk.2) (.int .i64 ((rd_T38 t403 x82_3).f0))) (fun _ hk => hk.2) (.int .i64 ((rd_T38 t403 x82_3).f1))) (fun _ hk => ⟨hk.1.1, hk.1.2⟩)⟩, ⟨by (with_reducible repeat (first | refine blk_drewN ?_ _ | refine blk_drew ?_ | refine blk_alloc ?_ _)); refine blk_far ?_ NB431_432.out _; (with_reducible repeat (first | refine blk_drewN ?_ _ | refine blk_drew ?_ | refine blk_alloc ?_ _)); refine blk_far ?_ NB431_432.out _; (with_reducible repeat (first | refine blk_drewN ?_ _ | refine blk_drew ?_ | refine blk_alloc ?_ _)); exact BK431.out⟩, ⟨by (with_reducible repeat (first | refine blk_drewN ?_ _ | refine blk_drew ?_ | refine blk_alloc ?_ _)); refine blk_put (cs := #[.int .i64 ((rd_T38 t403 x82_3).f0), .int .i64 0]) ?_ 1 _ rfl; (with_reducible repeat (first | refine blk_drewN ?_ _ | refine blk_drew ?_ | refine blk_alloc ?_ _)); refine blk_put (cs := #[.int .i64 0, .int .i64 0]) ?_ 0 _ rfl; (with_reducible repeat (first | refine blk_drewN ?_ _ | refine blk_drew ?_ | refine blk_alloc ?_ _)); exact BK432.out⟩, ⟨by repeat (first | (with_reducible first | exact HB.out | apply below_alloc | apply pw_below_drewN | apply below_drew1 | refine below_set ?_ GE431.out | refine below_set ?_ GE432.out) | exact HB.out)⟩⟩
                        case round =>
                          clear H'
                          try clear c1
                          try clear c2
                          try clear p2
                          try clear c3
                          try clear c4
                          try clear p4
                          try clear q4
                          try clear hx4
                          try clear c5
                          try clear p6
                          try clear c7
                          try clear c10
                          try clear c10b0
                          try clear c10b1
                          try clear c11
                          try clear c12
                          try clear c16
                          try clear c21
                          try clear c21b0
                          try clear c22
                          try clear c22b0
                          try clear c23
                          try clear c23b0
                          try clear c25
                          try clear c25b0
                          try clear c26
                          try clear c26b0
                          try clear c27
                          try clear c27b0
                          try clear c30
                          try clear c30b0
                          try clear c31
                          try clear c31b0
                          try clear c32
                          try clear c32b0
                          try clear c33
                          try clear c33b0
                          try clear c33b1
                          try clear c35
                          try clear c38
                          try clear c40
                          try clear p42
                          try clear q42
                          try clear hx42
                          try clear c43
                          try clear p43
                          try clear q43
                          try clear hx43
                          try clear c45
                          try clear c49
                          try clear c49b0
                          try clear c50
                          try clear c50b0
                          try clear c51
                          try clear c51b0
                          try clear c55
                          try clear hcz29_0
                          try clear hcz29_1
                          try clear hcz36_0
                          try clear hcz36_1
                          try clear hcz41_0
                          try clear hcz41_1
                          try clear hcz42_0
                          try clear hcz42_1
                          try clear hcz46_0
                          try clear hcz46_1
                          try clear hcz47_0
                          try clear hcz47_1
                          try clear hcz53_0
                          try clear hcz53_1
                          try clear hcz53_2
                          try clear hcz56_0
                          try clear hcz56_1
                          try clear hfz29_0
                          try clear hfz29_1
                          try clear hfz36_0
                          try clear hfz36_1
                          try clear hfz41_0
                          try clear hfz41_1
                          try clear hfz42_0
                          try clear hfz42_1
                          try clear hfz46_0
                          try clear hfz46_1
                          try clear hfz47_0
                          try clear hfz47_1
                          try clear hfz53_0
                          try clear hfz53_1
                          try clear hfz53_2
                          try clear hfz56_0
                          try clear hfz56_1
                          try clear hx423_0
                          try clear hx424_0
                          try clear hx424_1
                          try clear hx426_0
                          try clear hx426_1
                          try clear hx430_0
                          try clear hx430_1
                          try clear hx430_2
                          try clear p2
                          try clear p4
                          try clear p42
                          try clear p423
                          try clear p424
                          try clear p426
                          try clear p430
                          try clear p6
                          try clear q4
                          try clear q42
                          try clear q423
                          try clear q424
                          try clear q426
                          try clear q430
                          obtain ⟨x19_4, x93_4, rfl, rfl, HA, HK4, HO_8, HO_9, HO_80, HO_91, BK431, BK432, HB⟩ := hrel
                          cases gk with
                          | zero => exact absurd HA.out (by simp [corporalaw27_StrategyNests.l4])
                          | succ k4 =>
                            have H := HA.out
                            clear HA
                            simp only [corporalaw27_StrategyNests.l4] at H
                            by_cases c58 : x93_4 < (t414.length : Int)
                            · rw [if_pos c58] at H
                              have c58b0 : decide (x93_4 < (t414.length : Int)) = true := decide_eq_true c58
                              clear c58
                              by_cases c59 : 0 ≤ x93_4
                              · rw [if_pos c59] at H
                                have c59b0 : decide (0 ≤ x93_4) = true := decide_eq_true c59
                                clear c59
                                by_cases c60 : x93_4 < (t414.length : Int)
                                · rw [if_pos c60] at H
                                  have c60b0 : decide (x93_4 < (t414.length : Int)) = true := decide_eq_true c60
                                  clear c60
                                  by_cases c61 : x19_4 = true
                                  · subst c61
                                    have H1 : (corporalaw27_StrategyNests.l4 k4 t414 t417 true false t403 (t403.length : Int) x82_3 t414 (t414.length : Int) (wrap64 (x93_4 + 1)) ((rd_T38 t403 x82_3).f0) ((rd_T38 t403 x82_3).f1)) = some r := by rw [if_pos rfl] at H; exact H
                                    clear H
                                    have H := H1
                                    clear H1
                                    have H' := Aside0.mk H
                                    clear H
                                    have p433 : 0 ≤ (x93_4 : Int) := of_decide_eq_true (by first | (with_reducible assumption) | assumption)
                                    have q433 : x93_4 < (t414.length : Int) := of_decide_eq_true (by first | (with_reducible assumption) | assumption)
                                    obtain ⟨ad433, e433, hx433_0, hx433_1⟩ := at_T40 (Kd.R_reads' HO_91.out).2.2 x93_4 p433 q433
                                    cases e433
                                    replace p433 := eq_true p433
                                    replace q433 := eq_true q433
                                    go_wp2_with (first | ((with_reducible refine gate_dst (N := 22) rfl ?_); refine box_event ?hg (N := 22) ?hd (cs := #[.int .i64 0, .int .i64 0]) (t := 40) ?hr ?_; (case hd => rfl); (case hg => rfl); (case hr => first | (go_simp; done) | (go_simp; rfl)); intro gb434 hg w62 hbox hb; have n0_ := Aside0.mk (Kd.R_below (Kd.R_elderB (by (with_reducible repeat (first | apply Kd.R_alloc | apply Kd.R_drewN | apply Kd.R_drew)); exact HO_8.out) gb434 (Nat.le_of_eq hg.symm)) hb); have n1_ := Aside0.mk (Kd.R_below (Kd.R_elderB (by (with_reducible repeat (first | apply Kd.R_alloc | apply Kd.R_drewN | apply Kd.R_drew)); exact HO_9.out) gb434 (Nat.le_of_eq hg.symm)) hb); have n2_ := Aside0.mk (Kd.N_below (Kd.N_elderB (by (with_reducible repeat (first | apply Kd.N_alloc | apply Kd.N_drewN | apply Kd.N_drew)); exact HO_80.out) gb434 (Nat.le_of_eq hg.symm)) hb); have n3_ := Aside0.mk (Kd.R_below (Kd.R_elderB (by (with_reducible repeat (first | apply Kd.R_alloc | apply Kd.R_drewN | apply Kd.R_drew)); exact HO_91.out) gb434 (Nat.le_of_eq hg.symm)) hb); have n4_ := Aside0.mk (blk_below (g := gb431) (o := .cells #[.int .i64 ((rd_T38 t403 x82_3).f0), .int .i64 ((rd_T38 t403 x82_3).f1), .slice A430_2 ((rd_T38 t403 x82_3).f2).length c430_2] 38 (0, 0)) (by (with_reducible repeat (first | refine blk_drewN ?_ _ | refine blk_drew ?_ | refine blk_alloc ?_ _)); exact BK431.out) hb); have n5_ := Aside0.mk (blk_below (g := gb432) (o := .cells #[.int .i64 ((rd_T38 t403 x82_3).f0), .int .i64 ((rd_T38 t403 x82_3).f1)] 40 (0, 0)) (by (with_reducible repeat (first | refine blk_drewN ?_ _ | refine blk_drew ?_ | refine blk_alloc ?_ _)); exact BK432.out) hb); have n6_ := Aside0.mk (below_step (by repeat (first | (with_reducible first | exact HB.out | apply below_alloc | apply pw_below_drewN | apply below_drew1 | refine below_set ?_ GE431.out | refine below_set ?_ GE432.out) | exact HB.out)) hb); have n7_ := Aside0.mk (hbox); have n8_ := Aside0.mk ((by rw [hg]; exact (below_size (by repeat (first | (with_reducible first | exact HB.out | apply below_alloc | apply pw_below_drewN | apply below_drew1 | refine below_set ?_ GE431.out | refine below_set ?_ GE432.out) | exact HB.out))) : w.heap.size ≤ gb434)); have n9_ := Aside0.mk ((by rw [hg]; exact (below_size (by repeat (first | (with_reducible first | exact HB.out | apply below_alloc | apply pw_below_drewN | apply below_drew1 | refine below_set ?_ GE431.out | refine below_set ?_ GE432.out) | exact HB.out))) : w.heap.size ≤ gb434)); have n10_ := Aside0.mk ((by rw [hg]; exact Nat.ne_of_lt (blk_lt (g := gb431) (o := .cells #[.int .i64 ((rd_T38 t403 x82_3).f0), .int .i64 ((rd_T38 t403 x82_3).f1), .slice A430_2 ((rd_T38 t403 x82_3).f2).length c430_2] 38 (0, 0)) (by (with_reducible repeat (first | refine blk_drewN ?_ _ | refine blk_drew ?_ | refine blk_alloc ?_ _)); exact BK431.out)) : gb431 ≠ gb434)); have n11_ := Aside0.mk ((by rw [hg]; exact Nat.ne_of_gt (blk_lt (g := gb431) (o := .cells #[.int .i64 ((rd_T38 t403 x82_3).f0), .int .i64 ((rd_T38 t403 x82_3).f1), .slice A430_2 ((rd_T38 t403 x82_3).f2).length c430_2] 38 (0, 0)) (by (with_reducible repeat (first | refine blk_drewN ?_ _ | refine blk_drew ?_ | refine blk_alloc ?_ _)); exact BK431.out)) : gb434 ≠ gb431)); have n12_ := Aside0.mk ((by rw [hg]; exact Nat.ne_of_lt (blk_lt (g := gb432) (o := .cells #[.int .i64 ((rd_T38 t403 x82_3).f0), .int .i64 ((rd_T38 t403 x82_3).f1)] 40 (0, 0)) (by (with_reducible repeat (first | refine blk_drewN ?_ _ | refine blk_drew ?_ | refine blk_alloc ?_ _)); exact BK432.out)) : gb432 ≠ gb434)); have n13_ := Aside0.mk ((by rw [hg]; exact Nat.ne_of_gt (blk_lt (g := gb432) (o := .cells #[.int .i64 ((rd_T38 t403 x82_3).f0), .int .i64 ((rd_T38 t403 x82_3).f1)] 40 (0, 0)) (by (with_reducible repeat (first | refine blk_drewN ?_ _ | refine blk_drew ?_ | refine blk_alloc ?_ _)); exact BK432.out)) : gb434 ≠ gb432)); clear HO_8; clear HO_9; clear HO_80; clear HO_91; clear BK431; clear BK432; clear HB; have HO_8 := n0_; have HO_9 := n1_; have HO_80 := n2_; have HO_91 := n3_; have BK431 := n4_; have BK432 := n5_; have HB := n6_; have BK434 := n7_; have GW434 := n8_; have GE434 := n9_; have NB431_434 := n10_; have NB434_431 := n11_; have NB432_434 := n12_; have NB434_432 := n13_; clear n0_ n1_ n2_ n3_ n4_ n5_ n6_ n7_ n8_ n9_ n10_ n11_ n12_ n13_; clear hb hbox hg; have hnb63 := NB434_431.out; have hnc63 := NB431_434.out; have hnb64 := NB434_432.out; have hnc64 := NB432_434.out; have hcz65_0 : w62.cell? ⟨gb434, 0, none⟩ = some (.int .i64 0) := (blk_cell BK434.out 0).trans rfl; have hcz65_1 : w62.cell? ⟨gb434, 1, none⟩ = some (.int .i64 0) := (blk_cell BK434.out 1).trans rfl; have hfz65_0 := blk_frozen BK434.out 0; have hfz65_1 := blk_frozen BK434.out 1))
                                    go_roundg k4
                                    case measure => have := HJ4.out; have := HK2.out; have := HK3.out; have := HK4.out; omega
                                    case rel => exact ⟨(true), (wrap64 (x93_4 + 1)), (by first | rfl | (simp; done) | (simp [*]; done)), (by first | rfl | (simp; done) | (simp [*]; done)), H', ⟨by have := HJ4.out; have := HK2.out; have := HK3.out; have := HK4.out; omega⟩, ⟨by (with_reducible repeat (first | apply Kd.R_alloc | apply Kd.R_drewN | apply Kd.R_drew)); exact Kd.R_mono (Kd.R_far (p := ⟨gb434, 1, none⟩) (Kd.R_far (p := ⟨gb434, 0, none⟩) (Kd.R_mono HO_8.out (fun k_ hk => (⟨hk, hk.2⟩ : _ ∧ k_ ≠ gb434))) (fun _ hk => hk.2) (.int .i64 ((rd_T40 t414 x93_4).f0))) (fun _ hk => hk.2) (.int .i64 ((rd_T40 t414 x93_4).f1))) (fun _ hk => ⟨hk.1.1.1, hk.1.1.2⟩)⟩, ⟨by (with_reducible repeat (first | apply Kd.R_alloc | apply Kd.R_drewN | apply Kd.R_drew)); exact Kd.R_mono (Kd.R_far (p := ⟨gb434, 1, none⟩) (Kd.R_far (p := ⟨gb434, 0, none⟩) (Kd.R_mono HO_9.out (fun k_ hk => (⟨hk, hk.2⟩ : _ ∧ k_ ≠ gb434))) (fun _ hk => hk.2) (.int .i64 ((rd_T40 t414 x93_4).f0))) (fun _ hk => hk.2) (.int .i64 ((rd_T40 t414 x93_4).f1))) (fun _ hk => ⟨hk.1.1.1, ⟨hk.1.1.2.1, hk.1.1.2.2⟩⟩)⟩, ⟨by (with_reducible repeat (first | apply Kd.N_alloc | apply Kd.N_drewN | apply Kd.N_drew)); exact Kd.N_mono (Kd.N_far (p := ⟨gb434, 1, none⟩) (Kd.N_far (p := ⟨gb434, 0, none⟩) (Kd.N_mono HO_80.out (fun k_ hk => (⟨hk, hk.2⟩ : _ ∧ k_ ≠ gb434))) (fun _ hk => hk.2) (.int .i64 ((rd_T40 t414 x93_4).f0))) (fun _ hk => hk.2) (.int .i64 ((rd_T40 t414 x93_4).f1))) (fun _ hk => ⟨hk.1.1.1, ⟨hk.1.1.2.1, ⟨hk.1.1.2.2.1, ⟨hk.1.1.2.2.2.1, hk.1.1.2.2.2.2⟩⟩⟩⟩)⟩, ⟨by (with_reducible repeat (first | apply Kd.R_alloc | apply Kd.R_drewN | apply Kd.R_drew)); exact Kd.R_mono (Kd.R_far (p := ⟨gb434, 1, none⟩) (Kd.R_far (p := ⟨gb434, 0, none⟩) (Kd.R_mono HO_91.out (fun k_ hk => (⟨hk, hk.2⟩ : _ ∧ k_ ≠ gb434))) (fun _ hk => hk.2) (.int .i64 ((rd_T40 t414 x93_4).f0))) (fun _ hk => hk.2) (.int .i64 ((rd_T40 t414 x93_4).f1))) (fun _ hk => ⟨hk.1.1.1, hk.1.1.2⟩)⟩, ⟨by (with_reducible repeat (first | refine blk_drewN ?_ _ | refine blk_drew ?_ | refine blk_alloc ?_ _)); refine blk_far ?_ NB431_434.out _; (with_reducible repeat (first | refine blk_drewN ?_ _ | refine blk_drew ?_ | refine blk_alloc ?_ _)); refine blk_far ?_ NB431_434.out _; (with_reducible repeat (first | refine blk_drewN ?_ _ | refine blk_drew ?_ | refine blk_alloc ?_ _)); exact BK431.out⟩, ⟨by (with_reducible repeat (first | refine blk_drewN ?_ _ | refine blk_drew ?_ | refine blk_alloc ?_ _)); refine blk_far ?_ NB432_434.out _; (with_reducible repeat (first | refine blk_drewN ?_ _ | refine blk_drew ?_ | refine blk_alloc ?_ _)); refine blk_far ?_ NB432_434.out _; (with_reducible repeat (first | refine blk_drewN ?_ _ | refine blk_drew ?_ | refine blk_alloc ?_ _)); exact BK432.out⟩, ⟨by repeat (first | (with_reducible first | exact HB.out | apply below_alloc | apply pw_below_drewN | apply below_drew1 | refine below_set ?_ GE431.out | refine below_set ?_ GE432.out | refine below_set ?_ GE434.out) | exact HB.out)⟩⟩
                                  · replace c61 := Bool.eq_false_iff.mpr c61
                                    subst c61
                                    have H1 : ((corporaref27_Contains.f ((rd_T38 t403 x82_3).f0) ((rd_T38 t403 x82_3).f1) ((rd_T40 t414 x93_4).f0) ((rd_T40 t414 x93_4).f1)).bind fun t435 => (corporalaw27_StrategyNests.l4 k4 t414 t417 t435 false t403 (t403.length : Int) x82_3 t414 (t414.length : Int) (wrap64 (x93_4 + 1)) ((rd_T38 t403 x82_3).f0) ((rd_T38 t403 x82_3).f1))) = some r := by rw [if_neg (show ¬ (false = true) by decide)] at H; exact H
                                    clear H
                                    have H := H1
                                    clear H1
                                    replace H := Option.bind_eq_some_iff.mp H
                                    obtain ⟨t435, A660, H⟩ := H
                                    replace H : (corporalaw27_StrategyNests.l4 k4 t414 t417 t435 false t403 (t403.length : Int) x82_3 t414 (t414.length : Int) (wrap64 (x93_4 + 1)) ((rd_T38 t403 x82_3).f0) ((rd_T38 t403 x82_3).f1)) = some r := H
                                    have A66 := Aside0.mk A660
                                    clear A660
                                    have H' := Aside0.mk H
                                    clear H
                                    have p433 : 0 ≤ (x93_4 : Int) := of_decide_eq_true (by first | (with_reducible assumption) | assumption)
                                    have q433 : x93_4 < (t414.length : Int) := of_decide_eq_true (by first | (with_reducible assumption) | assumption)
                                    obtain ⟨ad433, e433, hx433_0, hx433_1⟩ := at_T40 (Kd.R_reads' HO_91.out).2.2 x93_4 p433 q433
                                    cases e433
                                    replace p433 := eq_true p433
                                    replace q433 := eq_true q433
                                    go_wp2_with (first | ((with_reducible refine gate_dst (N := 22) rfl ?_); refine box_event ?hg (N := 22) ?hd (cs := #[.int .i64 0, .int .i64 0]) (t := 40) ?hr ?_; (case hd => rfl); (case hg => rfl); (case hr => first | (go_simp; done) | (go_simp; rfl)); intro gb434 hg w67 hbox hb; have n0_ := Aside0.mk (Kd.R_below (Kd.R_elderB (by (with_reducible repeat (first | apply Kd.R_alloc | apply Kd.R_drewN | apply Kd.R_drew)); exact HO_8.out) gb434 (Nat.le_of_eq hg.symm)) hb); have n1_ := Aside0.mk (Kd.R_below (Kd.R_elderB (by (with_reducible repeat (first | apply Kd.R_alloc | apply Kd.R_drewN | apply Kd.R_drew)); exact HO_9.out) gb434 (Nat.le_of_eq hg.symm)) hb); have n2_ := Aside0.mk (Kd.N_below (Kd.N_elderB (by (with_reducible repeat (first | apply Kd.N_alloc | apply Kd.N_drewN | apply Kd.N_drew)); exact HO_80.out) gb434 (Nat.le_of_eq hg.symm)) hb); have n3_ := Aside0.mk (Kd.R_below (Kd.R_elderB (by (with_reducible repeat (first | apply Kd.R_alloc | apply Kd.R_drewN | apply Kd.R_drew)); exact HO_91.out) gb434 (Nat.le_of_eq hg.symm)) hb); have n4_ := Aside0.mk (blk_below (g := gb431) (o := .cells #[.int .i64 ((rd_T38 t403 x82_3).f0), .int .i64 ((rd_T38 t403 x82_3).f1), .slice A430_2 ((rd_T38 t403 x82_3).f2).length c430_2] 38 (0, 0)) (by (with_reducible repeat (first | refine blk_drewN ?_ _ | refine blk_drew ?_ | refine blk_alloc ?_ _)); exact BK431.out) hb); have n5_ := Aside0.mk (blk_below (g := gb432) (o := .cells #[.int .i64 ((rd_T38 t403 x82_3).f0), .int .i64 ((rd_T38 t403 x82_3).f1)] 40 (0, 0)) (by (with_reducible repeat (first | refine blk_drewN ?_ _ | refine blk_drew ?_ | refine blk_alloc ?_ _)); exact BK432.out) hb); have n6_ := Aside0.mk (below_step (by repeat (first | (with_reducible first | exact HB.out | apply below_alloc | apply pw_below_drewN | apply below_drew1 | refine below_set ?_ GE431.out | refine below_set ?_ GE432.out) | exact HB.out)) hb); have n7_ := Aside0.mk (hbox); have n8_ := Aside0.mk ((by rw [hg]; exact (below_size (by repeat (first | (with_reducible first | exact HB.out | apply below_alloc | apply pw_below_drewN | apply below_drew1 | refine below_set ?_ GE431.out | refine below_set ?_ GE432.out) | exact HB.out))) : w.heap.size ≤ gb434)); have n9_ := Aside0.mk ((by rw [hg]; exact (below_size (by repeat (first | (with_reducible first | exact HB.out | apply below_alloc | apply pw_below_drewN | apply below_drew1 | refine below_set ?_ GE431.out | refine below_set ?_ GE432.out) | exact HB.out))) : w.heap.size ≤ gb434)); have n10_ := Aside0.mk ((by rw [hg]; exact Nat.ne_of_lt (blk_lt (g := gb431) (o := .cells #[.int .i64 ((rd_T38 t403 x82_3).f0), .int .i64 ((rd_T38 t403 x82_3).f1), .slice A430_2 ((rd_T38 t403 x82_3).f2).length c430_2] 38 (0, 0)) (by (with_reducible repeat (first | refine blk_drewN ?_ _ | refine blk_drew ?_ | refine blk_alloc ?_ _)); exact BK431.out)) : gb431 ≠ gb434)); have n11_ := Aside0.mk ((by rw [hg]; exact Nat.ne_of_gt (blk_lt (g := gb431) (o := .cells #[.int .i64 ((rd_T38 t403 x82_3).f0), .int .i64 ((rd_T38 t403 x82_3).f1), .slice A430_2 ((rd_T38 t403 x82_3).f2).length c430_2] 38 (0, 0)) (by (with_reducible repeat (first | refine blk_drewN ?_ _ | refine blk_drew ?_ | refine blk_alloc ?_ _)); exact BK431.out)) : gb434 ≠ gb431)); have n12_ := Aside0.mk ((by rw [hg]; exact Nat.ne_of_lt (blk_lt (g := gb432) (o := .cells #[.int .i64 ((rd_T38 t403 x82_3).f0), .int .i64 ((rd_T38 t403 x82_3).f1)] 40 (0, 0)) (by (with_reducible repeat (first | refine blk_drewN ?_ _ | refine blk_drew ?_ | refine blk_alloc ?_ _)); exact BK432.out)) : gb432 ≠ gb434)); have n13_ := Aside0.mk ((by rw [hg]; exact Nat.ne_of_gt (blk_lt (g := gb432) (o := .cells #[.int .i64 ((rd_T38 t403 x82_3).f0), .int .i64 ((rd_T38 t403 x82_3).f1)] 40 (0, 0)) (by (with_reducible repeat (first | refine blk_drewN ?_ _ | refine blk_drew ?_ | refine blk_alloc ?_ _)); exact BK432.out)) : gb434 ≠ gb432)); clear HO_8; clear HO_9; clear HO_80; clear HO_91; clear BK431; clear BK432; clear HB; have HO_8 := n0_; have HO_9 := n1_; have HO_80 := n2_; have HO_91 := n3_; have BK431 := n4_; have BK432 := n5_; have HB := n6_; have BK434 := n7_; have GW434 := n8_; have GE434 := n9_; have NB431_434 := n10_; have NB434_431 := n11_; have NB432_434 := n12_; have NB434_432 := n13_; clear n0_ n1_ n2_ n3_ n4_ n5_ n6_ n7_ n8_ n9_ n10_ n11_ n12_ n13_; clear hb hbox hg; have hnb68 := NB434_431.out; have hnc68 := NB431_434.out; have hnb69 := NB434_432.out; have hnc69 := NB432_434.out; have hcz70_0 : w67.cell? ⟨gb434, 0, none⟩ = some (.int .i64 0) := (blk_cell BK434.out 0).trans rfl; have hcz70_1 : w67.cell? ⟨gb434, 1, none⟩ = some (.int .i64 0) := (blk_cell BK434.out 1).trans rfl; have hfz70_0 := blk_frozen BK434.out 0; have hfz70_1 := blk_frozen BK434.out 1; have hnb71 := NB432_431.out; have hnc71 := NB431_432.out; have hcz72_0 : w67.cell? ⟨gb432, 0, none⟩ = some (.int .i64 ((rd_T38 t403 x82_3).f0)) := (blk_cell BK432.out 0).trans rfl; have hcz72_1 : w67.cell? ⟨gb432, 1, none⟩ = some (.int .i64 ((rd_T38 t403 x82_3).f1)) := (blk_cell BK432.out 1).trans rfl; have hfz72_0 := blk_frozen BK432.out 0; have hfz72_1 := blk_frozen BK432.out 1) | (go_at_call 20; (with_reducible refine (corporaref27_Contains.calls ((rd_T38 t403 x82_3).f0) ((rd_T38 t403 x82_3).f1) ((rd_T40 t414 x93_4).f0) ((rd_T40 t414 x93_4).f1) t435 _ A66.out).mono ?_); rintro e w73 ⟨rfl, hb⟩; have n0_ := Aside0.mk (Kd.R_below (by (with_reducible repeat (first | apply Kd.R_alloc | apply Kd.R_drewN | apply Kd.R_drew)); exact (Kd.R_mono (Kd.R_far (p := ⟨gb434, 1, none⟩) (Kd.R_far (p := ⟨gb434, 0, none⟩) (Kd.R_mono HO_8.out (fun k_ hk => (⟨hk, hk.2⟩ : _ ∧ k_ ≠ gb434))) (fun _ hk => hk.2) (.int .i64 ((rd_T40 t414 x93_4).f0))) (fun _ hk => hk.2) (.int .i64 ((rd_T40 t414 x93_4).f1))) (fun _ h_ => h_.1))) hb); have n1_ := Aside0.mk (Kd.R_below (by (with_reducible repeat (first | apply Kd.R_alloc | apply Kd.R_drewN | apply Kd.R_drew)); exact (Kd.R_mono (Kd.R_far (p := ⟨gb434, 1, none⟩) (Kd.R_far (p := ⟨gb434, 0, none⟩) (Kd.R_mono HO_9.out (fun k_ hk => (⟨hk, hk.2⟩ : _ ∧ k_ ≠ gb434))) (fun _ hk => hk.2) (.int .i64 ((rd_T40 t414 x93_4).f0))) (fun _ hk => hk.2) (.int .i64 ((rd_T40 t414 x93_4).f1))) (fun _ h_ => h_.1))) hb); have n2_ := Aside0.mk (Kd.N_below (by (with_reducible repeat (first | apply Kd.N_alloc | apply Kd.N_drewN | apply Kd.N_drew)); exact (Kd.N_mono (Kd.N_far (p := ⟨gb434, 1, none⟩) (Kd.N_far (p := ⟨gb434, 0, none⟩) (Kd.N_mono HO_80.out (fun k_ hk => (⟨hk, hk.2⟩ : _ ∧ k_ ≠ gb434))) (fun _ hk => hk.2) (.int .i64 ((rd_T40 t414 x93_4).f0))) (fun _ hk => hk.2) (.int .i64 ((rd_T40 t414 x93_4).f1))) (fun _ h_ => h_.1))) hb); have n3_ := Aside0.mk (Kd.R_below (by (with_reducible repeat (first | apply Kd.R_alloc | apply Kd.R_drewN | apply Kd.R_drew)); exact (Kd.R_mono (Kd.R_far (p := ⟨gb434, 1, none⟩) (Kd.R_far (p := ⟨gb434, 0, none⟩) (Kd.R_mono HO_91.out (fun k_ hk => (⟨hk, hk.2⟩ : _ ∧ k_ ≠ gb434))) (fun _ hk => hk.2) (.int .i64 ((rd_T40 t414 x93_4).f0))) (fun _ hk => hk.2) (.int .i64 ((rd_T40 t414 x93_4).f1))) (fun _ h_ => h_.1))) hb); have n4_ := Aside0.mk (blk_below (g := gb431) (o := .cells #[.int .i64 ((rd_T38 t403 x82_3).f0), .int .i64 ((rd_T38 t403 x82_3).f1), .slice A430_2 ((rd_T38 t403 x82_3).f2).length c430_2] 38 (0, 0)) (by (with_reducible repeat (first | refine blk_drewN ?_ _ | refine blk_drew ?_ | refine blk_alloc ?_ _)); refine blk_far ?_ NB431_434.out _; (with_reducible repeat (first | refine blk_drewN ?_ _ | refine blk_drew ?_ | refine blk_alloc ?_ _)); refine blk_far ?_ NB431_434.out _; (with_reducible repeat (first | refine blk_drewN ?_ _ | refine blk_drew ?_ | refine blk_alloc ?_ _)); exact BK431.out) hb); have n5_ := Aside0.mk (blk_below (g := gb432) (o := .cells #[.int .i64 ((rd_T38 t403 x82_3).f0), .int .i64 ((rd_T38 t403 x82_3).f1)] 40 (0, 0)) (by (with_reducible repeat (first | refine blk_drewN ?_ _ | refine blk_drew ?_ | refine blk_alloc ?_ _)); refine blk_far ?_ NB432_434.out _; (with_reducible repeat (first | refine blk_drewN ?_ _ | refine blk_drew ?_ | refine blk_alloc ?_ _)); refine blk_far ?_ NB432_434.out _; (with_reducible repeat (first | refine blk_drewN ?_ _ | refine blk_drew ?_ | refine blk_alloc ?_ _)); exact BK432.out) hb); have n6_ := Aside0.mk (blk_below (g := gb434) (o := .cells #[.int .i64 ((rd_T40 t414 x93_4).f0), .int .i64 ((rd_T40 t414 x93_4).f1)] 40 (0, 0)) (by (with_reducible repeat (first | refine blk_drewN ?_ _ | refine blk_drew ?_ | refine blk_alloc ?_ _)); refine blk_put (cs := #[.int .i64 ((rd_T40 t414 x93_4).f0), .int .i64 0]) ?_ 1 _ rfl; (with_reducible repeat (first | refine blk_drewN ?_ _ | refine blk_drew ?_ | refine blk_alloc ?_ _)); refine blk_put (cs := #[.int .i64 0, .int .i64 0]) ?_ 0 _ rfl; (with_reducible repeat (first | refine blk_drewN ?_ _ | refine blk_drew ?_ | refine blk_alloc ?_ _)); exact BK434.out) hb); have n7_ := Aside0.mk (below_step (by repeat (first | (with_reducible first | exact HB.out | apply below_alloc | apply pw_below_drewN | apply below_drew1 | refine below_set ?_ GE431.out | refine below_set ?_ GE432.out | refine below_set ?_ GE434.out) | exact HB.out)) hb); clear HO_8; clear HO_9; clear HO_80; clear HO_91; clear BK431; clear BK432; clear BK434; clear HB; have HO_8 := n0_; have HO_9 := n1_; have HO_80 := n2_; have HO_91 := n3_; have BK431 := n4_; have BK432 := n5_; have BK434 := n6_; have HB := n7_; clear n0_ n1_ n2_ n3_ n4_ n5_ n6_ n7_; (try clear hb); (try clear hb2); (try clear hk); (try clear hi)))
                                    go_roundg k4
                                    case measure => have := HJ4.out; have := HK2.out; have := HK3.out; have := HK4.out; omega
                                    case rel => exact ⟨(t435), (wrap64 (x93_4 + 1)), (by first | rfl | (simp; done) | (simp [*]; done)), (by first | rfl | (simp; done) | (simp [*]; done)), H', ⟨by have := HJ4.out; have := HK2.out; have := HK3.out; have := HK4.out; omega⟩, ⟨by (with_reducible repeat (first | apply Kd.R_alloc | apply Kd.R_drewN | apply Kd.R_drew)); exact Kd.R_mono HO_8.out (fun _ hk => ⟨hk.1.1, hk.1.2⟩)⟩, ⟨by (with_reducible repeat (first | apply Kd.R_alloc | apply Kd.R_drewN | apply Kd.R_drew)); exact Kd.R_mono HO_9.out (fun _ hk => ⟨hk.1.1, ⟨hk.1.2.1, hk.1.2.2⟩⟩)⟩, ⟨by (with_reducible repeat (first | apply Kd.N_alloc | apply Kd.N_drewN | apply Kd.N_drew)); exact Kd.N_mono HO_80.out (fun _ hk => ⟨hk.1.1, ⟨hk.1.2.1, ⟨hk.1.2.2.1, ⟨hk.1.2.2.2.1, hk.1.2.2.2.2⟩⟩⟩⟩)⟩, ⟨by (with_reducible repeat (first | apply Kd.R_alloc | apply Kd.R_drewN | apply Kd.R_drew)); exact Kd.R_mono HO_91.out (fun _ hk => ⟨hk.1.1, hk.1.2⟩)⟩, ⟨by (with_reducible repeat (first | refine blk_drewN ?_ _ | refine blk_drew ?_ | refine blk_alloc ?_ _)); exact BK431.out⟩, ⟨by (with_reducible repeat (first | refine blk_drewN ?_ _ | refine blk_drew ?_ | refine blk_alloc ?_ _)); exact BK432.out⟩, ⟨by repeat (first | (with_reducible first | exact HB.out | apply below_alloc | apply pw_below_drewN | apply below_drew1 | refine below_set ?_ GE431.out | refine below_set ?_ GE432.out | refine below_set ?_ GE434.out) | exact HB.out)⟩⟩
                                · rw [if_neg c60] at H
                                  exact absurd H (by simp)
                              · rw [if_neg c59] at H
                                exact absurd H (by simp)
                            · rw [if_neg c58] at H
                              have c58b0 : decide (x93_4 < (t414.length : Int)) = false := decide_eq_false c58
                              clear c58
                              have H' := Aside0.mk H
                              clear H
                              go_wp2
                              go_loopg [20, 106] k4 (fun kq v20 v106 w' => ∃ (x20_5 : Bool) (x106_5 : Int), v20 = .bool x20_5 ∧ v106 = .int .i64 x106_5 ∧ Aside0 (corporalaw27_StrategyNests.l5 kq t414 t417 x19_4 x20_5 t403 (t403.length : Int) x82_3 t417 (t417.length : Int) x106_5 ((rd_T38 t403 x82_3).f0) ((rd_T38 t403 x82_3).f1) = some r) ∧ Aside0 (kq ≤ k4) ∧ Aside0 (Kd.R k40 40 w' w.heap.size (fun k_ => some k_ ≠ ((.slice Ao25 t417.length co25) : Value).ownBlock ∧ some k_ ≠ ((.slice Ao25 t417.length co25) : Value).ownBlock ∧ k_ ≠ gb432) (.slice Ao24 t414.length co24) t414) ∧ Aside0 (Kd.R k40 40 w' w.heap.size (fun k_ => some k_ ≠ ((.slice Ao24 t414.length co24) : Value).ownBlock ∧ k_ ≠ gb432) (.slice Ao25 t417.length co25) t417) ∧ Aside0 (Kd.N k38 38 w' w.heap.size (fun k_ => some k_ ≠ ((.slice Ao24 t414.length co24) : Value).ownBlock ∧ some k_ ≠ ((.slice Ao25 t417.length co25) : Value).ownBlock ∧ some k_ ≠ ((.slice Ao25 t417.length co25) : Value).ownBlock ∧ k_ ≠ gb431 ∧ k_ ≠ gb432) (.slice (some ad430) t403.length co7) t403) ∧ Aside0 (Kd.R k40 40 w' w.heap.size (fun k_ => some k_ ≠ ((.slice Ao24 t414.length co24) : Value).ownBlock ∧ k_ ≠ gb432) (.slice Ao25 t417.length co25) t417) ∧ Aside0 (w'.heap[gb431]? = some (.cells #[.int .i64 ((rd_T38 t403 x82_3).f0), .int .i64 ((rd_T38 t403 x82_3).f1), (.slice A430_2 ((rd_T38 t403 x82_3).f2).length c430_2)] 38 (0, 0))) ∧ Aside0 (w'.heap[gb432]? = some (.cells #[.int .i64 ((rd_T38 t403 x82_3).f0), .int .i64 ((rd_T38 t403 x82_3).f1)] 40 (0, 0))) ∧ Aside0 (Below w.heap.size w w'))
                              case atStart => exact ⟨(false), (0), (by first | rfl | (simp; done) | (simp [*]; done)), (by first | rfl | (simp; done) | (simp [*]; done)), H', ⟨Nat.le_refl _⟩, ⟨by (with_reducible repeat (first | apply Kd.R_alloc | apply Kd.R_drewN | apply Kd.R_drew)); exact Kd.R_mono HO_8.out (fun _ hk => ⟨hk.1, ⟨hk.1, hk.2⟩⟩)⟩, ⟨by (with_reducible repeat (first | apply Kd.R_alloc | apply Kd.R_drewN | apply Kd.R_drew)); exact Kd.R_mono HO_9.out (fun _ hk => ⟨hk.1, hk.2.2⟩)⟩, ⟨by (with_reducible repeat (first | apply Kd.N_alloc | apply Kd.N_drewN | apply Kd.N_drew)); exact Kd.N_mono HO_80.out (fun _ hk => ⟨hk.1, ⟨hk.2.1, ⟨hk.2.1, ⟨hk.2.2.2.1, hk.2.2.2.2⟩⟩⟩⟩)⟩, ⟨by (with_reducible repeat (first | apply Kd.R_alloc | apply Kd.R_drewN | apply Kd.R_drew)); exact Kd.R_mono HO_9.out (fun _ hk => ⟨hk.1, hk.2.2⟩)⟩, ⟨by (with_reducible repeat (first | refine blk_drewN ?_ _ | refine blk_drew ?_ | refine blk_alloc ?_ _)); exact BK431.out⟩, ⟨by (with_reducible repeat (first | refine blk_drewN ?_ _ | refine blk_drew ?_ | refine blk_alloc ?_ _)); exact BK432.out⟩, ⟨by repeat (first | (with_reducible first | exact HB.out | apply below_alloc | apply pw_below_drewN | apply below_drew1 | refine below_set ?_ GE431.out | refine below_set ?_ GE432.out) | exact HB.out)⟩⟩
                              case round =>
                                clear H'
                                try clear c1
                                try clear c2
                                try clear p2
                                try clear c3
                                try clear c4
                                try clear p4
                                try clear q4
                                try clear hx4
                                try clear c5
                                try clear c6
                                try clear p6
                                try clear c7
                                try clear c10
                                try clear c10b0
                                try clear c10b1
                                try clear c11
                                try clear c12
                                try clear c16
                                try clear c21
                                try clear c21b0
                                try clear c22
                                try clear c22b0
                                try clear c23
                                try clear c23b0
                                try clear c25
                                try clear c25b0
                                try clear c26
                                try clear c26b0
                                try clear c27
                                try clear c27b0
                                try clear c30
                                try clear c30b0
                                try clear c31
                                try clear c31b0
                                try clear c32
                                try clear c32b0
                                try clear c33
                                try clear c33b0
                                try clear c33b1
                                try clear c35
                                try clear c38
                                try clear c40
                                try clear p42
                                try clear q42
                                try clear hx42
                                try clear c43
                                try clear p43
                                try clear q43
                                try clear hx43
                                try clear c45
                                try clear c49
                                try clear c49b0
                                try clear c50
                                try clear c50b0
                                try clear c51
                                try clear c51b0
                                try clear c55
                                try clear c58
                                try clear c58b0
                                try clear c59
                                try clear c59b0
                                try clear c60
                                try clear c60b0
                                try clear c61
                                try clear c63
                                try clear c64
                                try clear p64
                                try clear c68
                                try clear c69
                                try clear c71
                                try clear hcz29_0
                                try clear hcz29_1
                                try clear hcz36_0
                                try clear hcz36_1
                                try clear hcz41_0
                                try clear hcz41_1
                                try clear hcz42_0
                                try clear hcz42_1
                                try clear hcz46_0
                                try clear hcz46_1
                                try clear hcz47_0
                                try clear hcz47_1
                                try clear hcz53_0
                                try clear hcz53_1
                                try clear hcz53_2
                                try clear hcz56_0
                                try clear hcz56_1
                                try clear hcz65_0
                                try clear hcz65_1
                                try clear hcz70_0
                                try clear hcz70_1
                                try clear hcz72_0
                                try clear hcz72_1
                                try clear hfz29_0
                                try clear hfz29_1
                                try clear hfz36_0
                                try clear hfz36_1
                                try clear hfz41_0
                                try clear hfz41_1
                                try clear hfz42_0
                                try clear hfz42_1
                                try clear hfz46_0
                                try clear hfz46_1
                                try clear hfz47_0
                                try clear hfz47_1
                                try clear hfz53_0
                                try clear hfz53_1
                                try clear hfz53_2
                                try clear hfz56_0
                                try clear hfz56_1
                                try clear hfz65_0
                                try clear hfz65_1
                                try clear hfz70_0
                                try clear hfz70_1
                                try clear hfz72_0
                                try clear hfz72_1
                                try clear hx423_0
                                try clear hx424_0
                                try clear hx424_1
                                try clear hx426_0
                                try clear hx426_1
                                try clear hx430_0
                                try clear hx430_1
                                try clear hx430_2
                                try clear hx433_0
                                try clear hx433_1
                                try clear p2
                                try clear p4
                                try clear p42
                                try clear p423
                                try clear p424
                                try clear p426
                                try clear p43
                                try clear p430
                                try clear p433
                                try clear p6
                                try clear q4
                                try clear q42
                                try clear q423
                                try clear q424
                                try clear q426
                                try clear q43
                                try clear q430
                                try clear q433
                                obtain ⟨x20_5, x106_5, rfl, rfl, HA, HK5, HO_8, HO_9, HO_80, HO_104, BK431, BK432, HB⟩ := hrel
                                cases gk with
                                | zero => exact absurd HA.out (by simp [corporalaw27_StrategyNests.l5])
                                | succ k5 =>
                                  have H := HA.out
                                  clear HA
                                  simp only [corporalaw27_StrategyNests.l5] at H
                                  by_cases c75 : x106_5 < (t417.length : Int)
                                  · rw [if_pos c75] at H
                                    have c75b0 : decide (x106_5 < (t417.length : Int)) = true := decide_eq_true c75
                                    clear c75
                                    by_cases c76 : 0 ≤ x106_5
                                    · rw [if_pos c76] at H
                                      have c76b0 : decide (0 ≤ x106_5) = true := decide_eq_true c76
                                      clear c76
                                      by_cases c77 : x106_5 < (t417.length : Int)
                                      · rw [if_pos c77] at H
                                        have c77b0 : decide (x106_5 < (t417.length : Int)) = true := decide_eq_true c77
                                        clear c77
                                        by_cases c78 : x20_5 = true
                                        · subst c78
                                          have H1 : (corporalaw27_StrategyNests.l5 k5 t414 t417 x19_4 true t403 (t403.length : Int) x82_3 t417 (t417.length : Int) (wrap64 (x106_5 + 1)) ((rd_T38 t403 x82_3).f0) ((rd_T38 t403 x82_3).f1)) = some r := by rw [if_pos rfl] at H; exact H
                                          clear H
                                          have H := H1
                                          clear H1
                                          have H' := Aside0.mk H
                                          clear H
                                          have p436 : 0 ≤ (x106_5 : Int) := of_decide_eq_true (by first | (with_reducible assumption) | assumption)
                                          have q436 : x106_5 < (t417.length : Int) := of_decide_eq_true (by first | (with_reducible assumption) | assumption)
                                          obtain ⟨ad436, e436, hx436_0, hx436_1⟩ := at_T40 (Kd.R_reads' HO_104.out).2.2 x106_5 p436 q436
                                          cases e436
                                          replace p436 := eq_true p436
                                          replace q436 := eq_true q436
                                          go_wp2_with (first | ((with_reducible refine gate_dst (N := 24) rfl ?_); refine box_event ?hg (N := 24) ?hd (cs := #[.int .i64 0, .int .i64 0]) (t := 40) ?hr ?_; (case hd => rfl); (case hg => rfl); (case hr => first | (go_simp; done) | (go_simp; rfl)); intro gb437 hg w79 hbox hb; have n0_ := Aside0.mk (Kd.R_below (Kd.R_elderB (by (with_reducible repeat (first | apply Kd.R_alloc | apply Kd.R_drewN | apply Kd.R_drew)); exact HO_8.out) gb437 (Nat.le_of_eq hg.symm)) hb); have n1_ := Aside0.mk (Kd.R_below (Kd.R_elderB (by (with_reducible repeat (first | apply Kd.R_alloc | apply Kd.R_drewN | apply Kd.R_drew)); exact HO_9.out) gb437 (Nat.le_of_eq hg.symm)) hb); have n2_ := Aside0.mk (Kd.N_below (Kd.N_elderB (by (with_reducible repeat (first | apply Kd.N_alloc | apply Kd.N_drewN | apply Kd.N_drew)); exact HO_80.out) gb437 (Nat.le_of_eq hg.symm)) hb); have n3_ := Aside0.mk (Kd.R_below (Kd.R_elderB (by (with_reducible repeat (first | apply Kd.R_alloc | apply Kd.R_drewN | apply Kd.R_drew)); exact HO_104.out) gb437 (Nat.le_of_eq hg.symm)) hb); have n4_ := Aside0.mk (blk_below (g := gb431) (o := .cells #[.int .i64 ((rd_T38 t403 x82_3).f0), .int .i64 ((rd_T38 t403 x82_3).f1), .slice A430_2 ((rd_T38 t403 x82_3).f2).length c430_2] 38 (0, 0)) (by (with_reducible repeat (first | refine blk_drewN ?_ _ | refine blk_drew ?_ | refine blk_alloc ?_ _)); exact BK431.out) hb); have n5_ := Aside0.mk (blk_below (g := gb432) (o := .cells #[.int .i64 ((rd_T38 t403 x82_3).f0), .int .i64 ((rd_T38 t403 x82_3).f1)] 40 (0, 0)) (by (with_reducible repeat (first | refine blk_drewN ?_ _ | refine blk_drew ?_ | refine blk_alloc ?_ _)); exact BK432.out) hb); have n6_ := Aside0.mk (below_step (by repeat (first | (with_reducible first | exact HB.out | apply below_alloc | apply pw_below_drewN | apply below_drew1 | refine below_set ?_ GE431.out | refine below_set ?_ GE432.out) | exact HB.out)) hb); have n7_ := Aside0.mk (hbox); have n8_ := Aside0.mk ((by rw [hg]; exact (below_size (by repeat (first | (with_reducible first | exact HB.out | apply below_alloc | apply pw_below_drewN | apply below_drew1 | refine below_set ?_ GE431.out | refine below_set ?_ GE432.out) | exact HB.out))) : w.heap.size ≤ gb437)); have n9_ := Aside0.mk ((by rw [hg]; exact (below_size (by repeat (first | (with_reducible first | exact HB.out | apply below_alloc | apply pw_below_drewN | apply below_drew1 | refine below_set ?_ GE431.out | refine below_set ?_ GE432.out) | exact HB.out))) : w.heap.size ≤ gb437)); have n10_ := Aside0.mk ((by rw [hg]; exact Nat.ne_of_lt (blk_lt (g := gb431) (o := .cells #[.int .i64 ((rd_T38 t403 x82_3).f0), .int .i64 ((rd_T38 t403 x82_3).f1), .slice A430_2 ((rd_T38 t403 x82_3).f2).length c430_2] 38 (0, 0)) (by (with_reducible repeat (first | refine blk_drewN ?_ _ | refine blk_drew ?_ | refine blk_alloc ?_ _)); exact BK431.out)) : gb431 ≠ gb437)); have n11_ := Aside0.mk ((by rw [hg]; exact Nat.ne_of_gt (blk_lt (g := gb431) (o := .cells #[.int .i64 ((rd_T38 t403 x82_3).f0), .int .i64 ((rd_T38 t403 x82_3).f1), .slice A430_2 ((rd_T38 t403 x82_3).f2).length c430_2] 38 (0, 0)) (by (with_reducible repeat (first | refine blk_drewN ?_ _ | refine blk_drew ?_ | refine blk_alloc ?_ _)); exact BK431.out)) : gb437 ≠ gb431)); have n12_ := Aside0.mk ((by rw [hg]; exact Nat.ne_of_lt (blk_lt (g := gb432) (o := .cells #[.int .i64 ((rd_T38 t403 x82_3).f0), .int .i64 ((rd_T38 t403 x82_3).f1)] 40 (0, 0)) (by (with_reducible repeat (first | refine blk_drewN ?_ _ | refine blk_drew ?_ | refine blk_alloc ?_ _)); exact BK432.out)) : gb432 ≠ gb437)); have n13_ := Aside0.mk ((by rw [hg]; exact Nat.ne_of_gt (blk_lt (g := gb432) (o := .cells #[.int .i64 ((rd_T38 t403 x82_3).f0), .int .i64 ((rd_T38 t403 x82_3).f1)] 40 (0, 0)) (by (with_reducible repeat (first | refine blk_drewN ?_ _ | refine blk_drew ?_ | refine blk_alloc ?_ _)); exact BK432.out)) : gb437 ≠ gb432)); clear HO_8; clear HO_9; clear HO_80; clear HO_104; clear BK431; clear BK432; clear HB; have HO_8 := n0_; have HO_9 := n1_; have HO_80 := n2_; have HO_104 := n3_; have BK431 := n4_; have BK432 := n5_; have HB := n6_; have BK437 := n7_; have GW437 := n8_; have GE437 := n9_; have NB431_437 := n10_; have NB437_431 := n11_; have NB432_437 := n12_; have NB437_432 := n13_; clear n0_ n1_ n2_ n3_ n4_ n5_ n6_ n7_ n8_ n9_ n10_ n11_ n12_ n13_; clear hb hbox hg; have hnb80 := NB437_431.out; have hnc80 := NB431_437.out; have hnb81 := NB437_432.out; have hnc81 := NB432_437.out; have hcz82_0 : w79.cell? ⟨gb437, 0, none⟩ = some (.int .i64 0) := (blk_cell BK437.out 0).trans rfl; have hcz82_1 : w79.cell? ⟨gb437, 1, none⟩ = some (.int .i64 0) := (blk_cell BK437.out 1).trans rfl; have hfz82_0 := blk_frozen BK437.out 0; have hfz82_1 := blk_frozen BK437.out 1))
                                          go_roundg k5
                                          case measure => have := HJ4.out; have := HK2.out; have := HK3.out; have := HK4.out; have := HK5.out; omega
                                          case rel => exact ⟨(true), (wrap64 (x106_5 + 1)), (by first | rfl | (simp; done) | (simp [*]; done)), (by first | rfl | (simp; done) | (simp [*]; done)), H', ⟨by have := HJ4.out; have := HK2.out; have := HK3.out; have := HK4.out; have := HK5.out; omega⟩, ⟨by (with_reducible repeat (first | apply Kd.R_alloc | apply Kd.R_drewN | apply Kd.R_drew)); exact Kd.R_mono (Kd.R_far (p := ⟨gb437, 1, none⟩) (Kd.R_far (p := ⟨gb437, 0, none⟩) (Kd.R_mono HO_8.out (fun k_ hk => (⟨hk, hk.2⟩ : _ ∧ k_ ≠ gb437))) (fun _ hk => hk.2) (.int .i64 ((rd_T40 t417 x106_5).f0))) (fun _ hk => hk.2) (.int .i64 ((rd_T40 t417 x106_5).f1))) (fun _ hk => ⟨hk.1.1.1, ⟨hk.1.1.2.1, hk.1.1.2.2⟩⟩)⟩, ⟨by (with_reducible repeat (first | apply Kd.R_alloc | apply Kd.R_drewN | apply Kd.R_drew)); exact Kd.R_mono (Kd.R_far (p := ⟨gb437, 1, none⟩) (Kd.R_far (p := ⟨gb437, 0, none⟩) (Kd.R_mono HO_9.out (fun k_ hk => (⟨hk, hk.2⟩ : _ ∧ k_ ≠ gb437))) (fun _ hk => hk.2) (.int .i64 ((rd_T40 t417 x106_5).f0))) (fun _ hk => hk.2) (.int .i64 ((rd_T40 t417 x106_5).f1))) (fun _ hk => ⟨hk.1.1.1, hk.1.1.2⟩)⟩, ⟨by (with_reducible repeat (first | apply Kd.N_alloc | apply Kd.N_drewN | apply Kd.N_drew)); exact Kd.N_mono (Kd.N_far (p := ⟨gb437, 1, none⟩) (Kd.N_far (p := ⟨gb437, 0, none⟩) (Kd.N_mono HO_80.out (fun k_ hk => (⟨hk, hk.2⟩ : _ ∧ k_ ≠ gb437))) (fun _ hk => hk.2) (.int .i64 ((rd_T40 t417 x106_5).f0))) (fun _ hk => hk.2) (.int .i64 ((rd_T40 t417 x106_5).f1))) (fun _ hk => ⟨hk.1.1.1, ⟨hk.1.1.2.1, ⟨hk.1.1.2.2.1, ⟨hk.1.1.2.2.2.1, hk.1.1.2.2.2.2⟩⟩⟩⟩)⟩, ⟨by (with_reducible repeat (first | apply Kd.R_alloc | apply Kd.R_drewN | apply Kd.R_drew)); exact Kd.R_mono (Kd.R_far (p := ⟨gb437, 1, none⟩) (Kd.R_far (p := ⟨gb437, 0, none⟩) (Kd.R_mono HO_104.out (fun k_ hk => (⟨hk, hk.2⟩ : _ ∧ k_ ≠ gb437))) (fun _ hk => hk.2) (.int .i64 ((rd_T40 t417 x106_5).f0))) (fun _ hk => hk.2) (.int .i64 ((rd_T40 t417 x106_5).f1))) (fun _ hk => ⟨hk.1.1.1, hk.1.1.2⟩)⟩, ⟨by (with_reducible repeat (first | refine blk_drewN ?_ _ | refine blk_drew ?_ | refine blk_alloc ?_ _)); refine blk_far ?_ NB431_437.out _; (with_reducible repeat (first | refine blk_drewN ?_ _ | refine blk_drew ?_ | refine blk_alloc ?_ _)); refine blk_far ?_ NB431_437.out _; (with_reducible repeat (first | refine blk_drewN ?_ _ | refine blk_drew ?_ | refine blk_alloc ?_ _)); exact BK431.out⟩, ⟨by (with_reducible repeat (first | refine blk_drewN ?_ _ | refine blk_drew ?_ | refine blk_alloc ?_ _)); refine blk_far ?_ NB432_437.out _; (with_reducible repeat (first | refine blk_drewN ?_ _ | refine blk_drew ?_ | refine blk_alloc ?_ _)); refine blk_far ?_ NB432_437.out _; (with_reducible repeat (first | refine blk_drewN ?_ _ | refine blk_drew ?_ | refine blk_alloc ?_ _)); exact BK432.out⟩, ⟨by repeat (first | (with_reducible first | exact HB.out | apply below_alloc | apply pw_below_drewN | apply below_drew1 | refine below_set ?_ GE431.out | refine below_set ?_ GE432.out | refine below_set ?_ GE437.out) | exact HB.out)⟩⟩
                                        · replace c78 := Bool.eq_false_iff.mpr c78
                                          subst c78
                                          have H1 : ((corporaref27_Contains.f ((rd_T40 t417 x106_5).f0) ((rd_T40 t417 x106_5).f1) ((rd_T38 t403 x82_3).f0) ((rd_T38 t403 x82_3).f1)).bind fun t438 => (corporalaw27_StrategyNests.l5 k5 t414 t417 x19_4 t438 t403 (t403.length : Int) x82_3 t417 (t417.length : Int) (wrap64 (x106_5 + 1)) ((rd_T38 t403 x82_3).f0) ((rd_T38 t403 x82_3).f1))) = some r := by rw [if_neg (show ¬ (false = true) by decide)] at H; exact H
                                          clear H
                                          have H := H1
                                          clear H1
                                          replace H := Option.bind_eq_some_iff.mp H
                                          obtain ⟨t438, A830, H⟩ := H
                                          replace H : (corporalaw27_StrategyNests.l5 k5 t414 t417 x19_4 t438 t403 (t403.length : Int) x82_3 t417 (t417.length : Int) (wrap64 (x106_5 + 1)) ((rd_T38 t403 x82_3).f0) ((rd_T38 t403 x82_3).f1)) = some r := H
                                          have A83 := Aside0.mk A830
                                          clear A830
                                          have H' := Aside0.mk H
                                          clear H
                                          have p436 : 0 ≤ (x106_5 : Int) := of_decide_eq_true (by first | (with_reducible assumption) | assumption)
                                          have q436 : x106_5 < (t417.length : Int) := of_decide_eq_true (by first | (with_reducible assumption) | assumption)
                                          obtain ⟨ad436, e436, hx436_0, hx436_1⟩ := at_T40 (Kd.R_reads' HO_104.out).2.2 x106_5 p436 q436
                                          cases e436
                                          replace p436 := eq_true p436
                                          replace q436 := eq_true q436
                                          go_wp2_with (first | ((with_reducible refine gate_dst (N := 24) rfl ?_); refine box_event ?hg (N := 24) ?hd (cs := #[.int .i64 0, .int .i64 0]) (t := 40) ?hr ?_; (case hd => rfl); (case hg => rfl); (case hr => first | (go_simp; done) | (go_simp; rfl)); intro gb437 hg w84 hbox hb; have n0_ := Aside0.mk (Kd.R_below (Kd.R_elderB (by (with_reducible repeat (first | apply Kd.R_alloc | apply Kd.R_drewN | apply Kd.R_drew)); exact HO_8.out) gb437 (Nat.le_of_eq hg.symm)) hb); have n1_ := Aside0.mk (Kd.R_below (Kd.R_elderB (by (with_reducible repeat (first | apply Kd.R_alloc | apply Kd.R_drewN | apply Kd.R_drew)); exact HO_9.out) gb437 (Nat.le_of_eq hg.symm)) hb); have n2_ := Aside0.mk (Kd.N_below (Kd.N_elderB (by (with_reducible repeat (first | apply Kd.N_alloc | apply Kd.N_drewN | apply Kd.N_drew)); exact HO_80.out) gb437 (Nat.le_of_eq hg.symm)) hb); have n3_ := Aside0.mk (Kd.R_below (Kd.R_elderB (by (with_reducible repeat (first | apply Kd.R_alloc | apply Kd.R_drewN | apply Kd.R_drew)); exact HO_104.out) gb437 (Nat.le_of_eq hg.symm)) hb); have n4_ := Aside0.mk (blk_below (g := gb431) (o := .cells #[.int .i64 ((rd_T38 t403 x82_3).f0), .int .i64 ((rd_T38 t403 x82_3).f1), .slice A430_2 ((rd_T38 t403 x82_3).f2).length c430_2] 38 (0, 0)) (by (with_reducible repeat (first | refine blk_drewN ?_ _ | refine blk_drew ?_ | refine blk_alloc ?_ _)); exact BK431.out) hb); have n5_ := Aside0.mk (blk_below (g := gb432) (o := .cells #[.int .i64 ((rd_T38 t403 x82_3).f0), .int .i64 ((rd_T38 t403 x82_3).f1)] 40 (0, 0)) (by (with_reducible repeat (first | refine blk_drewN ?_ _ | refine blk_drew ?_ | refine blk_alloc ?_ _)); exact BK432.out) hb); have n6_ := Aside0.mk (below_step (by repeat (first | (with_reducible first | exact HB.out | apply below_alloc | apply pw_below_drewN | apply below_drew1 | refine below_set ?_ GE431.out | refine below_set ?_ GE432.out) | exact HB.out)) hb); have n7_ := Aside0.mk (hbox); have n8_ := Aside0.mk ((by rw [hg]; exact (below_size (by repeat (first | (with_reducible first | exact HB.out | apply below_alloc | apply pw_below_drewN | apply below_drew1 | refine below_set ?_ GE431.out | refine below_set ?_ GE432.out) | exact HB.out))) : w.heap.size ≤ gb437)); have n9_ := Aside0.mk ((by rw [hg]; exact (below_size (by repeat (first | (with_reducible first | exact HB.out | apply below_alloc | apply pw_below_drewN | apply below_drew1 | refine below_set ?_ GE431.out | refine below_set ?_ GE432.out) | exact HB.out))) : w.heap.size ≤ gb437)); have n10_ := Aside0.mk ((by rw [hg]; exact Nat.ne_of_lt (blk_lt (g := gb431) (o := .cells #[.int .i64 ((rd_T38 t403 x82_3).f0), .int .i64 ((rd_T38 t403 x82_3).f1), .slice A430_2 ((rd_T38 t403 x82_3).f2).length c430_2] 38 (0, 0)) (by (with_reducible repeat (first | refine blk_drewN ?_ _ | refine blk_drew ?_ | refine blk_alloc ?_ _)); exact BK431.out)) : gb431 ≠ gb437)); have n11_ := Aside0.mk ((by rw [hg]; exact Nat.ne_of_gt (blk_lt (g := gb431) (o := .cells #[.int .i64 ((rd_T38 t403 x82_3).f0), .int .i64 ((rd_T38 t403 x82_3).f1), .slice A430_2 ((rd_T38 t403 x82_3).f2).length c430_2] 38 (0, 0)) (by (with_reducible repeat (first | refine blk_drewN ?_ _ | refine blk_drew ?_ | refine blk_alloc ?_ _)); exact BK431.out)) : gb437 ≠ gb431)); have n12_ := Aside0.mk ((by rw [hg]; exact Nat.ne_of_lt (blk_lt (g := gb432) (o := .cells #[.int .i64 ((rd_T38 t403 x82_3).f0), .int .i64 ((rd_T38 t403 x82_3).f1)] 40 (0, 0)) (by (with_reducible repeat (first | refine blk_drewN ?_ _ | refine blk_drew ?_ | refine blk_alloc ?_ _)); exact BK432.out)) : gb432 ≠ gb437)); have n13_ := Aside0.mk ((by rw [hg]; exact Nat.ne_of_gt (blk_lt (g := gb432) (o := .cells #[.int .i64 ((rd_T38 t403 x82_3).f0), .int .i64 ((rd_T38 t403 x82_3).f1)] 40 (0, 0)) (by (with_reducible repeat (first | refine blk_drewN ?_ _ | refine blk_drew ?_ | refine blk_alloc ?_ _)); exact BK432.out)) : gb437 ≠ gb432)); clear HO_8; clear HO_9; clear HO_80; clear HO_104; clear BK431; clear BK432; clear HB; have HO_8 := n0_; have HO_9 := n1_; have HO_80 := n2_; have HO_104 := n3_; have BK431 := n4_; have BK432 := n5_; have HB := n6_; have BK437 := n7_; have GW437 := n8_; have GE437 := n9_; have NB431_437 := n10_; have NB437_431 := n11_; have NB432_437 := n12_; have NB437_432 := n13_; clear n0_ n1_ n2_ n3_ n4_ n5_ n6_ n7_ n8_ n9_ n10_ n11_ n12_ n13_; clear hb hbox hg; have hnb85 := NB437_431.out; have hnc85 := NB431_437.out; have hnb86 := NB437_432.out; have hnc86 := NB432_437.out; have hcz87_0 : w84.cell? ⟨gb437, 0, none⟩ = some (.int .i64 0) := (blk_cell BK437.out 0).trans rfl; have hcz87_1 : w84.cell? ⟨gb437, 1, none⟩ = some (.int .i64 0) := (blk_cell BK437.out 1).trans rfl; have hfz87_0 := blk_frozen BK437.out 0; have hfz87_1 := blk_frozen BK437.out 1; have hnb88 := NB432_431.out; have hnc88 := NB431_432.out; have hcz89_0 : w84.cell? ⟨gb432, 0, none⟩ = some (.int .i64 ((rd_T38 t403 x82_3).f0)) := (blk_cell BK432.out 0).trans rfl; have hcz89_1 : w84.cell? ⟨gb432, 1, none⟩ = some (.int .i64 ((rd_T38 t403 x82_3).f1)) := (blk_cell BK432.out 1).trans rfl; have hfz89_0 := blk_frozen BK432.out 0; have hfz89_1 := blk_frozen BK432.out 1) | (go_at_call 20; (with_reducible refine (corporaref27_Contains.calls ((rd_T40 t417 x106_5).f0) ((rd_T40 t417 x106_5).f1) ((rd_T38 t403 x82_3).f0) ((rd_T38 t403 x82_3).f1) t438 _ A83.out).mono ?_); rintro e w90 ⟨rfl, hb⟩; have n0_ := Aside0.mk (Kd.R_below (by (with_reducible repeat (first | apply Kd.R_alloc | apply Kd.R_drewN | apply Kd.R_drew)); exact (Kd.R_mono (Kd.R_far (p := ⟨gb437, 1, none⟩) (Kd.R_far (p := ⟨gb437, 0, none⟩) (Kd.R_mono HO_8.out (fun k_ hk => (⟨hk, hk.2⟩ : _ ∧ k_ ≠ gb437))) (fun _ hk => hk.2) (.int .i64 ((rd_T40 t417 x106_5).f0))) (fun _ hk => hk.2) (.int .i64 ((rd_T40 t417 x106_5).f1))) (fun _ h_ => h_.1))) hb); have n1_ := Aside0.mk (Kd.R_below (by (with_reducible repeat (first | apply Kd.R_alloc | apply Kd.R_drewN | apply Kd.R_drew)); exact (Kd.R_mono (Kd.R_far (p := ⟨gb437, 1, none⟩) (Kd.R_far (p := ⟨gb437, 0, none⟩) (Kd.R_mono HO_9.out (fun k_ hk => (⟨hk, hk.2⟩ : _ ∧ k_ ≠ gb437))) (fun _ hk => hk.2) (.int .i64 ((rd_T40 t417 x106_5).f0))) (fun _ hk => hk.2) (.int .i64 ((rd_T40 t417 x106_5).f1))) (fun _ h_ => h_.1))) hb); have n2_ := Aside0.mk (Kd.N_below (by (with_reducible repeat (first | apply Kd.N_alloc | apply Kd.N_drewN | apply Kd.N_drew)); exact (Kd.N_mono (Kd.N_far (p := ⟨gb437, 1, none⟩) (Kd.N_far (p := ⟨gb437, 0, none⟩) (Kd.N_mono HO_80.out (fun k_ hk => (⟨hk, hk.2⟩ : _ ∧ k_ ≠ gb437))) (fun _ hk => hk.2) (.int .i64 ((rd_T40 t417 x106_5).f0))) (fun _ hk => hk.2) (.int .i64 ((rd_T40 t417 x106_5).f1))) (fun _ h_ => h_.1))) hb); have n3_ := Aside0.mk (Kd.R_below (by (with_reducible repeat (first | apply Kd.R_alloc | apply Kd.R_drewN | apply Kd.R_drew)); exact (Kd.R_mono (Kd.R_far (p := ⟨gb437, 1, none⟩) (Kd.R_far (p := ⟨gb437, 0, none⟩) (Kd.R_mono HO_104.out (fun k_ hk => (⟨hk, hk.2⟩ : _ ∧ k_ ≠ gb437))) (fun _ hk => hk.2) (.int .i64 ((rd_T40 t417 x106_5).f0))) (fun _ hk => hk.2) (.int .i64 ((rd_T40 t417 x106_5).f1))) (fun _ h_ => h_.1))) hb); have n4_ := Aside0.mk (blk_below (g := gb431) (o := .cells #[.int .i64 ((rd_T38 t403 x82_3).f0), .int .i64 ((rd_T38 t403 x82_3).f1), .slice A430_2 ((rd_T38 t403 x82_3).f2).length c430_2] 38 (0, 0)) (by (with_reducible repeat (first | refine blk_drewN ?_ _ | refine blk_drew ?_ | refine blk_alloc ?_ _)); refine blk_far ?_ NB431_437.out _; (with_reducible repeat (first | refine blk_drewN ?_ _ | refine blk_drew ?_ | refine blk_alloc ?_ _)); refine blk_far ?_ NB431_437.out _; (with_reducible repeat (first | refine blk_drewN ?_ _ | refine blk_drew ?_ | refine blk_alloc ?_ _)); exact BK431.out) hb); have n5_ := Aside0.mk (blk_below (g := gb432) (o := .cells #[.int .i64 ((rd_T38 t403 x82_3).f0), .int .i64 ((rd_T38 t403 x82_3).f1)] 40 (0, 0)) (by (with_reducible repeat (first | refine blk_drewN ?_ _ | refine blk_drew ?_ | refine blk_alloc ?_ _)); refine blk_far ?_ NB432_437.out _; (with_reducible repeat (first | refine blk_drewN ?_ _ | refine blk_drew ?_ | refine blk_alloc ?_ _)); refine blk_far ?_ NB432_437.out _; (with_reducible repeat (first | refine blk_drewN ?_ _ | refine blk_drew ?_ | refine blk_alloc ?_ _)); exact BK432.out) hb); have n6_ := Aside0.mk (blk_below (g := gb437) (o := .cells #[.int .i64 ((rd_T40 t417 x106_5).f0), .int .i64 ((rd_T40 t417 x106_5).f1)] 40 (0, 0)) (by (with_reducible repeat (first | refine blk_drewN ?_ _ | refine blk_drew ?_ | refine blk_alloc ?_ _)); refine blk_put (cs := #[.int .i64 ((rd_T40 t417 x106_5).f0), .int .i64 0]) ?_ 1 _ rfl; (with_reducible repeat (first | refine blk_drewN ?_ _ | refine blk_drew ?_ | refine blk_alloc ?_ _)); refine blk_put (cs := #[.int .i64 0, .int .i64 0]) ?_ 0 _ rfl; (with_reducible repeat (first | refine blk_drewN ?_ _ | refine blk_drew ?_ | refine blk_alloc ?_ _)); exact BK437.out) hb); have n7_ := Aside0.mk (below_step (by repeat (first | (with_reducible first | exact HB.out | apply below_alloc | apply pw_below_drewN | apply below_drew1 | refine below_set ?_ GE431.out | refine below_set ?_ GE432.out | refine below_set ?_ GE437.out) | exact HB.out)) hb); clear HO_8; clear HO_9; clear HO_80; clear HO_104; clear BK431; clear BK432; clear BK437; clear HB; have HO_8 := n0_; have HO_9 := n1_; have HO_80 := n2_; have HO_104 := n3_; have BK431 := n4_; have BK432 := n5_; have BK437 := n6_; have HB := n7_; clear n0_ n1_ n2_ n3_ n4_ n5_ n6_ n7_; (try clear hb); (try clear hb2); (try clear hk); (try clear hi)))
                                          go_roundg k5
                                          case measure => have := HJ4.out; have := HK2.out; have := HK3.out; have := HK4.out; have := HK5.out; omega
                                          case rel => exact ⟨(t438), (wrap64 (x106_5 + 1)), (by first | rfl | (simp; done) | (simp [*]; done)), (by first | rfl | (simp; done) | (simp [*]; done)), H', ⟨by have := HJ4.out; have := HK2.out; have := HK3.out; have := HK4.out; have := HK5.out; omega⟩, ⟨by (with_reducible repeat (first | apply Kd.R_alloc | apply Kd.R_drewN | apply Kd.R_drew)); exact Kd.R_mono HO_8.out (fun _ hk => ⟨hk.1.1, ⟨hk.1.2.1, hk.1.2.2⟩⟩)⟩, ⟨by (with_reducible repeat (first | apply Kd.R_alloc | apply Kd.R_drewN | apply Kd.R_drew)); exact Kd.R_mono HO_9.out (fun _ hk => ⟨hk.1.1, hk.1.2⟩)⟩, ⟨by (with_reducible repeat (first | apply Kd.N_alloc | apply Kd.N_drewN | apply Kd.N_drew)); exact Kd.N_mono HO_80.out (fun _ hk => ⟨hk.1.1, ⟨hk.1.2.1, ⟨hk.1.2.2.1, ⟨hk.1.2.2.2.1, hk.1.2.2.2.2⟩⟩⟩⟩)⟩, ⟨by (with_reducible repeat (first | apply Kd.R_alloc | apply Kd.R_drewN | apply Kd.R_drew)); exact Kd.R_mono HO_104.out (fun _ hk => ⟨hk.1.1, hk.1.2⟩)⟩, ⟨by (with_reducible repeat (first | refine blk_drewN ?_ _ | refine blk_drew ?_ | refine blk_alloc ?_ _)); exact BK431.out⟩, ⟨by (with_reducible repeat (first | refine blk_drewN ?_ _ | refine blk_drew ?_ | refine blk_alloc ?_ _)); exact BK432.out⟩, ⟨by repeat (first | (with_reducible first | exact HB.out | apply below_alloc | apply pw_below_drewN | apply below_drew1 | refine below_set ?_ GE431.out | refine below_set ?_ GE432.out | refine below_set ?_ GE437.out) | exact HB.out)⟩⟩
                                      · rw [if_neg c77] at H
                                        exact absurd H (by simp)
                                    · rw [if_neg c76] at H
                                      exact absurd H (by simp)
                                  · rw [if_neg c75] at H
                                    have c75b0 : decide (x106_5 < (t417.length : Int)) = false := decide_eq_false c75
                                    clear c75
                                    by_cases c91 : x19_4 = true
                                    · subst c91
                                      have H1 : (if x20_5 = true then (corporalaw27_StrategyNests.l3 k5 t414 t417 t403 (t403.length : Int) (wrap64 (x82_3 + 1))) else (some false)) = some r := by rw [if_pos rfl] at H; exact H
                                      clear H
                                      have H := H1
                                      clear H1
                                      by_cases c92 : x20_5 = true
                                      · subst c92
                                        have H1 : (corporalaw27_StrategyNests.l3 k5 t414 t417 t403 (t403.length : Int) (wrap64 (x82_3 + 1))) = some r := by rw [if_pos rfl] at H; exact H
                                        clear H
                                        have H := H1
                                        clear H1
                                        have H' := Aside0.mk H
                                        clear H
                                        go_wp2
                                        go_roundg k5
                                        case measure => have := HJ4.out; have := HK2.out; have := HK3.out; have := HK4.out; have := HK5.out; omega
                                        case rel => exact ⟨(wrap64 (x82_3 + 1)), (by first | rfl | (simp; done) | (simp [*]; done)), H', ⟨by have := HJ4.out; have := HK2.out; have := HK3.out; have := HK4.out; have := HK5.out; omega⟩, ⟨by (with_reducible repeat (first | apply Kd.R_alloc | apply Kd.R_drewN | apply Kd.R_drew)); exact Kd.R_mono HO_8.out (fun _ hk => hk.1)⟩, ⟨by (with_reducible repeat (first | apply Kd.R_alloc | apply Kd.R_drewN | apply Kd.R_drew)); exact Kd.R_mono HO_9.out (fun _ hk => hk.1)⟩, ⟨by (with_reducible repeat (first | apply Kd.N_alloc | apply Kd.N_drewN | apply Kd.N_drew)); exact Kd.N_mono HO_80.out (fun _ hk => ⟨hk.1, hk.2.1⟩)⟩, ⟨by repeat (first | (with_reducible first | exact HB.out | apply below_alloc | apply pw_below_drewN | apply below_drew1 | refine below_set ?_ GE431.out | refine below_set ?_ GE432.out) | exact HB.out)⟩⟩
                                      · replace c92 := Bool.eq_false_iff.mpr c92
                                        subst c92
                                        have H1 : (some false) = some r := by rw [if_neg (show ¬ (false = true) by decide)] at H; exact H
                                        clear H
                                        have H := H1
                                        clear H1
                                        obtain rfl := Option.some.inj H
                                        go_wp2
                                        go_ret
                                        exact ⟨by first | rfl | (simp [errW_none, errW_some] <;> rfl) | (simp [*, errW_none, errW_some] <;> rfl), by repeat (first | (with_reducible first | exact HB.out | apply below_alloc | apply pw_below_drewN | apply below_drew1 | refine below_set ?_ GE431.out | refine below_set ?_ GE432.out) | exact HB.out)⟩
                                    · replace c91 := Bool.eq_false_iff.mpr c91
                                      subst c91
                                      have H1 : (some false) = some r := by rw [if_neg (show ¬ (false = true) by decide)] at H; exact H
                                      clear H
                                      have H := H1
                                      clear H1
                                      obtain rfl := Option.some.inj H
                                      go_wp2
                                      go_ret
                                      exact ⟨by first | rfl | (simp [errW_none, errW_some] <;> rfl) | (simp [*, errW_none, errW_some] <;> rfl), by repeat (first | (with_reducible first | exact HB.out | apply below_alloc | apply pw_below_drewN | apply below_drew1 | refine below_set ?_ GE431.out | refine below_set ?_ GE432.out) | exact HB.out)⟩
                      · rw [if_neg c51] at H
                        exact absurd H (by simp)
                    · rw [if_neg c50] at H
                      exact absurd H (by simp)
                  · rw [if_neg c49] at H
                    have c49b0 : decide (x82_3 < (t403.length : Int)) = false := decide_eq_false c49
                    clear c49
                    replace H := Option.bind_eq_some_iff.mp H
                    obtain ⟨t429, A930, H⟩ := H
                    replace H : (some t429) = some r := H
                    have A93 := Aside0.mk A930
                    clear A930
                    obtain rfl := Option.some.inj H
                    go_wp2_with (first | ((with_reducible refine gate_callee (f := 18) rfl ?_); refine goesL_ (some 124) rfl rfl Try.func18 (by kernel_rfl) rfl #[] rfl (by (try simp only [List.map_toArray, List.map_cons, List.map_nil]); first | done | rfl | (simp only [List.length_drop, List.length_take]; rfl)) ?_; (with_reducible refine (corporalaw27_known.calls k3  t429 _ A93.out).mono ?_); rintro e w94 ⟨rfl, hb⟩; refine ⟨_, rfl, ?_⟩; have n0_ := Aside0.mk (Kd.R_below (by (with_reducible repeat (first | apply Kd.R_alloc | apply Kd.R_drewN | apply Kd.R_drew)); exact HO_8.out) hb); have n1_ := Aside0.mk (Kd.R_below (by (with_reducible repeat (first | apply Kd.R_alloc | apply Kd.R_drewN | apply Kd.R_drew)); exact HO_9.out) hb); have n2_ := Aside0.mk (Kd.N_below (by (with_reducible repeat (first | apply Kd.N_alloc | apply Kd.N_drewN | apply Kd.N_drew)); exact HO_80.out) hb); have n3_ := Aside0.mk (below_step (by repeat (first | (with_reducible first | exact HB.out | apply below_alloc | apply pw_below_drewN | apply below_drew1) | exact HB.out)) hb); clear HO_8; clear HO_9; clear HO_80; clear HB; have HO_8 := n0_; have HO_9 := n1_; have HO_80 := n2_; have HB := n3_; clear n0_ n1_ n2_ n3_; (try clear hb); (try clear hb2); (try clear hk); (try clear hi)))
                    go_ret
                    exact ⟨by first | rfl | (simp [errW_none, errW_some] <;> rfl) | (simp [*, errW_none, errW_some] <;> rfl), by repeat (first | (with_reducible first | exact HB.out | apply below_alloc | apply pw_below_drewN | apply below_drew1) | exact HB.out)⟩

/-- THE ONE PURE STATEMENT of corporalaw27_StrategyNests: yours. -/
def corporalaw27_StrategyNests.Pure : Prop := ∀ (l0 : List Int), l0.length ≤ maxLen → l0.length * 8 ≤ 140737488351232 → (∀ x ∈ l0, (Lit.int .i64 x).wf = true) → ∃ k, corporalaw27_StrategyNests.f k l0 = some true
theorem corporalaw27_StrategyNests.walk (P : corporalaw27_StrategyNests.Pure) (a0 : Option Addr) (len0 cap0 : Nat) (z0 : List Int) (w : World) (w0 : (a0 = none ∧ len0 = 0 ∧ cap0 = 0 ∧ z0 = []) ∨ ∃ x, a0 = some x ∧ len0 ≤ cap0 ∧ cap0 ≤ maxLen ∧ z0.length = cap0 ∧ (∀ i, i < z0.length → w.cell? (x.add i) = some (.int .i64 (z0.getD i 0))) ∧ ∀ n ∈ z0, (Lit.int .i64 n).wf = true) (y0 : len0 * 8 ≤ 140737488351232) :
    Calls Try.prog 7 #[.slice a0 len0 cap0] w fun e w' => e = .returned (.bool true) ∧ Below w.heap.size w w' := by
  obtain ⟨l0, rfl, hr0, hm0, hw0, hc0⟩ := ReadsInt.ofRowC w0
  obtain ⟨k, h⟩ := P l0 hm0 y0 hw0
  refine (corporalaw27_StrategyNests.calls k _ _ l0 true w (Kd.C_of_reads (d := (0 : Int)) (h1 := fun _ => rfl) hr0) hc0 h).mono ?_
  rintro e w' ⟨rfl, hd⟩
  exact ⟨rfl, hd⟩
end Go.Proofs.Ytmmdlkeemafanaa.Q
