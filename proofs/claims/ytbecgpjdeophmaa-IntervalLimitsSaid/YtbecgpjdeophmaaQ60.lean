import Derived.Test.YtbecgpjdeophmaaQx0
import Derived.Test.YtbecgpjdeophmaaQx1
import Derived.Test.YtbecgpjdeophmaaQf
import Derived.Test.YtbecgpjdeophmaaQg
import Derived.Test.YtbecgpjdeophmaaQm
namespace Go.Proofs.Ytbecgpjdeophmaa.Q
open Go.RowKit Go.Proofs.YtbecgpjdeophmaaW.PrintWords Go.Proofs.YtbecgpjdeophmaaW.PrintLast Go.Proofs.YtbecgpjdeophmaaW.PrintMore
attribute [local go_sem] max2_int min2_int max_two min_two max_three min_three max_four min_four   -- for this text's walks alone
set_option linter.unusedVariables false
set_option linter.unusedSimpArgs false

attribute [local go_sem high] eqA23
/-! ### Lim: function 6 -/
mutual
def Lim.j0 : Nat → Bool → Int → Int → Int → Option (Bool)
  | 0, _, _, _, _ => none
  | k + 1, x0, x5, x249000, x249001 => if 0 ≤ x5 then (if (x5 : Int).toNat ≤ 17592186044416 then ((some (List.replicate (x5 : Int).toNat z23 : List (S23))).bind fun y249 => (Lim.l0 k x0 y249 (y249.length : Int) 0 x249000 x249001)) else (none)) else (none)
def Lim.l0 : Nat → Bool → List (S23) → Int → Int → Int → Int → Option (Bool)
  | 0, _, _, _, _, _, _ => none
  | k + 1, x0, x6, x18, x19, x249000, x249001 => if x19 < x18 then (if 0 ≤ x19 then (if x19 < (x6.length : Int) then (Lim.l0 k x0 (x6.set (x19 : Int).toNat (⟨x249000, x249001⟩ : S23)) x18 (wrap64 (x19 + 1)) x249000 x249001) else (none)) else (none)) else ((interval_Normalize.f k x6).bind fun bt253 => ((interval_Cover.f k x6).bind fun bt257 => (if x0 = true then (if bt253.2 = 2 then (if bt257.2 = 2 then (if (wrap64 ((bt253.1.length : Int) + (bt257.1.length : Int))) = 0 then ((corporalaw11_awake.f k).bind fun t261 => (some t261)) else (some false)) else (some false)) else (some false)) else ((corporaref11_Valid.f x249000 x249001).bind fun t262 => (if t262 = true then (if bt253.2 = 0 then (if bt257.2 = 0 then (if (bt253.1.length : Int) = 1 then (if (bt257.1.length : Int) = 1 then (if 0 < (bt253.1.length : Int) then (if (((rd_T23 bt253.1 0).f0) == x249000 && (((rd_T23 bt253.1 0).f1) == x249001)) = true then (if 0 < (bt257.1.length : Int) then (if (((rd_T23 bt257.1 0).f0) == x249000 && (((rd_T23 bt257.1 0).f1) == x249001)) = true then ((corporalaw11_awake.f k).bind fun t265 => (some t265)) else (some false)) else (none)) else (some false)) else (none)) else (some false)) else (some false)) else (some false)) else (some false)) else (if bt253.2 = 8 then (if bt257.2 = 8 then (if (wrap64 ((bt253.1.length : Int) + (bt257.1.length : Int))) = 0 then ((corporalaw11_awake.f k).bind fun t266 => (some t266)) else (some false)) else (some false)) else (some false)))))))
end
def Lim.f (k : Nat) (a0 : Bool) (a1_0 : Int) (a1_1 : Int) : Option (Bool) := if a0 = true then (Lim.j0 k a0 (4096 + 1) a1_0 a1_1) else (Lim.j0 k a0 4096 a1_0 a1_1)
theorem Lim.mono_l : ∀ k, (∀ y0 y1 y2 y3, LeO (Lim.j0 k y0 y1 y2 y3) (Lim.j0 (k + 1) y0 y1 y2 y3)) ∧ (∀ y0 y1 y2 y3 y4 y5, LeO (Lim.l0 k y0 y1 y2 y3 y4 y5) (Lim.l0 (k + 1) y0 y1 y2 y3 y4 y5))
  | 0 => ⟨fun _ _ _ _ r h => by simp [Lim.j0] at h, fun _ _ _ _ _ _ r h => by simp [Lim.l0] at h⟩
  | k + 1 => by
    obtain ⟨ih0, ih1⟩ := Lim.mono_l k
    refine ⟨?_, ?_⟩
    ·intro y0 y1 y2 y3
     unfold Lim.j0
     repeat' first
     | (with_reducible exact ih0 _ _ _ _)
     | (with_reducible exact ih1 _ _ _ _ _ _)
     | (with_reducible exact corporalaw11_awake.mono _)
     | (with_reducible exact interval_Cover.mono _ _)
     | (with_reducible exact interval_Normalize.mono _ _)
     | (with_reducible exact LeO.refl _)
     | (with_reducible exact LeO.none _)
     | (with_reducible refine LeO.ite ?_ ?_)
     | (with_reducible refine LeO.bind ?_ (fun _ => ?_))
     | exact ih0 _ _ _ _
     | exact ih1 _ _ _ _ _ _
     | exact corporalaw11_awake.mono _
     | exact interval_Cover.mono _ _
     | exact interval_Normalize.mono _ _
     | exact LeO.none _
     | refine LeO.ite ?_ ?_
     | refine LeO.bind ?_ (fun _ => ?_)
    intro y0 y1 y2 y3 y4 y5
    unfold Lim.l0
    repeat' first
    | (with_reducible exact ih0 _ _ _ _)
    | (with_reducible exact ih1 _ _ _ _ _ _)
    | (with_reducible exact corporalaw11_awake.mono _)
    | (with_reducible exact interval_Cover.mono _ _)
    | (with_reducible exact interval_Normalize.mono _ _)
    | (with_reducible exact LeO.refl _)
    | (with_reducible exact LeO.none _)
    | (with_reducible refine LeO.ite ?_ ?_)
    | (with_reducible refine LeO.bind ?_ (fun _ => ?_))
    | exact ih0 _ _ _ _
    | exact ih1 _ _ _ _ _ _
    | exact corporalaw11_awake.mono _
    | exact interval_Cover.mono _ _
    | exact interval_Normalize.mono _ _
    | exact LeO.none _
    | refine LeO.ite ?_ ?_
    | refine LeO.bind ?_ (fun _ => ?_)
theorem Lim.mono : ∀ a0 a1 a2 k, LeO (Lim.f k a0 a1 a2) (Lim.f (k + 1) a0 a1 a2) := by
  intro a0 a1 a2 k
  obtain ⟨ih0, ih1⟩ := Lim.mono_l k
  unfold Lim.f
  repeat' first
      | (with_reducible exact ih0 _ _ _ _)
      | (with_reducible exact ih1 _ _ _ _ _ _)
      | (with_reducible exact corporalaw11_awake.mono _)
      | (with_reducible exact interval_Cover.mono _ _)
      | (with_reducible exact interval_Normalize.mono _ _)
      | (with_reducible exact LeO.refl _)
      | (with_reducible exact LeO.none _)
      | (with_reducible refine LeO.ite ?_ ?_)
      | (with_reducible refine LeO.bind ?_ (fun _ => ?_))
      | exact ih0 _ _ _ _
      | exact ih1 _ _ _ _ _ _
      | exact corporalaw11_awake.mono _
      | exact interval_Cover.mono _ _
      | exact interval_Normalize.mono _ _
      | exact LeO.none _
      | refine LeO.ite ?_ ?_
      | refine LeO.bind ?_ (fun _ => ?_)
end Go.Proofs.Ytbecgpjdeophmaa.Q
