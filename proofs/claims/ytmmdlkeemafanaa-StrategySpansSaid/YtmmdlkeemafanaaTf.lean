import Derived.Test.YtmmdlkeemafanaaQx0
import Derived.Test.YtmmdlkeemafanaaQx1
import Derived.Test.YtmmdlkeemafanaaTa
import Derived.Test.YtmmdlkeemafanaaQm
namespace Go.Proofs.Ytmmdlkeemafanaa.Q
open Go.RowKit Go.Proofs.YtmmdlkeemafanaaW.PrintWords Go.Proofs.YtmmdlkeemafanaaW.PrintLast Go.Proofs.YtmmdlkeemafanaaW.PrintMore
attribute [local go_sem] max2_int min2_int max_two min_two max_three min_three max_four min_four   -- for this text's walks alone
set_option linter.unusedVariables false
set_option linter.unusedSimpArgs false

attribute [local go_sem high] eqA40

/-! ### corporalaw27_list: function 10 -/
mutual
def corporalaw27_list.l0 : Nat → Int → List (S38) → Int → List Int → Int → Option ((List (S38)))
  | 0, _, _, _, _, _ => none
  | k + 1, x4, x5, x6, x127000, x127001 => if x6 > 0 then ((corporamade_Tape_Next.f x127000 x127001 9).bind fun bt131 => ((corporamade_Tape_Next.f x127000 bt131.2 5).bind fun bt134 => (corporalaw27_list.l1 k x4 x5 x6 0 x127000 bt134.2 bt131.1 (wrap64 ((wrap64 (bt131.1 + 1)) + bt134.1)) ([] : List Int)))) else (some x5)
def corporalaw27_list.l1 : Nat → Int → List (S38) → Int → Int → List Int → Int → Int → Int → List Int → Option ((List (S38)))
  | 0, _, _, _, _, _, _, _, _, _ => none
  | k + 1, x4, x5, x6, x8, x127000, x127001, x134000, x134001, x134002 => if x8 < x4 then ((corporamade_Tape_Next.f x127000 x127001 5).bind fun bt136 => ((some (([wrap64 (bt136.1 - 1)] : List Int) : List Int)).bind fun y138 => (if x134002.length + y138.length < 17592186044416 then (corporalaw27_list.l1 k x4 x5 x6 (wrap64 (x8 + 1)) x127000 bt136.2 x134000 x134001 (x134002 ++ y138)) else (none)))) else (corporalaw27_list.l2 k x4 x5 x6 (x5.length : Int) x127000 x127001 x134000 x134001 x134002)
def corporalaw27_list.l2 : Nat → Int → List (S38) → Int → Int → List Int → Int → Int → Int → List Int → Option ((List (S38)))
  | 0, _, _, _, _, _, _, _, _, _ => none
  | k + 1, x4, x5, x6, x9, x127000, x127001, x134000, x134001, x134002 => if x9 > 0 then (if 0 ≤ (wrap64 (x9 - 1)) then (if (wrap64 (x9 - 1)) < (x5.length : Int) then ((corporaref24_Compare.f k x134000 x134001 x134002 ((rd_T38 x5 (wrap64 (x9 - 1))).f0) ((rd_T38 x5 (wrap64 (x9 - 1))).f1) ((rd_T38 x5 (wrap64 (x9 - 1))).f2)).bind fun t145 => (if t145 < 0 then (corporalaw27_list.l2 k x4 x5 x6 (wrap64 (x9 - 1)) x127000 x127001 x134000 x134001 x134002) else (if x9 = 0 then ((some (([] : List (S38)) : List (S38))).bind fun y146 => (if 0 ≤ x9 then (if x9 ≤ (x5.length : Int) then ((some (x5.take (x9 : Int).toNat : List (S38))).bind fun y149 => (if y146.length + y149.length < 3518437208883 then ((some (y146 ++ y149 : List (S38))).bind fun y154 => ((some (([(⟨x134000, x134001, x134002⟩ : S38)] : List (S38)) : List (S38))).bind fun y157 => (if y154.length + y157.length < 3518437208883 then ((some (y154 ++ y157 : List (S38))).bind fun y160 => ((some (x5.drop (x9 : Int).toNat : List (S38))).bind fun y163 => (if y160.length + y163.length < 3518437208883 then (corporalaw27_list.l0 k x4 (y160 ++ y163) (wrap64 (x6 - 1)) x127000 x127001) else (none)))) else (none)))) else (none))) else (none)) else (none))) else ((corporaref24_Compare.f k x134000 x134001 x134002 ((rd_T38 x5 (wrap64 (x9 - 1))).f0) ((rd_T38 x5 (wrap64 (x9 - 1))).f1) ((rd_T38 x5 (wrap64 (x9 - 1))).f2)).bind fun t172 => (if t172 = 0 then (corporalaw27_list.l0 k x4 x5 (wrap64 (x6 - 1)) x127000 x127001) else ((some (([] : List (S38)) : List (S38))).bind fun y173 => (if 0 ≤ x9 then (if x9 ≤ (x5.length : Int) then ((some (x5.take (x9 : Int).toNat : List (S38))).bind fun y176 => (if y173.length + y176.length < 3518437208883 then ((some (y173 ++ y176 : List (S38))).bind fun y181 => ((some (([(⟨x134000, x134001, x134002⟩ : S38)] : List (S38)) : List (S38))).bind fun y184 => (if y181.length + y184.length < 3518437208883 then ((some (y181 ++ y184 : List (S38))).bind fun y187 => ((some (x5.drop (x9 : Int).toNat : List (S38))).bind fun y190 => (if y187.length + y190.length < 3518437208883 then (corporalaw27_list.l0 k x4 (y187 ++ y190) (wrap64 (x6 - 1)) x127000 x127001) else (none)))) else (none)))) else (none))) else (none)) else (none)))))))) else (none)) else (none)) else (if x9 = 0 then ((some (([] : List (S38)) : List (S38))).bind fun y198 => (if 0 ≤ x9 then (if x9 ≤ (x5.length : Int) then ((some (x5.take (x9 : Int).toNat : List (S38))).bind fun y201 => (if y198.length + y201.length < 3518437208883 then ((some (y198 ++ y201 : List (S38))).bind fun y206 => ((some (([(⟨x134000, x134001, x134002⟩ : S38)] : List (S38)) : List (S38))).bind fun y209 => (if y206.length + y209.length < 3518437208883 then ((some (y206 ++ y209 : List (S38))).bind fun y212 => ((some (x5.drop (x9 : Int).toNat : List (S38))).bind fun y215 => (if y212.length + y215.length < 3518437208883 then (corporalaw27_list.l0 k x4 (y212 ++ y215) (wrap64 (x6 - 1)) x127000 x127001) else (none)))) else (none)))) else (none))) else (none)) else (none))) else (if 0 ≤ (wrap64 (x9 - 1)) then (if (wrap64 (x9 - 1)) < (x5.length : Int) then ((corporaref24_Compare.f k x134000 x134001 x134002 ((rd_T38 x5 (wrap64 (x9 - 1))).f0) ((rd_T38 x5 (wrap64 (x9 - 1))).f1) ((rd_T38 x5 (wrap64 (x9 - 1))).f2)).bind fun t224 => (if t224 = 0 then (corporalaw27_list.l0 k x4 x5 (wrap64 (x6 - 1)) x127000 x127001) else ((some (([] : List (S38)) : List (S38))).bind fun y225 => (if 0 ≤ x9 then (if x9 ≤ (x5.length : Int) then ((some (x5.take (x9 : Int).toNat : List (S38))).bind fun y228 => (if y225.length + y228.length < 3518437208883 then ((some (y225 ++ y228 : List (S38))).bind fun y233 => ((some (([(⟨x134000, x134001, x134002⟩ : S38)] : List (S38)) : List (S38))).bind fun y236 => (if y233.length + y236.length < 3518437208883 then ((some (y233 ++ y236 : List (S38))).bind fun y239 => ((some (x5.drop (x9 : Int).toNat : List (S38))).bind fun y242 => (if y239.length + y242.length < 3518437208883 then (corporalaw27_list.l0 k x4 (y239 ++ y242) (wrap64 (x6 - 1)) x127000 x127001) else (none)))) else (none)))) else (none))) else (none)) else (none))))) else (none)) else (none)))
end
def corporalaw27_list.f (k : Nat) (l0 : List Int) : Option ((List (S38))) := (corporamade_New.f l0).bind fun bt124 => ((corporamade_Tape_Next.f bt124.1 bt124.2 2).bind fun bt127 => ((corporamade_Tape_Next.f bt124.1 bt127.2 14).bind fun bt129 => (corporalaw27_list.l0 k bt127.1 ([] : List (S38)) bt129.1 bt124.1 bt129.2)))
def corporalaw27_list.tail (k : Nat) (x4 : Int) (x5 : List S38) (x6 x9 : Int) (x127000 : List Int) (x127001 x134000 x134001 : Int) (x134002 : List Int) : Option (List S38) := (if x9 = 0 then ((some (([] : List (S38)) : List (S38))).bind fun y198 => (if 0 ≤ x9 then (if x9 ≤ (x5.length : Int) then ((some (x5.take (x9 : Int).toNat : List (S38))).bind fun y201 => (if y198.length + y201.length < 3518437208883 then ((some (y198 ++ y201 : List (S38))).bind fun y206 => ((some (([(⟨x134000, x134001, x134002⟩ : S38)] : List (S38)) : List (S38))).bind fun y209 => (if y206.length + y209.length < 3518437208883 then ((some (y206 ++ y209 : List (S38))).bind fun y212 => ((some (x5.drop (x9 : Int).toNat : List (S38))).bind fun y215 => (if y212.length + y215.length < 3518437208883 then (corporalaw27_list.l0 k x4 (y212 ++ y215) (wrap64 (x6 - 1)) x127000 x127001) else (none)))) else (none)))) else (none))) else (none)) else (none))) else (if 0 ≤ (wrap64 (x9 - 1)) then (if (wrap64 (x9 - 1)) < (x5.length : Int) then ((corporaref24_Compare.f k x134000 x134001 x134002 ((rd_T38 x5 (wrap64 (x9 - 1))).f0) ((rd_T38 x5 (wrap64 (x9 - 1))).f1) ((rd_T38 x5 (wrap64 (x9 - 1))).f2)).bind fun t224 => (if t224 = 0 then (corporalaw27_list.l0 k x4 x5 (wrap64 (x6 - 1)) x127000 x127001) else ((some (([] : List (S38)) : List (S38))).bind fun y225 => (if 0 ≤ x9 then (if x9 ≤ (x5.length : Int) then ((some (x5.take (x9 : Int).toNat : List (S38))).bind fun y228 => (if y225.length + y228.length < 3518437208883 then ((some (y225 ++ y228 : List (S38))).bind fun y233 => ((some (([(⟨x134000, x134001, x134002⟩ : S38)] : List (S38)) : List (S38))).bind fun y236 => (if y233.length + y236.length < 3518437208883 then ((some (y233 ++ y236 : List (S38))).bind fun y239 => ((some (x5.drop (x9 : Int).toNat : List (S38))).bind fun y242 => (if y239.length + y242.length < 3518437208883 then (corporalaw27_list.l0 k x4 (y239 ++ y242) (wrap64 (x6 - 1)) x127000 x127001) else (none)))) else (none)))) else (none))) else (none)) else (none))))) else (none)) else (none)))
theorem corporalaw27_list.mono_l : ∀ k, (∀ y0 y1 y2 y3 y4, LeO (corporalaw27_list.l0 k y0 y1 y2 y3 y4) (corporalaw27_list.l0 (k + 1) y0 y1 y2 y3 y4)) ∧ (∀ y0 y1 y2 y3 y4 y5 y6 y7 y8, LeO (corporalaw27_list.l1 k y0 y1 y2 y3 y4 y5 y6 y7 y8) (corporalaw27_list.l1 (k + 1) y0 y1 y2 y3 y4 y5 y6 y7 y8)) ∧ (∀ y0 y1 y2 y3 y4 y5 y6 y7 y8, LeO (corporalaw27_list.l2 k y0 y1 y2 y3 y4 y5 y6 y7 y8) (corporalaw27_list.l2 (k + 1) y0 y1 y2 y3 y4 y5 y6 y7 y8))
  | 0 => ⟨fun _ _ _ _ _ r h => by simp [corporalaw27_list.l0] at h, fun _ _ _ _ _ _ _ _ _ r h => by simp [corporalaw27_list.l1] at h, fun _ _ _ _ _ _ _ _ _ r h => by simp [corporalaw27_list.l2] at h⟩
  | k + 1 => by
    obtain ⟨ih0, ih1, ih2⟩ := corporalaw27_list.mono_l k
    refine ⟨?_, ?_, ?_⟩
    · intro y0 y1 y2 y3 y4
      unfold corporalaw27_list.l0
      repeat' first
      | (with_reducible exact ih0 _ _ _ _ _)
      | (with_reducible exact ih1 _ _ _ _ _ _ _ _ _)
      | (with_reducible exact ih2 _ _ _ _ _ _ _ _ _)
      | (with_reducible exact corporaref24_Compare.mono _ _ _ _ _ _ _)
      | (with_reducible exact LeO.refl _)
      | (with_reducible exact LeO.none _)
      | (with_reducible refine LeO.ite ?_ ?_)
      | (with_reducible refine LeO.bind ?_ (fun _ => ?_))
      | exact ih0 _ _ _ _ _
      | exact ih1 _ _ _ _ _ _ _ _ _
      | exact ih2 _ _ _ _ _ _ _ _ _
      | exact corporaref24_Compare.mono _ _ _ _ _ _ _
      | exact LeO.none _
      | refine LeO.ite ?_ ?_
      | refine LeO.bind ?_ (fun _ => ?_)
    · intro y0 y1 y2 y3 y4 y5 y6 y7 y8
      unfold corporalaw27_list.l1
      repeat' first
      | (with_reducible exact ih0 _ _ _ _ _)
      | (with_reducible exact ih1 _ _ _ _ _ _ _ _ _)
      | (with_reducible exact ih2 _ _ _ _ _ _ _ _ _)
      | (with_reducible exact corporaref24_Compare.mono _ _ _ _ _ _ _)
      | (with_reducible exact LeO.refl _)
      | (with_reducible exact LeO.none _)
      | (with_reducible refine LeO.ite ?_ ?_)
      | (with_reducible refine LeO.bind ?_ (fun _ => ?_))
      | exact ih0 _ _ _ _ _
      | exact ih1 _ _ _ _ _ _ _ _ _
      | exact ih2 _ _ _ _ _ _ _ _ _
      | exact corporaref24_Compare.mono _ _ _ _ _ _ _
      | exact LeO.none _
      | refine LeO.ite ?_ ?_
      | refine LeO.bind ?_ (fun _ => ?_)
    · intro y0 y1 y2 y3 y4 y5 y6 y7 y8
      unfold corporalaw27_list.l2
      repeat' first
      | (with_reducible exact ih0 _ _ _ _ _)
      | (with_reducible exact ih1 _ _ _ _ _ _ _ _ _)
      | (with_reducible exact ih2 _ _ _ _ _ _ _ _ _)
      | (with_reducible exact corporaref24_Compare.mono _ _ _ _ _ _ _)
      | (with_reducible exact LeO.refl _)
      | (with_reducible exact LeO.none _)
      | (with_reducible refine LeO.ite ?_ ?_)
      | (with_reducible refine LeO.bind ?_ (fun _ => ?_))
      | exact ih0 _ _ _ _ _
      | exact ih1 _ _ _ _ _ _ _ _ _
      | exact ih2 _ _ _ _ _ _ _ _ _
      | exact corporaref24_Compare.mono _ _ _ _ _ _ _
      | exact LeO.none _
      | refine LeO.ite ?_ ?_
      | refine LeO.bind ?_ (fun _ => ?_)
theorem corporalaw27_list.mono : ∀ a0 k, LeO (corporalaw27_list.f k a0) (corporalaw27_list.f (k + 1) a0) := by
  intro a0 k
  obtain ⟨ih0, ih1, ih2⟩ := corporalaw27_list.mono_l k
  unfold corporalaw27_list.f
  repeat' first
      | (with_reducible exact ih0 _ _ _ _ _)
      | (with_reducible exact ih1 _ _ _ _ _ _ _ _ _)
      | (with_reducible exact ih2 _ _ _ _ _ _ _ _ _)
      | (with_reducible exact corporaref24_Compare.mono _ _ _ _ _ _ _)
      | (with_reducible exact LeO.refl _)
      | (with_reducible exact LeO.none _)
      | (with_reducible refine LeO.ite ?_ ?_)
      | (with_reducible refine LeO.bind ?_ (fun _ => ?_))
      | exact ih0 _ _ _ _ _
      | exact ih1 _ _ _ _ _ _ _ _ _
      | exact ih2 _ _ _ _ _ _ _ _ _
      | exact corporaref24_Compare.mono _ _ _ _ _ _ _
      | exact LeO.none _
      | refine LeO.ite ?_ ?_
      | refine LeO.bind ?_ (fun _ => ?_)

end Go.Proofs.Ytmmdlkeemafanaa.Q
