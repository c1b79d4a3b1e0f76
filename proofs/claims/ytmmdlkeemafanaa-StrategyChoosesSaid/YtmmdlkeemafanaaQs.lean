import Derived.Test.YtmmdlkeemafanaaQx0
import Derived.Test.YtmmdlkeemafanaaQx1
import Derived.Test.YtmmdlkeemafanaaQi
import Derived.Test.YtmmdlkeemafanaaQl
import Derived.Test.YtmmdlkeemafanaaQm
import Derived.Test.YtmmdlkeemafanaaQn
namespace Go.Proofs.Ytmmdlkeemafanaa.Q
open Go.RowKit Go.Proofs.YtmmdlkeemafanaaW.PrintWords Go.Proofs.YtmmdlkeemafanaaW.PrintLast Go.Proofs.YtmmdlkeemafanaaW.PrintMore
attribute [local go_sem] max2_int min2_int max_two min_two max_three min_three max_four min_four   -- for this text's walks alone
set_option linter.unusedVariables false
set_option linter.unusedSimpArgs false

attribute [local go_sem high] eqA40

/-! ### corporaref27_Choose: function 13 -/
mutual
def corporaref27_Choose.j0 : Nat → Int → List (S38) → Bool → Option ((List (S38)) × Int)
  | 0, _, _, _ => none
  | k + 1, x0, x1, x20 => if x20 = true then (some (([] : List (S38)), 1)) else (corporaref27_Choose.l0 k x0 x1 x1 (x1.length : Int) 0)
def corporaref27_Choose.l0 : Nat → Int → List (S38) → List (S38) → Int → Int → Option ((List (S38)) × Int)
  | 0, _, _, _, _, _ => none
  | k + 1, x0, x1, x21, x22, x23 => if x23 < x22 then (if 0 ≤ x23 then (if x23 < (x21.length : Int) then (if ((rd_T38 x21 x23).f0) < 0 then (some (([] : List (S38)), 8)) else (if ((rd_T38 x21 x23).f0) ≥ ((rd_T38 x21 x23).f1) then (some (([] : List (S38)), 8)) else (corporaref27_Choose.l0 k x0 x1 x21 x22 (wrap64 (x23 + 1))))) else (none)) else (none)) else (corporaref27_Choose.l1 k x0 x1 1)
def corporaref27_Choose.l1 : Nat → Int → List (S38) → Int → Option ((List (S38)) × Int)
  | 0, _, _, _ => none
  | k + 1, x0, x1, x8 => if x8 < (x1.length : Int) then (if 0 ≤ (wrap64 (x8 - 1)) then (if (wrap64 (x8 - 1)) < (x1.length : Int) then (if 0 ≤ x8 then ((corporaref24_Compare.f k ((rd_T38 x1 (wrap64 (x8 - 1))).f0) ((rd_T38 x1 (wrap64 (x8 - 1))).f1) ((rd_T38 x1 (wrap64 (x8 - 1))).f2) ((rd_T38 x1 x8).f0) ((rd_T38 x1 x8).f1) ((rd_T38 x1 x8).f2)).bind fun t263 => (if t263 ≥ 0 then (some (([] : List (S38)), 6)) else (corporaref27_Choose.l1 k x0 x1 (wrap64 (x8 + 1))))) else (none)) else (none)) else (none)) else ((corporaref27_Spans.f k x1).bind fun t264 => ((corporaref27_Chosen.f k x0 t264).bind fun t267 => (corporaref27_Choose.l2 k t267 ([] : List (S38)) x1 (x1.length : Int) 0)))
def corporaref27_Choose.l2 : Nat → List (S40) → List (S38) → List (S38) → Int → Int → Option ((List (S38)) × Int)
  | 0, _, _, _, _, _ => none
  | k + 1, x9, x10, x59, x60, x61 => if x61 < x60 then (if 0 ≤ x61 then (if x61 < (x59.length : Int) then (corporaref27_Choose.l3 k x9 x10 x59 x60 x61 x9 (x9.length : Int) 0 ((rd_T38 x59 x61).f0) ((rd_T38 x59 x61).f1) ((rd_T38 x59 x61).f2)) else (none)) else (none)) else (some (x10, 0))
def corporaref27_Choose.l3 : Nat → List (S40) → List (S38) → List (S38) → Int → Int → List (S40) → Int → Int → Int → Int → List Int → Option ((List (S38)) × Int)
  | 0, _, _, _, _, _, _, _, _, _, _, _ => none
  | k + 1, x9, x10, x59, x60, x61, x65, x66, x67, x272000, x272001, x272002 => if x67 < x66 then (if 0 ≤ x67 then (if x67 < (x65.length : Int) then (if (((rd_T40 x65 x67).f0) == x272000 && (((rd_T40 x65 x67).f1) == x272001)) = true then (if x10.length < 3518437208883 then (corporaref27_Choose.l3 k x9 (x10 ++ [(⟨x272000, x272001, x272002⟩ : S38)]) x59 x60 x61 x65 x66 (wrap64 (x67 + 1)) x272000 x272001 x272002) else (none)) else (corporaref27_Choose.l3 k x9 x10 x59 x60 x61 x65 x66 (wrap64 (x67 + 1)) x272000 x272001 x272002)) else (none)) else (none)) else (corporaref27_Choose.l2 k x9 x10 x59 x60 (wrap64 (x61 + 1)))
end
def corporaref27_Choose.f (k : Nat) (a0 : Int) (l1 : List (S38)) : Option ((List (S38)) × Int) := if a0 < 0 then (corporaref27_Choose.j0 k a0 l1 true) else (corporaref27_Choose.j0 k a0 l1 (decide (a0 > 3)))
theorem corporaref27_Choose.mono_l : ∀ k, (∀ y0 y1 y2, LeO (corporaref27_Choose.j0 k y0 y1 y2) (corporaref27_Choose.j0 (k + 1) y0 y1 y2)) ∧ (∀ y0 y1 y2 y3 y4, LeO (corporaref27_Choose.l0 k y0 y1 y2 y3 y4) (corporaref27_Choose.l0 (k + 1) y0 y1 y2 y3 y4)) ∧ (∀ y0 y1 y2, LeO (corporaref27_Choose.l1 k y0 y1 y2) (corporaref27_Choose.l1 (k + 1) y0 y1 y2)) ∧ (∀ y0 y1 y2 y3 y4, LeO (corporaref27_Choose.l2 k y0 y1 y2 y3 y4) (corporaref27_Choose.l2 (k + 1) y0 y1 y2 y3 y4)) ∧ (∀ y0 y1 y2 y3 y4 y5 y6 y7 y8 y9 y10, LeO (corporaref27_Choose.l3 k y0 y1 y2 y3 y4 y5 y6 y7 y8 y9 y10) (corporaref27_Choose.l3 (k + 1) y0 y1 y2 y3 y4 y5 y6 y7 y8 y9 y10))
  | 0 => ⟨fun _ _ _ r h => by simp [corporaref27_Choose.j0] at h, fun _ _ _ _ _ r h => by simp [corporaref27_Choose.l0] at h, fun _ _ _ r h => by simp [corporaref27_Choose.l1] at h, fun _ _ _ _ _ r h => by simp [corporaref27_Choose.l2] at h, fun _ _ _ _ _ _ _ _ _ _ _ r h => by simp [corporaref27_Choose.l3] at h⟩
  | k + 1 => by
    obtain ⟨ih0, ih1, ih2, ih3, ih4⟩ := corporaref27_Choose.mono_l k
    refine ⟨?_, ?_, ?_, ?_, ?_⟩
    ·intro y0 y1 y2
     unfold corporaref27_Choose.j0
     repeat' first
     | (with_reducible exact ih0 _ _ _)
     | (with_reducible exact ih1 _ _ _ _ _)
     | (with_reducible exact ih2 _ _ _)
     | (with_reducible exact ih3 _ _ _ _ _)
     | (with_reducible exact ih4 _ _ _ _ _ _ _ _ _ _ _)
     | (with_reducible exact corporaref24_Compare.mono _ _ _ _ _ _ _)
     | (with_reducible exact corporaref27_Chosen.mono _ _ _)
     | (with_reducible exact corporaref27_Spans.mono _ _)
     | (with_reducible exact LeO.refl _)
     | (with_reducible exact LeO.none _)
     | (with_reducible refine LeO.ite ?_ ?_)
     | (with_reducible refine LeO.bind ?_ (fun _ => ?_))
     | exact ih0 _ _ _
     | exact ih1 _ _ _ _ _
     | exact ih2 _ _ _
     | exact ih3 _ _ _ _ _
     | exact ih4 _ _ _ _ _ _ _ _ _ _ _
     | exact corporaref24_Compare.mono _ _ _ _ _ _ _
     | exact corporaref27_Chosen.mono _ _ _
     | exact corporaref27_Spans.mono _ _
     | exact LeO.none _
     | refine LeO.ite ?_ ?_
     | refine LeO.bind ?_ (fun _ => ?_)
    ·intro y0 y1 y2 y3 y4
     unfold corporaref27_Choose.l0
     repeat' first
     | (with_reducible exact ih0 _ _ _)
     | (with_reducible exact ih1 _ _ _ _ _)
     | (with_reducible exact ih2 _ _ _)
     | (with_reducible exact ih3 _ _ _ _ _)
     | (with_reducible exact ih4 _ _ _ _ _ _ _ _ _ _ _)
     | (with_reducible exact corporaref24_Compare.mono _ _ _ _ _ _ _)
     | (with_reducible exact corporaref27_Chosen.mono _ _ _)
     | (with_reducible exact corporaref27_Spans.mono _ _)
     | (with_reducible exact LeO.refl _)
     | (with_reducible exact LeO.none _)
     | (with_reducible refine LeO.ite ?_ ?_)
     | (with_reducible refine LeO.bind ?_ (fun _ => ?_))
     | exact ih0 _ _ _
     | exact ih1 _ _ _ _ _
     | exact ih2 _ _ _
     | exact ih3 _ _ _ _ _
     | exact ih4 _ _ _ _ _ _ _ _ _ _ _
     | exact corporaref24_Compare.mono _ _ _ _ _ _ _
     | exact corporaref27_Chosen.mono _ _ _
     | exact corporaref27_Spans.mono _ _
     | exact LeO.none _
     | refine LeO.ite ?_ ?_
     | refine LeO.bind ?_ (fun _ => ?_)
    ·intro y0 y1 y2
     unfold corporaref27_Choose.l1
     repeat' first
     | (with_reducible exact ih0 _ _ _)
     | (with_reducible exact ih1 _ _ _ _ _)
     | (with_reducible exact ih2 _ _ _)
     | (with_reducible exact ih3 _ _ _ _ _)
     | (with_reducible exact ih4 _ _ _ _ _ _ _ _ _ _ _)
     | (with_reducible exact corporaref24_Compare.mono _ _ _ _ _ _ _)
     | (with_reducible exact corporaref27_Chosen.mono _ _ _)
     | (with_reducible exact corporaref27_Spans.mono _ _)
     | (with_reducible exact LeO.refl _)
     | (with_reducible exact LeO.none _)
     | (with_reducible refine LeO.ite ?_ ?_)
     | (with_reducible refine LeO.bind ?_ (fun _ => ?_))
     | exact ih0 _ _ _
     | exact ih1 _ _ _ _ _
     | exact ih2 _ _ _
     | exact ih3 _ _ _ _ _
     | exact ih4 _ _ _ _ _ _ _ _ _ _ _
     | exact corporaref24_Compare.mono _ _ _ _ _ _ _
     | exact corporaref27_Chosen.mono _ _ _
     | exact corporaref27_Spans.mono _ _
     | exact LeO.none _
     | refine LeO.ite ?_ ?_
     | refine LeO.bind ?_ (fun _ => ?_)
    ·intro y0 y1 y2 y3 y4
     unfold corporaref27_Choose.l2
     repeat' first
     | (with_reducible exact ih0 _ _ _)
     | (with_reducible exact ih1 _ _ _ _ _)
     | (with_reducible exact ih2 _ _ _)
     | (with_reducible exact ih3 _ _ _ _ _)
     | (with_reducible exact ih4 _ _ _ _ _ _ _ _ _ _ _)
     | (with_reducible exact corporaref24_Compare.mono _ _ _ _ _ _ _)
     | (with_reducible exact corporaref27_Chosen.mono _ _ _)
     | (with_reducible exact corporaref27_Spans.mono _ _)
     | (with_reducible exact LeO.refl _)
     | (with_reducible exact LeO.none _)
     | (with_reducible refine LeO.ite ?_ ?_)
     | (with_reducible refine LeO.bind ?_ (fun _ => ?_))
     | exact ih0 _ _ _
     | exact ih1 _ _ _ _ _
     | exact ih2 _ _ _
     | exact ih3 _ _ _ _ _
     | exact ih4 _ _ _ _ _ _ _ _ _ _ _
     | exact corporaref24_Compare.mono _ _ _ _ _ _ _
     | exact corporaref27_Chosen.mono _ _ _
     | exact corporaref27_Spans.mono _ _
     | exact LeO.none _
     | refine LeO.ite ?_ ?_
     | refine LeO.bind ?_ (fun _ => ?_)
    intro y0 y1 y2 y3 y4 y5 y6 y7 y8 y9 y10
    unfold corporaref27_Choose.l3
    repeat' first
    | (with_reducible exact ih0 _ _ _)
    | (with_reducible exact ih1 _ _ _ _ _)
    | (with_reducible exact ih2 _ _ _)
    | (with_reducible exact ih3 _ _ _ _ _)
    | (with_reducible exact ih4 _ _ _ _ _ _ _ _ _ _ _)
    | (with_reducible exact corporaref24_Compare.mono _ _ _ _ _ _ _)
    | (with_reducible exact corporaref27_Chosen.mono _ _ _)
    | (with_reducible exact corporaref27_Spans.mono _ _)
    | (with_reducible exact LeO.refl _)
    | (with_reducible exact LeO.none _)
    | (with_reducible refine LeO.ite ?_ ?_)
    | (with_reducible refine LeO.bind ?_ (fun _ => ?_))
    | exact ih0 _ _ _
    | exact ih1 _ _ _ _ _
    | exact ih2 _ _ _
    | exact ih3 _ _ _ _ _
    | exact ih4 _ _ _ _ _ _ _ _ _ _ _
    | exact corporaref24_Compare.mono _ _ _ _ _ _ _
    | exact corporaref27_Chosen.mono _ _ _
    | exact corporaref27_Spans.mono _ _
    | exact LeO.none _
    | refine LeO.ite ?_ ?_
    | refine LeO.bind ?_ (fun _ => ?_)
theorem corporaref27_Choose.mono : ∀ a0 a1 k, LeO (corporaref27_Choose.f k a0 a1) (corporaref27_Choose.f (k + 1) a0 a1) := by
  intro a0 a1 k
  obtain ⟨ih0, ih1, ih2, ih3, ih4⟩ := corporaref27_Choose.mono_l k
  unfold corporaref27_Choose.f
  repeat' first
      | (with_reducible exact ih0 _ _ _)
      | (with_reducible exact ih1 _ _ _ _ _)
      | (with_reducible exact ih2 _ _ _)
      | (with_reducible exact ih3 _ _ _ _ _)
      | (with_reducible exact ih4 _ _ _ _ _ _ _ _ _ _ _)
      | (with_reducible exact corporaref24_Compare.mono _ _ _ _ _ _ _)
      | (with_reducible exact corporaref27_Chosen.mono _ _ _)
      | (with_reducible exact corporaref27_Spans.mono _ _)
      | (with_reducible exact LeO.refl _)
      | (with_reducible exact LeO.none _)
      | (with_reducible refine LeO.ite ?_ ?_)
      | (with_reducible refine LeO.bind ?_ (fun _ => ?_))
      | exact ih0 _ _ _
      | exact ih1 _ _ _ _ _
      | exact ih2 _ _ _
      | exact ih3 _ _ _ _ _
      | exact ih4 _ _ _ _ _ _ _ _ _ _ _
      | exact corporaref24_Compare.mono _ _ _ _ _ _ _
      | exact corporaref27_Chosen.mono _ _ _
      | exact corporaref27_Spans.mono _ _
      | exact LeO.none _
      | refine LeO.ite ?_ ?_
      | refine LeO.bind ?_ (fun _ => ?_)
def corporaref27_Choose.T12 : Bool × List (List Nat × List Nat) := (true, [([], []), ([], []), ([1], [1]), ([0, 2], [0, 2]), ([3], [3]), ([], []), ([], []), ([5, 6], [5, 6]), ([7], [7]), ([4, 8], [4, 8]), ([9], [9])])
def corporaref27_Choose.B12 : List Nat := [0, 0, 2, 7, 15, 0, 0, 96, 224, 511, 1023]
theorem corporaref27_Choose.tab12 : rtab .any (opsOf Try.f13 12) = corporaref27_Choose.T12 := by kernel_rfl
theorem corporaref27_Choose.bits12 : waitsOk corporaref27_Choose.T12.2 corporaref27_Choose.B12 = true := by kernel_rfl
set_option maxHeartbeats 8000000 in
set_option maxRecDepth 100000 in
theorem corporaref27_Choose.calls (k : Nat) (a0 : Int) (A1 : Option Addr) (c1 : Nat) (l1 : List (S38)) (r1 : List (S38)) (r2 : Int) (w : World) (hr1 : Kd.C k38 w A1 l1.length l1) (hc1 : l1.length ≤ c1) (h : corporaref27_Choose.f k a0 l1 = some (r1, r2)) :
    Calls Try.prog 13 #[.int .i64 a0, .slice A1 l1.length c1] w fun e w' => ∃ v0_ : Value, e = .returned (.tuple #[v0_, .int .i64 r2]) ∧ Kd.N k38 38 w' w.heap.size (fun _ => True) v0_ r1 ∧ Below w.heap.size w w' := by
  have hu38 := Try.underlying38
  have hu40 := Try.underlying40
  have HR1 := Aside0.mk hr1
  have HC1 := Aside0.mk hc1
  clear hr1 hc1
  have HB := Aside0.mk (Below.refl w.heap.size w)
  have H : (if a0 < 0 then (corporaref27_Choose.j0 k a0 l1 true) else (corporaref27_Choose.j0 k a0 l1 (decide (a0 > 3)))) = some (r1, r2) := h
  clear h
  have HC3 := Aside0.mk H
  clear H
  go_enter Try.func13, Try.ntmps13
  go_upto_region 1 with (fail)
  go_cut [20] (fun v20 wc => ∃ (kq : Nat) (x20_2 : Bool), v20 = .bool x20_2 ∧ Aside0 (corporaref27_Choose.j0 kq a0 l1 x20_2 = some (r1, r2)) ∧ Aside0 (kq ≤ k) ∧ Aside0 (Below w.heap.size w wc))
  case first =>
    have H := HC3.out
    clear HC3
    by_cases c4 : a0 < 0
    ·rw [if_pos c4] at H
     have c4b0 : decide (a0 < 0) = true := decide_eq_true c4
     clear c4
     (first | rw [c4b0] | (simp only [i64_w, i32_w]; rw [c4b0]) | skip)
     have H' := Aside0.mk H
     clear H
     go_wp2
     go_meet
     case rel => exact ⟨_, (true), (by first | rfl | (simp; done) | (simp [*]; done)), H', ⟨by first | omega | exact Nat.le_refl _⟩, ⟨by repeat (first | (with_reducible first | exact HB.out | apply below_alloc | apply pw_below_drewN | apply below_drew1) | exact HB.out)⟩⟩
    rw [if_neg c4] at H
    have c4b0 : decide (a0 < 0) = false := decide_eq_false c4
    clear c4
    (first | rw [c4b0] | (simp only [i64_w, i32_w]; rw [c4b0]) | skip)
    have H' := Aside0.mk H
    clear H
    go_wp2
    go_meet
    case rel => exact ⟨_, (decide (a0 > 3)), (by first | rfl | (simp; done) | (simp [*]; done)), H', ⟨by first | omega | exact Nat.le_refl _⟩, ⟨by repeat (first | (with_reducible first | exact HB.out | apply below_alloc | apply pw_below_drewN | apply below_drew1) | exact HB.out)⟩⟩
  case rest =>
    clear HC3
    try clear c1
    try clear p2
    try clear c4
    try clear c4b0
    obtain ⟨kq, x20_2, rfl, HA, HJ2, HB⟩ := hcut
    cases kq with
    | zero => exact absurd HA.out (by simp [corporaref27_Choose.j0])
    | succ kj2 =>
      have H := HA.out
      clear HA
      simp only [corporaref27_Choose.j0] at H
      by_cases c5 : x20_2 = true
      ·subst c5
       have H1 : (some (([] : List (S38)), 1)) = some (r1, r2) := by rw [if_pos rfl] at H; exact H
       clear H
       have H := H1
       clear H1
       simp only [Option.some.injEq, Prod.mk.injEq] at H
       obtain ⟨rfl, rfl⟩ := H
       go_wp2
       go_ret2
       exact ⟨_, by first | rfl | (simp [errW_none, errW_some] <;> rfl) | (simp [*, errW_none, errW_some] <;> rfl), by first | exact Kd.N_nil _ _ _ _ _ | exact Kd.N_nil _ _ _ _ _ | exact Kd.V_nil _ _ _ _ _ | exact Kd.Q_nil _ _ _ _ _ | exact Kd.R_nil _ _ _ _ _, by repeat (first | (with_reducible first | exact HB.out | apply below_alloc | apply pw_below_drewN | apply below_drew1) | exact HB.out)⟩
      replace c5 := Bool.eq_false_iff.mpr c5
      subst c5
      have H1 : (corporaref27_Choose.l0 kj2 a0 l1 l1 (l1.length : Int) 0) = some (r1, r2) := by rw [if_neg (show ¬ (false = true) by decide)] at H; exact H
      clear H
      have H := H1
      clear H1
      have H' := Aside0.mk H
      clear H
      go_wp2
      go_loopg [23] kj2 (fun kq v23 w' => ∃ (x23_2 : Int), v23 = .int .i64 x23_2 ∧ Aside0 (corporaref27_Choose.l0 kq a0 l1 l1 (l1.length : Int) x23_2 = some (r1, r2)) ∧ Aside0 (kq ≤ kj2) ∧ Aside0 (Below w.heap.size w w'))
      case atStart => exact ⟨(0), (by first | rfl | (simp; done) | (simp [*]; done)), H', ⟨Nat.le_refl _⟩, ⟨by repeat (first | (with_reducible first | exact HB.out | apply below_alloc | apply pw_below_drewN | apply below_drew1) | exact HB.out)⟩⟩
      case round =>
        clear H'
        try clear c1
        try clear p2
        try clear c4
        try clear c4b0
        try clear c5
        try clear p2
        obtain ⟨x23_2, rfl, HA, HK2, HB⟩ := hrel
        cases gk with
        | zero => exact absurd HA.out (by simp [corporaref27_Choose.l0])
        | succ k2 =>
          have H := HA.out
          clear HA
          simp only [corporaref27_Choose.l0] at H
          by_cases c6 : x23_2 < (l1.length : Int)
          ·rw [if_pos c6] at H
           have c6b0 : decide (x23_2 < (l1.length : Int)) = true := decide_eq_true c6
           clear c6
           by_cases c7 : 0 ≤ x23_2
           ·rw [if_pos c7] at H
            have c7b0 : decide (0 ≤ x23_2) = true := decide_eq_true c7
            clear c7
            by_cases c8 : x23_2 < (l1.length : Int)
            ·rw [if_pos c8] at H
             have c8b0 : decide (x23_2 < (l1.length : Int)) = true := decide_eq_true c8
             clear c8
             by_cases c9 : ((rd_T38 l1 x23_2).f0) < 0
             ·rw [if_pos c9] at H
              have c9b0 : decide (((rd_T38 l1 x23_2).f0) < 0) = true := decide_eq_true c9
              clear c9
              simp only [Option.some.injEq, Prod.mk.injEq] at H
              obtain ⟨rfl, rfl⟩ := H
              have p259 : 0 ≤ (x23_2 : Int) := of_decide_eq_true (by first | (with_reducible assumption) | assumption)
              have q259 : x23_2 < (l1.length : Int) := of_decide_eq_true (by first | (with_reducible assumption) | assumption)
              obtain ⟨ad259, A259_2, c259_2, e259, hx259_0, hx259_1, hx259_2, hl259_2, hi259_2⟩ := at_T38 HR1.out x23_2 p259 q259
              cases e259
              replace hx259_0 := (HB.out.cell (World.block_lt_of_cell? w _ hx259_0)).trans hx259_0
              replace hx259_1 := (HB.out.cell (World.block_lt_of_cell? w _ hx259_1)).trans hx259_1
              replace hx259_2 := (HB.out.cell (World.block_lt_of_cell? w _ hx259_2)).trans hx259_2
              have HR259_2 := Aside0.mk hi259_2
              have HC259_2 := Aside0.mk hl259_2
              clear hi259_2 hl259_2
              replace p259 := eq_true p259
              replace q259 := eq_true q259
              go_wp2_with (first | ((with_reducible refine gate_dst (N := 7) rfl ?_); refine box_event ?hg (N := 7) ?hd (cs := #[.int .i64 0, .int .i64 0, .slice none 0 0]) (t := 38) ?hr ?_; (case hd => rfl); (case hg => rfl); (case hr => first | (go_simp; done) | (go_simp; rfl)); intro gb260 hg w10 hbox hb; have n0_ := Aside0.mk (below_step (by repeat (first | (with_reducible first | exact HB.out | apply below_alloc | apply pw_below_drewN | apply below_drew1) | exact HB.out)) hb); have n1_ := Aside0.mk (hbox); have n2_ := Aside0.mk ((by rw [hg]; exact (below_size (by repeat (first | (with_reducible first | exact HB.out | apply below_alloc | apply pw_below_drewN | apply below_drew1) | exact HB.out))) : w.heap.size ≤ gb260)); have n3_ := Aside0.mk ((by rw [hg]; exact (below_size (by repeat (first | (with_reducible first | exact HB.out | apply below_alloc | apply pw_below_drewN | apply below_drew1) | exact HB.out))) : w.heap.size ≤ gb260)); clear HB; have HB := n0_; have BK260 := n1_; have GW260 := n2_; have GE260 := n3_; clear n0_ n1_ n2_ n3_; clear hb hbox hg; have hcz11_0 : w10.cell? ⟨gb260, 0, none⟩ = some (.int .i64 0) := (blk_cell BK260.out 0).trans rfl; have hcz11_1 : w10.cell? ⟨gb260, 1, none⟩ = some (.int .i64 0) := (blk_cell BK260.out 1).trans rfl; have hcz11_2 : w10.cell? ⟨gb260, 2, none⟩ = some (.slice none 0 0) := (blk_cell BK260.out 2).trans rfl; have hfz11_0 := blk_frozen BK260.out 0; have hfz11_1 := blk_frozen BK260.out 1; have hfz11_2 := blk_frozen BK260.out 2))
              go_ret2
              exact ⟨_, by first | rfl | (simp [errW_none, errW_some] <;> rfl) | (simp [*, errW_none, errW_some] <;> rfl), by first | exact Kd.N_nil _ _ _ _ _ | exact Kd.N_nil _ _ _ _ _ | exact Kd.V_nil _ _ _ _ _ | exact Kd.Q_nil _ _ _ _ _ | exact Kd.R_nil _ _ _ _ _, by repeat (first | (with_reducible first | exact HB.out | apply below_alloc | apply pw_below_drewN | apply below_drew1 | refine below_set ?_ GE260.out) | exact HB.out)⟩
             rw [if_neg c9] at H
             have c9b0 : decide (((rd_T38 l1 x23_2).f0) < 0) = false := decide_eq_false c9
             clear c9
             by_cases c12 : ((rd_T38 l1 x23_2).f0) ≥ ((rd_T38 l1 x23_2).f1)
             ·rw [if_pos c12] at H
              have c12b0 : decide (((rd_T38 l1 x23_2).f1) ≤ ((rd_T38 l1 x23_2).f0)) = true := decide_eq_true c12
              clear c12
              simp only [Option.some.injEq, Prod.mk.injEq] at H
              obtain ⟨rfl, rfl⟩ := H
              have p259 : 0 ≤ (x23_2 : Int) := of_decide_eq_true (by first | (with_reducible assumption) | assumption)
              have q259 : x23_2 < (l1.length : Int) := of_decide_eq_true (by first | (with_reducible assumption) | assumption)
              obtain ⟨ad259, A259_2, c259_2, e259, hx259_0, hx259_1, hx259_2, hl259_2, hi259_2⟩ := at_T38 HR1.out x23_2 p259 q259
              cases e259
              replace hx259_0 := (HB.out.cell (World.block_lt_of_cell? w _ hx259_0)).trans hx259_0
              replace hx259_1 := (HB.out.cell (World.block_lt_of_cell? w _ hx259_1)).trans hx259_1
              replace hx259_2 := (HB.out.cell (World.block_lt_of_cell? w _ hx259_2)).trans hx259_2
              have HR259_2 := Aside0.mk hi259_2
              have HC259_2 := Aside0.mk hl259_2
              clear hi259_2 hl259_2
              replace p259 := eq_true p259
              replace q259 := eq_true q259
              go_wp2_with (first | ((with_reducible refine gate_dst (N := 7) rfl ?_); refine box_event ?hg (N := 7) ?hd (cs := #[.int .i64 0, .int .i64 0, .slice none 0 0]) (t := 38) ?hr ?_; (case hd => rfl); (case hg => rfl); (case hr => first | (go_simp; done) | (go_simp; rfl)); intro gb260 hg w13 hbox hb; have n0_ := Aside0.mk (below_step (by repeat (first | (with_reducible first | exact HB.out | apply below_alloc | apply pw_below_drewN | apply below_drew1) | exact HB.out)) hb); have n1_ := Aside0.mk (hbox); have n2_ := Aside0.mk ((by rw [hg]; exact (below_size (by repeat (first | (with_reducible first | exact HB.out | apply below_alloc | apply pw_below_drewN | apply below_drew1) | exact HB.out))) : w.heap.size ≤ gb260)); have n3_ := Aside0.mk ((by rw [hg]; exact (below_size (by repeat (first | (with_reducible first | exact HB.out | apply below_alloc | apply pw_below_drewN | apply below_drew1) | exact HB.out))) : w.heap.size ≤ gb260)); clear HB; have HB := n0_; have BK260 := n1_; have GW260 := n2_; have GE260 := n3_; clear n0_ n1_ n2_ n3_; clear hb hbox hg; have hcz14_0 : w13.cell? ⟨gb260, 0, none⟩ = some (.int .i64 0) := (blk_cell BK260.out 0).trans rfl; have hcz14_1 : w13.cell? ⟨gb260, 1, none⟩ = some (.int .i64 0) := (blk_cell BK260.out 1).trans rfl; have hcz14_2 : w13.cell? ⟨gb260, 2, none⟩ = some (.slice none 0 0) := (blk_cell BK260.out 2).trans rfl; have hfz14_0 := blk_frozen BK260.out 0; have hfz14_1 := blk_frozen BK260.out 1; have hfz14_2 := blk_frozen BK260.out 2))
              go_ret2
              exact ⟨_, by first | rfl | (simp [errW_none, errW_some] <;> rfl) | (simp [*, errW_none, errW_some] <;> rfl), by first | exact Kd.N_nil _ _ _ _ _ | exact Kd.N_nil _ _ _ _ _ | exact Kd.V_nil _ _ _ _ _ | exact Kd.Q_nil _ _ _ _ _ | exact Kd.R_nil _ _ _ _ _, by repeat (first | (with_reducible first | exact HB.out | apply below_alloc | apply pw_below_drewN | apply below_drew1 | refine below_set ?_ GE260.out) | exact HB.out)⟩
             rw [if_neg c12] at H
             have c12b0 : decide (((rd_T38 l1 x23_2).f1) ≤ ((rd_T38 l1 x23_2).f0)) = false := decide_eq_false c12
             clear c12
             have H' := Aside0.mk H
             clear H
             have p259 : 0 ≤ (x23_2 : Int) := of_decide_eq_true (by first | (with_reducible assumption) | assumption)
             have q259 : x23_2 < (l1.length : Int) := of_decide_eq_true (by first | (with_reducible assumption) | assumption)
             obtain ⟨ad259, A259_2, c259_2, e259, hx259_0, hx259_1, hx259_2, hl259_2, hi259_2⟩ := at_T38 HR1.out x23_2 p259 q259
             cases e259
             replace hx259_0 := (HB.out.cell (World.block_lt_of_cell? w _ hx259_0)).trans hx259_0
             replace hx259_1 := (HB.out.cell (World.block_lt_of_cell? w _ hx259_1)).trans hx259_1
             replace hx259_2 := (HB.out.cell (World.block_lt_of_cell? w _ hx259_2)).trans hx259_2
             have HR259_2 := Aside0.mk hi259_2
             have HC259_2 := Aside0.mk hl259_2
             clear hi259_2 hl259_2
             replace p259 := eq_true p259
             replace q259 := eq_true q259
             go_wp2_with (first | ((with_reducible refine gate_dst (N := 7) rfl ?_); refine box_event ?hg (N := 7) ?hd (cs := #[.int .i64 0, .int .i64 0, .slice none 0 0]) (t := 38) ?hr ?_; (case hd => rfl); (case hg => rfl); (case hr => first | (go_simp; done) | (go_simp; rfl)); intro gb260 hg w15 hbox hb; have n0_ := Aside0.mk (below_step (by repeat (first | (with_reducible first | exact HB.out | apply below_alloc | apply pw_below_drewN | apply below_drew1) | exact HB.out)) hb); have n1_ := Aside0.mk (hbox); have n2_ := Aside0.mk ((by rw [hg]; exact (below_size (by repeat (first | (with_reducible first | exact HB.out | apply below_alloc | apply pw_below_drewN | apply below_drew1) | exact HB.out))) : w.heap.size ≤ gb260)); have n3_ := Aside0.mk ((by rw [hg]; exact (below_size (by repeat (first | (with_reducible first | exact HB.out | apply below_alloc | apply pw_below_drewN | apply below_drew1) | exact HB.out))) : w.heap.size ≤ gb260)); clear HB; have HB := n0_; have BK260 := n1_; have GW260 := n2_; have GE260 := n3_; clear n0_ n1_ n2_ n3_; clear hb hbox hg; have hcz16_0 : w15.cell? ⟨gb260, 0, none⟩ = some (.int .i64 0) := (blk_cell BK260.out 0).trans rfl; have hcz16_1 : w15.cell? ⟨gb260, 1, none⟩ = some (.int .i64 0) := (blk_cell BK260.out 1).trans rfl; have hcz16_2 : w15.cell? ⟨gb260, 2, none⟩ = some (.slice none 0 0) := (blk_cell BK260.out 2).trans rfl; have hfz16_0 := blk_frozen BK260.out 0; have hfz16_1 := blk_frozen BK260.out 1; have hfz16_2 := blk_frozen BK260.out 2))
             go_roundg k2
             case measure => have := HJ2.out; have := HK2.out; omega
             case rel => exact ⟨(wrap64 (x23_2 + 1)), (by first | rfl | (simp; done) | (simp [*]; done)), H', ⟨by have := HJ2.out; have := HK2.out; omega⟩, ⟨by repeat (first | (with_reducible first | exact HB.out | apply below_alloc | apply pw_below_drewN | apply below_drew1 | refine below_set ?_ GE260.out) | exact HB.out)⟩⟩
            rw [if_neg c8] at H
            exact absurd H (by simp)
           rw [if_neg c7] at H
           exact absurd H (by simp)
          rw [if_neg c6] at H
          have c6b0 : decide (x23_2 < (l1.length : Int)) = false := decide_eq_false c6
          clear c6
          have H' := Aside0.mk H
          clear H
          go_wp2
          go_loopg [8] k2 (fun kq v8 w' => ∃ (x8_3 : Int), v8 = .int .i64 x8_3 ∧ Aside0 (corporaref27_Choose.l1 kq a0 l1 x8_3 = some (r1, r2)) ∧ Aside0 (kq ≤ k2) ∧ Aside0 (Below w.heap.size w w'))
          case atStart => exact ⟨(1), (by first | rfl | (simp; done) | (simp [*]; done)), H', ⟨Nat.le_refl _⟩, ⟨by repeat (first | (with_reducible first | exact HB.out | apply below_alloc | apply pw_below_drewN | apply below_drew1) | exact HB.out)⟩⟩
          case round =>
            clear H'
            try clear c1
            try clear c2
            try clear p2
            try clear q2
            try clear hx2
            try clear c4
            try clear c4b0
            try clear c5
            try clear c6
            try clear c6b0
            try clear p6
            try clear c7
            try clear c7b0
            try clear c8
            try clear c8b0
            try clear c9
            try clear c9b0
            try clear c12
            try clear c12b0
            try clear c13
            try clear hcz11_0
            try clear hcz11_1
            try clear hcz11_2
            try clear hcz14_0
            try clear hcz14_1
            try clear hcz14_2
            try clear hcz16_0
            try clear hcz16_1
            try clear hcz16_2
            try clear hfz11_0
            try clear hfz11_1
            try clear hfz11_2
            try clear hfz14_0
            try clear hfz14_1
            try clear hfz14_2
            try clear hfz16_0
            try clear hfz16_1
            try clear hfz16_2
            try clear hx259_0
            try clear hx259_1
            try clear hx259_2
            try clear p2
            try clear p259
            try clear q259
            obtain ⟨x8_3, rfl, HA, HK3, HB⟩ := hrel
            cases gk with
            | zero => exact absurd HA.out (by simp [corporaref27_Choose.l1])
            | succ k3 =>
              have H := HA.out
              clear HA
              simp only [corporaref27_Choose.l1] at H
              by_cases c17 : x8_3 < (l1.length : Int)
              ·rw [if_pos c17] at H
               have c17b0 : decide (x8_3 < (l1.length : Int)) = true := decide_eq_true c17
               clear c17
               obtain ⟨ji18, hji18⟩ : ∃ j_ : Int, (wrap64 (x8_3 - 1)) = j_ := ⟨_, rfl⟩
               replace H : (if 0 ≤ (ji18) then (if (ji18) < (l1.length : Int) then (if 0 ≤ x8_3 then ((corporaref24_Compare.f k3 ((rd_T38 l1 (ji18)).f0) ((rd_T38 l1 (ji18)).f1) ((rd_T38 l1 (ji18)).f2) ((rd_T38 l1 x8_3).f0) ((rd_T38 l1 x8_3).f1) ((rd_T38 l1 x8_3).f2)).bind fun t263 => (if t263 ≥ 0 then (some (([] : List (S38)), 6)) else (corporaref27_Choose.l1 k3 a0 l1 (wrap64 (x8_3 + 1))))) else (none)) else (none)) else (none)) = some (r1, r2) := by first | (rw [hji18] at H; exact H) | (simp only [hji18] at H ⊢; exact H)
               have hji18w : (IntKind.i64.wrap (x8_3 - 1)) = ji18 := (i64_w _).trans hji18
               by_cases c19 : 0 ≤ (ji18)
               ·rw [if_pos c19] at H
                have c19b0 : decide (0 ≤ (ji18)) = true := decide_eq_true c19
                clear c19
                by_cases c20 : (ji18) < (l1.length : Int)
                ·rw [if_pos c20] at H
                 have c20b0 : decide ((ji18) < (l1.length : Int)) = true := decide_eq_true c20
                 clear c20
                 by_cases c21 : 0 ≤ x8_3
                 ·rw [if_pos c21] at H
                  have c21b0 : decide (0 ≤ x8_3) = true := decide_eq_true c21
                  clear c21
                  replace H := Option.bind_eq_some_iff.mp H
                  obtain ⟨t263, A220, H⟩ := H
                  replace H : (if t263 ≥ 0 then (some (([] : List (S38)), 6)) else (corporaref27_Choose.l1 k3 a0 l1 (wrap64 (x8_3 + 1)))) = some (r1, r2) := H
                  have A22 := Aside0.mk A220
                  clear A220
                  by_cases c23 : t263 ≥ 0
                  ·rw [if_pos c23] at H
                   have c23b0 : decide (0 ≤ t263) = true := decide_eq_true c23
                   clear c23
                   simp only [Option.some.injEq, Prod.mk.injEq] at H
                   obtain ⟨rfl, rfl⟩ := H
                   try go_wp2
                   have n0_ := Aside0.mk (below_drew1 HB.out)
                   clear HB
                   have HB := n0_
                   clear n0_
                   have p261 : 0 ≤ ((ji18) : Int) := of_decide_eq_true (by first | (with_reducible assumption) | assumption)
                   have q261 : (ji18) < (l1.length : Int) := of_decide_eq_true (by first | (with_reducible assumption) | assumption)
                   obtain ⟨ad261, A261_2, c261_2, e261, hx261_0, hx261_1, hx261_2, hl261_2, hi261_2⟩ := at_T38 HR1.out (ji18) p261 q261
                   have hw261_2 := hx261_2
                   have hw261_1 := hx261_1
                   have hw261_0 := hx261_0
                   cases e261
                   replace hx261_0 := (HB.out.cell (World.block_lt_of_cell? w _ hx261_0)).trans hx261_0
                   replace hx261_1 := (HB.out.cell (World.block_lt_of_cell? w _ hx261_1)).trans hx261_1
                   replace hx261_2 := (HB.out.cell (World.block_lt_of_cell? w _ hx261_2)).trans hx261_2
                   have HR261_2 := Aside0.mk hi261_2
                   have HC261_2 := Aside0.mk hl261_2
                   clear hi261_2 hl261_2
                   replace p261 := eq_true p261
                   replace q261 := eq_true q261
                   have p262 : 0 ≤ (x8_3 : Int) := of_decide_eq_true (by first | (with_reducible assumption) | assumption)
                   have q262 : x8_3 < (l1.length : Int) := of_decide_eq_true (by first | (with_reducible assumption) | assumption)
                   obtain ⟨ad262, A262_2, c262_2, e262, hx262_0, hx262_1, hx262_2, hl262_2, hi262_2⟩ := at_T38 HR1.out x8_3 p262 q262
                   have hw262_2 := hx262_2
                   have hw262_1 := hx262_1
                   have hw262_0 := hx262_0
                   obtain rfl : ad261 = ad262 := (by injection e262)
                   replace hx262_0 := (HB.out.cell (World.block_lt_of_cell? w _ hx262_0)).trans hx262_0
                   replace hx262_1 := (HB.out.cell (World.block_lt_of_cell? w _ hx262_1)).trans hx262_1
                   replace hx262_2 := (HB.out.cell (World.block_lt_of_cell? w _ hx262_2)).trans hx262_2
                   have HR262_2 := Aside0.mk hi262_2
                   have HC262_2 := Aside0.mk hl262_2
                   clear hi262_2 hl262_2
                   replace p262 := eq_true p262
                   replace q262 := eq_true q262
                   refine start_ (n := 11) (S := fun w' => w'.cell? (ad261.add (((ji18)).toNat * 3)) = some (.int .i64 ((rd_T38 l1 (ji18)).f0)) ∧ w'.cell? ⟨(ad261.add (((ji18)).toNat * 3)).block, (ad261.add (((ji18)).toNat * 3)).off + 1, none⟩ = some (.int .i64 ((rd_T38 l1 (ji18)).f1)) ∧ w'.cell? ⟨(ad261.add (((ji18)).toNat * 3)).block, (ad261.add (((ji18)).toNat * 3)).off + 2, none⟩ = some (.slice A261_2 ((rd_T38 l1 (ji18)).f2).length c261_2) ∧ w'.cell? (ad261.add ((x8_3).toNat * 3)) = some (.int .i64 ((rd_T38 l1 x8_3).f0)) ∧ w'.cell? ⟨(ad261.add ((x8_3).toNat * 3)).block, (ad261.add ((x8_3).toNat * 3)).off + 1, none⟩ = some (.int .i64 ((rd_T38 l1 x8_3).f1)) ∧ w'.cell? ⟨(ad261.add ((x8_3).toNat * 3)).block, (ad261.add ((x8_3).toNat * 3)).off + 2, none⟩ = some (.slice A262_2 ((rd_T38 l1 x8_3).f2).length c262_2)) (ds := []) #[false, false, false, false, false, false, false, false, false, false, false] (by kernel_rfl) rfl rfl ⟨((HB.out.cell (World.block_lt_of_cell? w _ hw261_0)).trans hw261_0), ((HB.out.cell (World.block_lt_of_cell? w _ hw261_1)).trans hw261_1), ((HB.out.cell (World.block_lt_of_cell? w _ hw261_2)).trans hw261_2), ((HB.out.cell (World.block_lt_of_cell? w _ hw262_0)).trans hw262_0), ((HB.out.cell (World.block_lt_of_cell? w _ hw262_1)).trans hw262_1), ((HB.out.cell (World.block_lt_of_cell? w _ hw262_2)).trans hw262_2)⟩ (fun hHeld => ?_); refine with_tabW corporaref27_Choose.tab12 corporaref27_Choose.bits12 (fun HT_ HW_ => ?_)
                   generalize wr.drew = w24 at HB HR261_2 HR262_2 hx261_0 hx261_1 hx261_2 hx262_0 hx262_1 hx262_2 hHeld ⊢
                   refine pure_ (i := 0) (N := some 44) (v := ?_) (a' := ?_) #[true, false, false, false, false, false, false, false, false, false, false] rfl rfl (any_of HT_.out (by kernel_rfl)) (fun _ _ _ h => h) (Or.inl ⟨by rfl, ?_⟩) ?_ ?_
                   rotate_left
                   ·intro w'
                    go_simp
                    with_reducible rfl
                   rotate_left
                   ·simp only [Act.put, List.setIfInBounds_toArray, List.set_cons_zero, List.set_cons_succ, i64_w, i32_w]
                    rfl
                   refine pure_ (i := 1) (N := some 45) (v := ?_) (a' := ?_) #[true, true, false, false, false, false, false, false, false, false, false] rfl rfl (any_of HT_.out (by kernel_rfl)) (fun _ _ _ h => h) (Or.inl ⟨by rfl, ?_⟩) ?_ ?_
                   rotate_left
                   ·intro w'
                    go_simp
                    with_reducible rfl
                   rotate_left
                   ·simp only [Act.put, List.setIfInBounds_toArray, List.set_cons_zero, List.set_cons_succ, i64_w, i32_w]
                    rfl
                   refine pure_ (i := 2) (N := some 46) (v := ?_) (a' := ?_) #[true, true, true, false, false, false, false, false, false, false, false] rfl rfl (any_of HT_.out (by kernel_rfl)) (fun _ _ _ h => h) (Or.inl ⟨by rfl, ?_⟩) ?_ ?_
                   rotate_left
                   ·intro w'
                    go_simp
                    with_reducible rfl
                   rotate_left
                   ·simp only [Act.put, List.setIfInBounds_toArray, List.set_cons_zero, List.set_cons_succ, i64_w, i32_w]
                    rfl
                   refine pure_ (i := 3) (N := some 47) (v := ?_) (a' := ?_) #[true, true, true, true, false, false, false, false, false, false, false] rfl rfl (any_of HT_.out (by kernel_rfl)) (fun _ _ _ h => h) (Or.inl ⟨by rfl, ?_⟩) ?_ ?_
                   rotate_left
                   ·intro w'
                    go_simp
                    with_reducible rfl
                   rotate_left
                   ·simp only [Act.put, List.setIfInBounds_toArray, List.set_cons_zero, List.set_cons_succ, i64_w, i32_w]
                    rfl
                   refine pure_ (i := 5) (N := some 49) (v := ?_) (a' := ?_) #[true, true, true, true, false, true, false, false, false, false, false] rfl rfl (any_of HT_.out (by kernel_rfl)) (fun _ _ _ h => h) (Or.inl ⟨by rfl, ?_⟩) ?_ ?_
                   rotate_left
                   ·intro w'
                    go_simp
                    with_reducible rfl
                   rotate_left
                   ·simp only [Act.put, List.setIfInBounds_toArray, List.set_cons_zero, List.set_cons_succ, i64_w, i32_w]
                    rfl
                   refine pure_ (i := 6) (N := some 50) (v := ?_) (a' := ?_) #[true, true, true, true, false, true, true, false, false, false, false] rfl rfl (any_of HT_.out (by kernel_rfl)) (fun _ _ _ h => h) (Or.inl ⟨by rfl, ?_⟩) ?_ ?_
                   rotate_left
                   ·intro w'
                    go_simp
                    with_reducible rfl
                   rotate_left
                   ·simp only [Act.put, List.setIfInBounds_toArray, List.set_cons_zero, List.set_cons_succ, i64_w, i32_w]
                    rfl
                   refine pure_ (i := 7) (N := some 51) (v := ?_) (a' := ?_) #[true, true, true, true, false, true, true, true, false, false, false] rfl rfl (any_of HT_.out (by kernel_rfl)) (fun _ _ _ h => h) (Or.inl ⟨by rfl, ?_⟩) ?_ ?_
                   rotate_left
                   ·intro w'
                    go_simp
                    with_reducible rfl
                   rotate_left
                   ·simp only [Act.put, List.setIfInBounds_toArray, List.set_cons_zero, List.set_cons_succ, i64_w, i32_w]
                    rfl
                   refine take_ (i := 4) (N := some 48) (v := ?_) (a' := ?_) #[true, true, true, true, true, true, true, true, false, false, false] rfl rfl (take_ofW HT_.out HW_.out (by kernel_rfl)) (fun _ _ _ h => h) (Or.inl ⟨by rfl, ?_⟩) hHeld ?_ ?_
                   rotate_left
                   ·rintro w' ⟨s0, s1, s2, s3, s4, s5⟩
                    go_simp
                    with_reducible rfl
                   rotate_left
                   ·simp only [Act.put, List.setIfInBounds_toArray, List.set_cons_zero, List.set_cons_succ, i64_w, i32_w]
                    rfl
                   refine take_ (i := 8) (N := some 52) (v := ?_) (a' := ?_) #[true, true, true, true, true, true, true, true, true, false, false] rfl rfl (take_ofW HT_.out HW_.out (by kernel_rfl)) (fun _ _ _ h => h) (Or.inl ⟨by rfl, ?_⟩) hHeld ?_ ?_
                   rotate_left
                   ·rintro w' ⟨s0, s1, s2, s3, s4, s5⟩
                    go_simp
                    with_reducible rfl
                   rotate_left
                   ·simp only [Act.put, List.setIfInBounds_toArray, List.set_cons_zero, List.set_cons_succ, i64_w, i32_w]
                    rfl
                   refine one_ (i := 9) (N := some 53) #[true, true, true, true, true, true, true, true, true, true, false] rfl rfl (one_of HT_.out (by kernel_rfl)) (by decide) (fun K hK => ?_)
                   refine goes_ Try.func23 (by kernel_rfl) rfl #[.agg #[.int .i64 ((rd_T38 l1 (ji18)).f0), .int .i64 ((rd_T38 l1 (ji18)).f1), .slice A261_2 ((rd_T38 l1 (ji18)).f2).length c261_2], .agg #[.int .i64 ((rd_T38 l1 x8_3).f0), .int .i64 ((rd_T38 l1 x8_3).f1), .slice A262_2 ((rd_T38 l1 x8_3).f2).length c262_2]] (by rfl) rfl rfl (by (try simp only [List.map_toArray, List.map_cons, List.map_nil]); first | done | (simp only [hji18]; rfl) | rfl | (simp only [List.length_drop, List.length_take]; rfl)) ?_
                   with_reducible refine (corporaref24_Compare.calls k3 ((rd_T38 l1 (ji18)).f0) ((rd_T38 l1 (ji18)).f1) _ _ ((rd_T38 l1 (ji18)).f2) ((rd_T38 l1 x8_3).f0) ((rd_T38 l1 x8_3).f1) _ _ ((rd_T38 l1 x8_3).f2) t263 _ ?side1 ?side2 ?side3 ?side4 A22.out).mono ?_
                   (case side1 => repeat (first | exact (Kd.C_below HR261_2.out HB.out) | (with_reducible refine Kd.C_alloc ?_ _) | (with_reducible refine Kd.C_drewN ?_ _) | (with_reducible refine Kd.C_drew ?_)))
                   (case side2 => exact HC261_2.out)
                   (case side3 => repeat (first | exact (Kd.C_below HR262_2.out HB.out) | (with_reducible refine Kd.C_alloc ?_ _) | (with_reducible refine Kd.C_drewN ?_ _) | (with_reducible refine Kd.C_drew ?_)))
                   (case side4 => exact HC262_2.out)
                   rintro e w25 ⟨rfl, hb⟩
                   refine ⟨_, rfl, ?_⟩
                   have n0_ := Aside0.mk (below_step (by repeat (first | (with_reducible first | exact HB.out | apply below_alloc | apply pw_below_drewN | apply below_drew1) | exact HB.out)) hb)
                   clear HB
                   have HB := n0_
                   clear n0_
                   (try clear hb)
                   (try clear hb2)
                   (try clear hk)
                   (try clear hi)
                   refine hK.out _ _ ⟨((HB.out.cell (World.block_lt_of_cell? w _ hw261_0)).trans hw261_0), ((HB.out.cell (World.block_lt_of_cell? w _ hw261_1)).trans hw261_1), ((HB.out.cell (World.block_lt_of_cell? w _ hw261_2)).trans hw261_2), ((HB.out.cell (World.block_lt_of_cell? w _ hw262_0)).trans hw262_0), ((HB.out.cell (World.block_lt_of_cell? w _ hw262_1)).trans hw262_1), ((HB.out.cell (World.block_lt_of_cell? w _ hw262_2)).trans hw262_2)⟩ (fun hHeld => ?_)
                   clear hK K
                   refine norm_ (a' := ?_) ?_ ?_
                   rotate_left
                   ·show Act.put _ (some 53) _ = _
                    simp only [Act.put, List.setIfInBounds_toArray, List.set_cons_zero, List.set_cons_succ, i64_w, i32_w]
                    rfl
                   refine pure_ (i := 10) (N := some 54) (v := ?_) (a' := ?_) #[true, true, true, true, true, true, true, true, true, true, true] rfl rfl (any_of HT_.out (by kernel_rfl)) (fun _ _ _ h => h) (Or.inl ⟨by rfl, ?_⟩) ?_ ?_
                   rotate_left
                   ·intro w'
                    go_simp
                    with_reducible rfl
                   rotate_left
                   ·simp only [Act.put, List.setIfInBounds_toArray, List.set_cons_zero, List.set_cons_succ, i64_w, i32_w]
                    rfl
                   refine done_ (done_of HT_.out (by kernel_rfl)) ?_
                   try go_wp2
                   go_ret2
                   exact ⟨_, by first | rfl | (simp [errW_none, errW_some] <;> rfl) | (simp only [← hji18]; first | rfl | (simp [errW_none, errW_some] <;> rfl)) | (simp [*, errW_none, errW_some] <;> rfl), by first | exact Kd.N_nil _ _ _ _ _ | exact Kd.N_nil _ _ _ _ _ | exact Kd.V_nil _ _ _ _ _ | exact Kd.Q_nil _ _ _ _ _ | exact Kd.R_nil _ _ _ _ _, by repeat (first | (with_reducible first | exact HB.out | apply below_alloc | apply pw_below_drewN | apply below_drew1) | exact HB.out)⟩
                  rw [if_neg c23] at H
                  have c23b0 : decide (0 ≤ t263) = false := decide_eq_false c23
                  clear c23
                  have H' := Aside0.mk H
                  clear H
                  try go_wp2
                  have n0_ := Aside0.mk (below_drew1 HB.out)
                  clear HB
                  have HB := n0_
                  clear n0_
                  have p261 : 0 ≤ ((ji18) : Int) := of_decide_eq_true (by first | (with_reducible assumption) | assumption)
                  have q261 : (ji18) < (l1.length : Int) := of_decide_eq_true (by first | (with_reducible assumption) | assumption)
                  obtain ⟨ad261, A261_2, c261_2, e261, hx261_0, hx261_1, hx261_2, hl261_2, hi261_2⟩ := at_T38 HR1.out (ji18) p261 q261
                  have hw261_2 := hx261_2
                  have hw261_1 := hx261_1
                  have hw261_0 := hx261_0
                  cases e261
                  replace hx261_0 := (HB.out.cell (World.block_lt_of_cell? w _ hx261_0)).trans hx261_0
                  replace hx261_1 := (HB.out.cell (World.block_lt_of_cell? w _ hx261_1)).trans hx261_1
                  replace hx261_2 := (HB.out.cell (World.block_lt_of_cell? w _ hx261_2)).trans hx261_2
                  have HR261_2 := Aside0.mk hi261_2
                  have HC261_2 := Aside0.mk hl261_2
                  clear hi261_2 hl261_2
                  replace p261 := eq_true p261
                  replace q261 := eq_true q261
                  have p262 : 0 ≤ (x8_3 : Int) := of_decide_eq_true (by first | (with_reducible assumption) | assumption)
                  have q262 : x8_3 < (l1.length : Int) := of_decide_eq_true (by first | (with_reducible assumption) | assumption)
                  obtain ⟨ad262, A262_2, c262_2, e262, hx262_0, hx262_1, hx262_2, hl262_2, hi262_2⟩ := at_T38 HR1.out x8_3 p262 q262
                  have hw262_2 := hx262_2
                  have hw262_1 := hx262_1
                  have hw262_0 := hx262_0
                  obtain rfl : ad261 = ad262 := (by injection e262)
                  replace hx262_0 := (HB.out.cell (World.block_lt_of_cell? w _ hx262_0)).trans hx262_0
                  replace hx262_1 := (HB.out.cell (World.block_lt_of_cell? w _ hx262_1)).trans hx262_1
                  replace hx262_2 := (HB.out.cell (World.block_lt_of_cell? w _ hx262_2)).trans hx262_2
                  have HR262_2 := Aside0.mk hi262_2
                  have HC262_2 := Aside0.mk hl262_2
                  clear hi262_2 hl262_2
                  replace p262 := eq_true p262
                  replace q262 := eq_true q262
                  refine start_ (n := 11) (S := fun w' => w'.cell? (ad261.add (((ji18)).toNat * 3)) = some (.int .i64 ((rd_T38 l1 (ji18)).f0)) ∧ w'.cell? ⟨(ad261.add (((ji18)).toNat * 3)).block, (ad261.add (((ji18)).toNat * 3)).off + 1, none⟩ = some (.int .i64 ((rd_T38 l1 (ji18)).f1)) ∧ w'.cell? ⟨(ad261.add (((ji18)).toNat * 3)).block, (ad261.add (((ji18)).toNat * 3)).off + 2, none⟩ = some (.slice A261_2 ((rd_T38 l1 (ji18)).f2).length c261_2) ∧ w'.cell? (ad261.add ((x8_3).toNat * 3)) = some (.int .i64 ((rd_T38 l1 x8_3).f0)) ∧ w'.cell? ⟨(ad261.add ((x8_3).toNat * 3)).block, (ad261.add ((x8_3).toNat * 3)).off + 1, none⟩ = some (.int .i64 ((rd_T38 l1 x8_3).f1)) ∧ w'.cell? ⟨(ad261.add ((x8_3).toNat * 3)).block, (ad261.add ((x8_3).toNat * 3)).off + 2, none⟩ = some (.slice A262_2 ((rd_T38 l1 x8_3).f2).length c262_2)) (ds := []) #[false, false, false, false, false, false, false, false, false, false, false] (by kernel_rfl) rfl rfl ⟨((HB.out.cell (World.block_lt_of_cell? w _ hw261_0)).trans hw261_0), ((HB.out.cell (World.block_lt_of_cell? w _ hw261_1)).trans hw261_1), ((HB.out.cell (World.block_lt_of_cell? w _ hw261_2)).trans hw261_2), ((HB.out.cell (World.block_lt_of_cell? w _ hw262_0)).trans hw262_0), ((HB.out.cell (World.block_lt_of_cell? w _ hw262_1)).trans hw262_1), ((HB.out.cell (World.block_lt_of_cell? w _ hw262_2)).trans hw262_2)⟩ (fun hHeld => ?_); refine with_tabW corporaref27_Choose.tab12 corporaref27_Choose.bits12 (fun HT_ HW_ => ?_)
                  generalize wr.drew = w26 at HB HR261_2 HR262_2 hx261_0 hx261_1 hx261_2 hx262_0 hx262_1 hx262_2 hHeld ⊢
                  refine pure_ (i := 0) (N := some 44) (v := ?_) (a' := ?_) #[true, false, false, false, false, false, false, false, false, false, false] rfl rfl (any_of HT_.out (by kernel_rfl)) (fun _ _ _ h => h) (Or.inl ⟨by rfl, ?_⟩) ?_ ?_
                  rotate_left
                  ·intro w'
                   go_simp
                   with_reducible rfl
                  rotate_left
                  ·simp only [Act.put, List.setIfInBounds_toArray, List.set_cons_zero, List.set_cons_succ, i64_w, i32_w]
                   rfl
                  refine pure_ (i := 1) (N := some 45) (v := ?_) (a' := ?_) #[true, true, false, false, false, false, false, false, false, false, false] rfl rfl (any_of HT_.out (by kernel_rfl)) (fun _ _ _ h => h) (Or.inl ⟨by rfl, ?_⟩) ?_ ?_
                  rotate_left
                  ·intro w'
                   go_simp
                   with_reducible rfl
                  rotate_left
                  ·simp only [Act.put, List.setIfInBounds_toArray, List.set_cons_zero, List.set_cons_succ, i64_w, i32_w]
                   rfl
                  refine pure_ (i := 2) (N := some 46) (v := ?_) (a' := ?_) #[true, true, true, false, false, false, false, false, false, false, false] rfl rfl (any_of HT_.out (by kernel_rfl)) (fun _ _ _ h => h) (Or.inl ⟨by rfl, ?_⟩) ?_ ?_
                  rotate_left
                  ·intro w'
                   go_simp
                   with_reducible rfl
                  rotate_left
                  ·simp only [Act.put, List.setIfInBounds_toArray, List.set_cons_zero, List.set_cons_succ, i64_w, i32_w]
                   rfl
                  refine pure_ (i := 3) (N := some 47) (v := ?_) (a' := ?_) #[true, true, true, true, false, false, false, false, false, false, false] rfl rfl (any_of HT_.out (by kernel_rfl)) (fun _ _ _ h => h) (Or.inl ⟨by rfl, ?_⟩) ?_ ?_
                  rotate_left
                  ·intro w'
                   go_simp
                   with_reducible rfl
                  rotate_left
                  ·simp only [Act.put, List.setIfInBounds_toArray, List.set_cons_zero, List.set_cons_succ, i64_w, i32_w]
                   rfl
                  refine pure_ (i := 5) (N := some 49) (v := ?_) (a' := ?_) #[true, true, true, true, false, true, false, false, false, false, false] rfl rfl (any_of HT_.out (by kernel_rfl)) (fun _ _ _ h => h) (Or.inl ⟨by rfl, ?_⟩) ?_ ?_
                  rotate_left
                  ·intro w'
                   go_simp
                   with_reducible rfl
                  rotate_left
                  ·simp only [Act.put, List.setIfInBounds_toArray, List.set_cons_zero, List.set_cons_succ, i64_w, i32_w]
                   rfl
                  refine pure_ (i := 6) (N := some 50) (v := ?_) (a' := ?_) #[true, true, true, true, false, true, true, false, false, false, false] rfl rfl (any_of HT_.out (by kernel_rfl)) (fun _ _ _ h => h) (Or.inl ⟨by rfl, ?_⟩) ?_ ?_
                  rotate_left
                  ·intro w'
                   go_simp
                   with_reducible rfl
                  rotate_left
                  ·simp only [Act.put, List.setIfInBounds_toArray, List.set_cons_zero, List.set_cons_succ, i64_w, i32_w]
                   rfl
                  refine pure_ (i := 7) (N := some 51) (v := ?_) (a' := ?_) #[true, true, true, true, false, true, true, true, false, false, false] rfl rfl (any_of HT_.out (by kernel_rfl)) (fun _ _ _ h => h) (Or.inl ⟨by rfl, ?_⟩) ?_ ?_
                  rotate_left
                  ·intro w'
                   go_simp
                   with_reducible rfl
                  rotate_left
                  ·simp only [Act.put, List.setIfInBounds_toArray, List.set_cons_zero, List.set_cons_succ, i64_w, i32_w]
                   rfl
                  refine take_ (i := 4) (N := some 48) (v := ?_) (a' := ?_) #[true, true, true, true, true, true, true, true, false, false, false] rfl rfl (take_ofW HT_.out HW_.out (by kernel_rfl)) (fun _ _ _ h => h) (Or.inl ⟨by rfl, ?_⟩) hHeld ?_ ?_
                  rotate_left
                  ·rintro w' ⟨s0, s1, s2, s3, s4, s5⟩
                   go_simp
                   with_reducible rfl
                  rotate_left
                  ·simp only [Act.put, List.setIfInBounds_toArray, List.set_cons_zero, List.set_cons_succ, i64_w, i32_w]
                   rfl
                  refine take_ (i := 8) (N := some 52) (v := ?_) (a' := ?_) #[true, true, true, true, true, true, true, true, true, false, false] rfl rfl (take_ofW HT_.out HW_.out (by kernel_rfl)) (fun _ _ _ h => h) (Or.inl ⟨by rfl, ?_⟩) hHeld ?_ ?_
                  rotate_left
                  ·rintro w' ⟨s0, s1, s2, s3, s4, s5⟩
                   go_simp
                   with_reducible rfl
                  rotate_left
                  ·simp only [Act.put, List.setIfInBounds_toArray, List.set_cons_zero, List.set_cons_succ, i64_w, i32_w]
                   rfl
                  refine one_ (i := 9) (N := some 53) #[true, true, true, true, true, true, true, true, true, true, false] rfl rfl (one_of HT_.out (by kernel_rfl)) (by decide) (fun K hK => ?_)
                  refine goes_ Try.func23 (by kernel_rfl) rfl #[.agg #[.int .i64 ((rd_T38 l1 (ji18)).f0), .int .i64 ((rd_T38 l1 (ji18)).f1), .slice A261_2 ((rd_T38 l1 (ji18)).f2).length c261_2], .agg #[.int .i64 ((rd_T38 l1 x8_3).f0), .int .i64 ((rd_T38 l1 x8_3).f1), .slice A262_2 ((rd_T38 l1 x8_3).f2).length c262_2]] (by rfl) rfl rfl (by (try simp only [List.map_toArray, List.map_cons, List.map_nil]); first | done | (simp only [hji18]; rfl) | rfl | (simp only [List.length_drop, List.length_take]; rfl)) ?_
                  with_reducible refine (corporaref24_Compare.calls k3 ((rd_T38 l1 (ji18)).f0) ((rd_T38 l1 (ji18)).f1) _ _ ((rd_T38 l1 (ji18)).f2) ((rd_T38 l1 x8_3).f0) ((rd_T38 l1 x8_3).f1) _ _ ((rd_T38 l1 x8_3).f2) t263 _ ?side1 ?side2 ?side3 ?side4 A22.out).mono ?_
                  (case side1 => repeat (first | exact (Kd.C_below HR261_2.out HB.out) | (with_reducible refine Kd.C_alloc ?_ _) | (with_reducible refine Kd.C_drewN ?_ _) | (with_reducible refine Kd.C_drew ?_)))
                  (case side2 => exact HC261_2.out)
                  (case side3 => repeat (first | exact (Kd.C_below HR262_2.out HB.out) | (with_reducible refine Kd.C_alloc ?_ _) | (with_reducible refine Kd.C_drewN ?_ _) | (with_reducible refine Kd.C_drew ?_)))
                  (case side4 => exact HC262_2.out)
                  rintro e w27 ⟨rfl, hb⟩
                  refine ⟨_, rfl, ?_⟩
                  have n0_ := Aside0.mk (below_step (by repeat (first | (with_reducible first | exact HB.out | apply below_alloc | apply pw_below_drewN | apply below_drew1) | exact HB.out)) hb)
                  clear HB
                  have HB := n0_
                  clear n0_
                  (try clear hb)
                  (try clear hb2)
                  (try clear hk)
                  (try clear hi)
                  refine hK.out _ _ ⟨((HB.out.cell (World.block_lt_of_cell? w _ hw261_0)).trans hw261_0), ((HB.out.cell (World.block_lt_of_cell? w _ hw261_1)).trans hw261_1), ((HB.out.cell (World.block_lt_of_cell? w _ hw261_2)).trans hw261_2), ((HB.out.cell (World.block_lt_of_cell? w _ hw262_0)).trans hw262_0), ((HB.out.cell (World.block_lt_of_cell? w _ hw262_1)).trans hw262_1), ((HB.out.cell (World.block_lt_of_cell? w _ hw262_2)).trans hw262_2)⟩ (fun hHeld => ?_)
                  clear hK K
                  refine norm_ (a' := ?_) ?_ ?_
                  rotate_left
                  ·show Act.put _ (some 53) _ = _
                   simp only [Act.put, List.setIfInBounds_toArray, List.set_cons_zero, List.set_cons_succ, i64_w, i32_w]
                   rfl
                  refine pure_ (i := 10) (N := some 54) (v := ?_) (a' := ?_) #[true, true, true, true, true, true, true, true, true, true, true] rfl rfl (any_of HT_.out (by kernel_rfl)) (fun _ _ _ h => h) (Or.inl ⟨by rfl, ?_⟩) ?_ ?_
                  rotate_left
                  ·intro w'
                   go_simp
                   with_reducible rfl
                  rotate_left
                  ·simp only [Act.put, List.setIfInBounds_toArray, List.set_cons_zero, List.set_cons_succ, i64_w, i32_w]
                   rfl
                  refine done_ (done_of HT_.out (by kernel_rfl)) ?_
                  try go_wp2
                  go_roundg k3
                  case measure => have := HJ2.out; have := HK2.out; have := HK3.out; omega
                  case rel => exact ⟨(wrap64 (x8_3 + 1)), (by first | rfl | (simp; done) | (simp [*]; done)), H', ⟨by have := HJ2.out; have := HK2.out; have := HK3.out; omega⟩, ⟨by repeat (first | (with_reducible first | exact HB.out | apply below_alloc | apply pw_below_drewN | apply below_drew1) | exact HB.out)⟩⟩
                 rw [if_neg c21] at H
                 exact absurd H (by simp)
                rw [if_neg c20] at H
                exact absurd H (by simp)
               rw [if_neg c19] at H
               exact absurd H (by simp)
              rw [if_neg c17] at H
              have c17b0 : decide (x8_3 < (l1.length : Int)) = false := decide_eq_false c17
              clear c17
              replace H := Option.bind_eq_some_iff.mp H
              obtain ⟨t264, A280, H⟩ := H
              replace H : ((corporaref27_Chosen.f k3 a0 t264).bind fun t267 => (corporaref27_Choose.l2 k3 t267 ([] : List (S38)) l1 (l1.length : Int) 0)) = some (r1, r2) := H
              have A28 := Aside0.mk A280
              clear A280
              replace H := Option.bind_eq_some_iff.mp H
              obtain ⟨t267, A290, H⟩ := H
              replace H : (corporaref27_Choose.l2 k3 t267 ([] : List (S38)) l1 (l1.length : Int) 0) = some (r1, r2) := H
              have A29 := Aside0.mk A290
              clear A290
              have H' := Aside0.mk H
              clear H
              go_wp2_with (first | ((with_reducible refine gate_callee (f := 17) rfl ?_); refine goesL_ (some 57) rfl rfl Try.func17 (by kernel_rfl) rfl #[.slice A1 l1.length c1] rfl (by (try simp only [List.map_toArray, List.map_cons, List.map_nil]); first | done | rfl | (simp only [List.length_drop, List.length_take]; rfl)) ?_; (with_reducible refine (corporaref27_Spans.calls k3 _ _ l1 t264 _ ?side1 ?side2 A28.out).mono ?_); (case side1 => repeat (first | exact (Kd.C_below HR1.out HB.out) | (with_reducible refine Kd.C_alloc ?_ _) | (with_reducible refine Kd.C_drewN ?_ _) | (with_reducible refine Kd.C_drew ?_))); (case side2 => exact HC1.out); rintro e w30 ⟨v265, rfl, ho0, hb⟩; refine ⟨_, rfl, ?_⟩; have n0_ := Aside0.mk (Kd.R_lower ho0 (below_size (by repeat (first | (with_reducible first | exact HB.out | apply below_alloc | apply pw_below_drewN | apply below_drew1) | exact HB.out)))); have n1_ := Aside0.mk (below_step (by repeat (first | (with_reducible first | exact HB.out | apply below_alloc | apply pw_below_drewN | apply below_drew1) | exact HB.out)) hb); clear HB; have HO266 := n0_; have HB := n1_; clear n0_ n1_; (try clear hb); (try clear hb2); (try clear hk); (try clear hi); (try clear ho0); obtain ⟨Ao31, co31, eo31⟩ := Kd.R_slice HO266.out; subst eo31) | ((with_reducible refine gate_callee (f := 32) rfl ?_); refine goesL_ (some 58) rfl rfl Try.func32 (by kernel_rfl) rfl #[.int .i64 a0, .slice Ao31 t264.length co31] rfl (by (try simp only [List.map_toArray, List.map_cons, List.map_nil]); first | done | rfl | (simp only [List.length_drop, List.length_take]; rfl)) ?_; (with_reducible refine (corporaref27_Chosen.calls k3 a0 _ _ t264 t267 _ ?side1 ?side2 A29.out).mono ?_); (case side1 => repeat (first | exact (Kd.R_reads' HO266.out).2.2 | (with_reducible refine Kd.C_alloc ?_ _) | (with_reducible refine Kd.C_drewN ?_ _) | (with_reducible refine Kd.C_drew ?_))); (case side2 => exact (Kd.R_reads' HO266.out).2.1); rintro e w32 ⟨v268, rfl, ho0, hb⟩; refine ⟨_, rfl, ?_⟩; have n0_ := Aside0.mk (Kd.R_elder' (by (with_reducible repeat (first | apply Kd.R_alloc | apply Kd.R_drewN | apply Kd.R_drew)); exact HO266.out) (Kd.R_base ho0) hb); have n1_ := Aside0.mk (Kd.R_lower (Kd.R_new' ho0 (Kd.R_lt (by (with_reducible repeat (first | apply Kd.R_alloc | apply Kd.R_drewN | apply Kd.R_drew)); exact HO266.out))) (below_size (by repeat (first | (with_reducible first | exact HB.out | apply below_alloc | apply pw_below_drewN | apply below_drew1) | exact HB.out)))); have n2_ := Aside0.mk (below_step (by repeat (first | (with_reducible first | exact HB.out | apply below_alloc | apply pw_below_drewN | apply below_drew1) | exact HB.out)) hb); clear HO266; clear HB; have HO266 := n0_; have HO269 := n1_; have HB := n2_; clear n0_ n1_ n2_; (try clear hb); (try clear hb2); (try clear hk); (try clear hi); (try clear ho0)))
              go_loopg [10, 61] k3 (fun kq v10 v61 w' => ∃ (x10_4 : List (S38)) (x61_4 : Int), v61 = .int .i64 x61_4 ∧ Aside0 (corporaref27_Choose.l2 kq t267 x10_4 l1 (l1.length : Int) x61_4 = some (r1, r2)) ∧ Aside0 (kq ≤ k3) ∧ Aside0 (Kd.R k40 40 w' w.heap.size (fun _ => True) v268 t267) ∧ Aside0 (Kd.N k38 38 w' w.heap.size (fun _ => True) v10 x10_4) ∧ Aside0 (Below w.heap.size w w'))
              case atStart => exact ⟨(([] : List (S38))), (0), (by first | rfl | (simp; done) | (simp [*]; done)), H', ⟨Nat.le_refl _⟩, ⟨by (with_reducible repeat (first | apply Kd.R_alloc | apply Kd.R_drewN | apply Kd.R_drew)); exact Kd.R_mono HO269.out (fun _ hk => trivial)⟩, ⟨by first | exact Kd.N_nil _ _ _ _ _ | exact Kd.N_nil _ _ _ _ _ | exact Kd.V_nil _ _ _ _ _ | exact Kd.Q_nil _ _ _ _ _ | exact Kd.R_nil _ _ _ _ _⟩, ⟨by repeat (first | (with_reducible first | exact HB.out | apply below_alloc | apply pw_below_drewN | apply below_drew1) | exact HB.out)⟩⟩
              case round =>
                clear H'
                try clear c1
                try clear c2
                try clear p2
                try clear q2
                try clear hx2
                try clear c3
                try clear c4
                try clear c4b0
                try clear c5
                try clear c6
                try clear c6b0
                try clear p6
                try clear c7
                try clear c7b0
                try clear c8
                try clear c8b0
                try clear c9
                try clear c9b0
                try clear c12
                try clear c12b0
                try clear c13
                try clear c17
                try clear c17b0
                try clear c19
                try clear c19b0
                try clear c20
                try clear c20b0
                try clear c21
                try clear c21b0
                try clear c23
                try clear c23b0
                try clear c25
                try clear p25
                try clear q25
                try clear hx25
                try clear c26
                try clear p26
                try clear q26
                try clear hx26
                try clear c32
                try clear hcz11_0
                try clear hcz11_1
                try clear hcz11_2
                try clear hcz14_0
                try clear hcz14_1
                try clear hcz14_2
                try clear hcz16_0
                try clear hcz16_1
                try clear hcz16_2
                try clear hfz11_0
                try clear hfz11_1
                try clear hfz11_2
                try clear hfz14_0
                try clear hfz14_1
                try clear hfz14_2
                try clear hfz16_0
                try clear hfz16_1
                try clear hfz16_2
                try clear hx259_0
                try clear hx259_1
                try clear hx259_2
                try clear hx261_0
                try clear hx261_1
                try clear hx261_2
                try clear hx262_0
                try clear hx262_1
                try clear hx262_2
                try clear p2
                try clear p259
                try clear p261
                try clear p262
                try clear p6
                try clear q2
                try clear q259
                try clear q261
                try clear q262
                obtain ⟨x10_4, x61_4, rfl, HA, HK4, HO_9, HO_10, HB⟩ := hrel
                cases gk with
                | zero => exact absurd HA.out (by simp [corporaref27_Choose.l2])
                | succ k4 =>
                  have H := HA.out
                  clear HA
                  simp only [corporaref27_Choose.l2] at H
                  by_cases c33 : x61_4 < (l1.length : Int)
                  ·rw [if_pos c33] at H
                   have c33b0 : decide (x61_4 < (l1.length : Int)) = true := decide_eq_true c33
                   clear c33
                   by_cases c34 : 0 ≤ x61_4
                   ·rw [if_pos c34] at H
                    have c34b0 : decide (0 ≤ x61_4) = true := decide_eq_true c34
                    clear c34
                    by_cases c35 : x61_4 < (l1.length : Int)
                    ·rw [if_pos c35] at H
                     have c35b0 : decide (x61_4 < (l1.length : Int)) = true := decide_eq_true c35
                     clear c35
                     have H' := Aside0.mk H
                     clear H
                     have p270 : 0 ≤ (x61_4 : Int) := of_decide_eq_true (by first | (with_reducible assumption) | assumption)
                     have q270 : x61_4 < (l1.length : Int) := of_decide_eq_true (by first | (with_reducible assumption) | assumption)
                     obtain ⟨ad270, A270_2, c270_2, e270, hx270_0, hx270_1, hx270_2, hl270_2, hi270_2⟩ := at_T38 HR1.out x61_4 p270 q270
                     cases e270
                     replace hx270_0 := (HB.out.cell (World.block_lt_of_cell? w _ hx270_0)).trans hx270_0
                     replace hx270_1 := (HB.out.cell (World.block_lt_of_cell? w _ hx270_1)).trans hx270_1
                     replace hx270_2 := (HB.out.cell (World.block_lt_of_cell? w _ hx270_2)).trans hx270_2
                     have HF270 := Aside0.mk (k38_mkF w (fun k_ => k_ < w.heap.size) (rd_T38 l1 x61_4) hl270_2 (Kd.C_F (Kd.heap_int .i64) hi270_2))
                     have HR270_2 := Aside0.mk hi270_2
                     have HC270_2 := Aside0.mk hl270_2
                     clear hi270_2 hl270_2
                     replace p270 := eq_true p270
                     replace q270 := eq_true q270
                     go_wp2_with (first | ((with_reducible refine gate_dst (N := 12) rfl ?_); refine box_event ?hg (N := 12) ?hd (cs := #[.int .i64 0, .int .i64 0, .slice none 0 0]) (t := 38) ?hr ?_; (case hd => rfl); (case hg => rfl); (case hr => first | (go_simp; done) | (go_simp; rfl)); intro gb271 hg w36 hbox hb; have n0_ := Aside0.mk (Kd.R_below (by (with_reducible repeat (first | apply Kd.R_alloc | apply Kd.R_drewN | apply Kd.R_drew)); exact HO_9.out) hb); have n1_ := Aside0.mk (Kd.N_below (Kd.N_elderB (by (with_reducible repeat (first | apply Kd.N_alloc | apply Kd.N_drewN | apply Kd.N_drew)); exact HO_10.out) gb271 (Nat.le_of_eq hg.symm)) hb); have n2_ := Aside0.mk (below_step (by repeat (first | (with_reducible first | exact HB.out | apply below_alloc | apply pw_below_drewN | apply below_drew1) | exact HB.out)) hb); have n3_ := Aside0.mk (hbox); have n4_ := Aside0.mk ((by rw [hg]; exact (below_size (by repeat (first | (with_reducible first | exact HB.out | apply below_alloc | apply pw_below_drewN | apply below_drew1) | exact HB.out))) : w.heap.size ≤ gb271)); have n5_ := Aside0.mk ((by rw [hg]; exact (below_size (by repeat (first | (with_reducible first | exact HB.out | apply below_alloc | apply pw_below_drewN | apply below_drew1) | exact HB.out))) : w.heap.size ≤ gb271)); clear HO_9; clear HO_10; clear HB; have HO_9 := n0_; have HO_10 := n1_; have HB := n2_; have BK271 := n3_; have GW271 := n4_; have GE271 := n5_; clear n0_ n1_ n2_ n3_ n4_ n5_; clear hb hbox hg; have hcz37_0 : w36.cell? ⟨gb271, 0, none⟩ = some (.int .i64 0) := (blk_cell BK271.out 0).trans rfl; have hcz37_1 : w36.cell? ⟨gb271, 1, none⟩ = some (.int .i64 0) := (blk_cell BK271.out 1).trans rfl; have hcz37_2 : w36.cell? ⟨gb271, 2, none⟩ = some (.slice none 0 0) := (blk_cell BK271.out 2).trans rfl; have hfz37_0 := blk_frozen BK271.out 0; have hfz37_1 := blk_frozen BK271.out 1; have hfz37_2 := blk_frozen BK271.out 2; obtain ⟨Ao38, co38, eo38⟩ := Kd.R_slice HO_9.out; subst eo38))
                     go_loopg [10, 67] k4 (fun kq v10 v67 w' => ∃ (x10_5 : List (S38)) (x67_5 : Int), v67 = .int .i64 x67_5 ∧ Aside0 (corporaref27_Choose.l3 kq t267 x10_5 l1 (l1.length : Int) x61_4 t267 (t267.length : Int) x67_5 ((rd_T38 l1 x61_4).f0) ((rd_T38 l1 x61_4).f1) ((rd_T38 l1 x61_4).f2) = some (r1, r2)) ∧ Aside0 (kq ≤ k4) ∧ Aside0 (Kd.R k40 40 w' w.heap.size (fun _ => True) (.slice Ao38 t267.length co38) t267) ∧ Aside0 (Kd.N k38 38 w' w.heap.size (fun k_ => k_ ≠ gb271) v10 x10_5) ∧ Aside0 (Kd.R k40 40 w' w.heap.size (fun _ => True) (.slice Ao38 t267.length co38) t267) ∧ Aside0 (w'.heap[gb271]? = some (.cells #[.int .i64 ((rd_T38 l1 x61_4).f0), .int .i64 ((rd_T38 l1 x61_4).f1), (.slice A270_2 ((rd_T38 l1 x61_4).f2).length c270_2)] 38 (0, 0))) ∧ Aside0 (Below w.heap.size w w'))
                     case atStart => exact ⟨(x10_4), (0), (by first | rfl | (simp; done) | (simp [*]; done)), H', ⟨Nat.le_refl _⟩, ⟨by (with_reducible repeat (first | apply Kd.R_alloc | apply Kd.R_drewN | apply Kd.R_drew)); exact Kd.R_mono (Kd.R_far (p := ⟨gb271, 2, none⟩) (Kd.R_far (p := ⟨gb271, 1, none⟩) (Kd.R_far (p := ⟨gb271, 0, none⟩) (Kd.R_types HO_9.out BK271.out (by decide)) (fun _ hk => hk.2) (.int .i64 ((rd_T38 l1 x61_4).f0))) (fun _ hk => hk.2) (.int .i64 ((rd_T38 l1 x61_4).f1))) (fun _ hk => hk.2) (.slice A270_2 ((rd_T38 l1 x61_4).f2).length c270_2)) (fun _ hk => trivial)⟩, ⟨by (with_reducible repeat (first | apply Kd.N_alloc | apply Kd.N_drewN | apply Kd.N_drew)); exact Kd.N_mono (Kd.N_far (p := ⟨gb271, 2, none⟩) (Kd.N_far (p := ⟨gb271, 1, none⟩) (Kd.N_far (p := ⟨gb271, 0, none⟩) (Kd.N_mono HO_10.out (fun k_ hk => (⟨hk, hk.2⟩ : _ ∧ k_ ≠ gb271))) (fun _ hk => hk.2) (.int .i64 ((rd_T38 l1 x61_4).f0))) (fun _ hk => hk.2) (.int .i64 ((rd_T38 l1 x61_4).f1))) (fun _ hk => hk.2) (.slice A270_2 ((rd_T38 l1 x61_4).f2).length c270_2)) (fun _ hk => hk.1.2)⟩, ⟨by (with_reducible repeat (first | apply Kd.R_alloc | apply Kd.R_drewN | apply Kd.R_drew)); exact Kd.R_mono (Kd.R_far (p := ⟨gb271, 2, none⟩) (Kd.R_far (p := ⟨gb271, 1, none⟩) (Kd.R_far (p := ⟨gb271, 0, none⟩) (Kd.R_types HO_9.out BK271.out (by decide)) (fun _ hk => hk.2) (.int .i64 ((rd_T38 l1 x61_4).f0))) (fun _ hk => hk.2) (.int .i64 ((rd_T38 l1 x61_4).f1))) (fun _ hk => hk.2) (.slice A270_2 ((rd_T38 l1 x61_4).f2).length c270_2)) (fun _ hk => trivial)⟩, ⟨by (with_reducible repeat (first | refine blk_drewN ?_ _ | refine blk_drew ?_ | refine blk_alloc ?_ _)); refine blk_put (cs := #[.int .i64 ((rd_T38 l1 x61_4).f0), .int .i64 ((rd_T38 l1 x61_4).f1), .slice none 0 0]) ?_ 2 _ rfl; (with_reducible repeat (first | refine blk_drewN ?_ _ | refine blk_drew ?_ | refine blk_alloc ?_ _)); refine blk_put (cs := #[.int .i64 ((rd_T38 l1 x61_4).f0), .int .i64 0, .slice none 0 0]) ?_ 1 _ rfl; (with_reducible repeat (first | refine blk_drewN ?_ _ | refine blk_drew ?_ | refine blk_alloc ?_ _)); refine blk_put (cs := #[.int .i64 0, .int .i64 0, .slice none 0 0]) ?_ 0 _ rfl; (with_reducible repeat (first | refine blk_drewN ?_ _ | refine blk_drew ?_ | refine blk_alloc ?_ _)); exact BK271.out⟩, ⟨by repeat (first | (with_reducible first | exact HB.out | apply below_alloc | apply pw_below_drewN | apply below_drew1 | refine below_set ?_ GE271.out) | exact HB.out)⟩⟩
                     case round =>
                       clear H'
                       try clear c1
                       try clear c2
                       try clear p2
                       try clear q2
                       try clear hx2
                       try clear c3
                       try clear c4
                       try clear c4b0
                       try clear c5
                       try clear c6
                       try clear c6b0
                       try clear p6
                       try clear c7
                       try clear c7b0
                       try clear c8
                       try clear c8b0
                       try clear c9
                       try clear c9b0
                       try clear c12
                       try clear c12b0
                       try clear c13
                       try clear c17
                       try clear c17b0
                       try clear c19
                       try clear c19b0
                       try clear c20
                       try clear c20b0
                       try clear c21
                       try clear c21b0
                       try clear c23
                       try clear c23b0
                       try clear c25
                       try clear p25
                       try clear q25
                       try clear hx25
                       try clear c26
                       try clear p26
                       try clear q26
                       try clear hx26
                       try clear c27
                       try clear p27
                       try clear q27
                       try clear hx27
                       try clear c32
                       try clear c33
                       try clear c33b0
                       try clear c34
                       try clear c34b0
                       try clear c35
                       try clear c35b0
                       try clear hcz11_0
                       try clear hcz11_1
                       try clear hcz11_2
                       try clear hcz14_0
                       try clear hcz14_1
                       try clear hcz14_2
                       try clear hcz16_0
                       try clear hcz16_1
                       try clear hcz16_2
                       try clear hcz37_0
                       try clear hcz37_1
                       try clear hcz37_2
                       try clear hfz11_0
                       try clear hfz11_1
                       try clear hfz11_2
                       try clear hfz14_0
                       try clear hfz14_1
                       try clear hfz14_2
                       try clear hfz16_0
                       try clear hfz16_1
                       try clear hfz16_2
                       try clear hfz37_0
                       try clear hfz37_1
                       try clear hfz37_2
                       try clear hx259_0
                       try clear hx259_1
                       try clear hx259_2
                       try clear hx261_0
                       try clear hx261_1
                       try clear hx261_2
                       try clear hx262_0
                       try clear hx262_1
                       try clear hx262_2
                       try clear hx270_0
                       try clear hx270_1
                       try clear hx270_2
                       try clear p2
                       try clear p25
                       try clear p259
                       try clear p26
                       try clear p261
                       try clear p262
                       try clear p270
                       try clear p6
                       try clear q2
                       try clear q25
                       try clear q259
                       try clear q26
                       try clear q261
                       try clear q262
                       try clear q270
                       obtain ⟨x10_5, x67_5, rfl, HA, HK5, HO_9, HO_10, HO_65, BK271, HB⟩ := hrel
                       cases gk with
                       | zero => exact absurd HA.out (by simp [corporaref27_Choose.l3])
                       | succ k5 =>
                         have H := HA.out
                         clear HA
                         simp only [corporaref27_Choose.l3] at H
                         by_cases c39 : x67_5 < (t267.length : Int)
                         ·rw [if_pos c39] at H
                          have c39b0 : decide (x67_5 < (t267.length : Int)) = true := decide_eq_true c39
                          clear c39
                          by_cases c40 : 0 ≤ x67_5
                          ·rw [if_pos c40] at H
                           have c40b0 : decide (0 ≤ x67_5) = true := decide_eq_true c40
                           clear c40
                           by_cases c41 : x67_5 < (t267.length : Int)
                           ·rw [if_pos c41] at H
                            have c41b0 : decide (x67_5 < (t267.length : Int)) = true := decide_eq_true c41
                            clear c41
                            by_cases c42 : (((rd_T40 t267 x67_5).f0) == ((rd_T38 l1 x61_4).f0) && (((rd_T40 t267 x67_5).f1) == ((rd_T38 l1 x61_4).f1))) = true
                            ·rw [if_pos c42] at H
                             have c42b0 : (((rd_T40 t267 x67_5).f0) == ((rd_T38 l1 x61_4).f0) && (((rd_T40 t267 x67_5).f1) == ((rd_T38 l1 x61_4).f1))) = true := c42
                             (try (have c42b1 : decide (((rd_T40 t267 x67_5).f0) = ((rd_T38 l1 x61_4).f0) && (((rd_T40 t267 x67_5).f1) == ((rd_T38 l1 x61_4).f1))) = true := by simpa using c42))
                             (try (have c42b2 : (((rd_T40 t267 x67_5).f0) == ((rd_T38 l1 x61_4).f0) && (((rd_T40 t267 x67_5).f1) == ((rd_T38 l1 x61_4).f1))) = true := by simpa using c42))
                             clear c42
                             by_cases c44 : x10_5.length < 3518437208883
                             ·rw [if_pos c44] at H
                              have LMc44 := Aside0.mk c44
                              clear c44
                              obtain ⟨y277, hy277⟩ : ∃ y_ : List (S38), y_ = (x10_5 ++ [(⟨((rd_T38 l1 x61_4).f0), ((rd_T38 l1 x61_4).f1), ((rd_T38 l1 x61_4).f2)⟩ : S38)]) := ⟨_, rfl⟩
                              replace H : (corporaref27_Choose.l3 k5 t267 y277 l1 (l1.length : Int) x61_4 t267 (t267.length : Int) (wrap64 (x67_5 + 1)) ((rd_T38 l1 x61_4).f0) ((rd_T38 l1 x61_4).f1) ((rd_T38 l1 x61_4).f2)) = some (r1, r2) := by first | (rw [hy277]; with_reducible exact H) | (have H2_ := (Option.bind_some _ _).symm.trans H; rw [hy277]; with_reducible exact H2_) | (have H2_ := (Option.bind_some _ _).symm.trans H; with_reducible exact H2_) | with_reducible exact H | (rw [hy277]; exact H) | exact H
                              have Ny277 := Aside0.mk hy277
                              clear hy277
                              have H' := Aside0.mk H
                              clear H
                              have p272 : 0 ≤ (x67_5 : Int) := of_decide_eq_true (by first | (with_reducible assumption) | assumption)
                              have q272 : x67_5 < (t267.length : Int) := of_decide_eq_true (by first | (with_reducible assumption) | assumption)
                              obtain ⟨ad272, e272, hx272_0, hx272_1⟩ := at_T40 (Kd.R_reads' HO_65.out).2.2 x67_5 p272 q272
                              cases e272
                              replace p272 := eq_true p272
                              replace q272 := eq_true q272
                              go_wp2_with (first | ((with_reducible refine gate_dst (N := 14) rfl ?_); refine box_event ?hg (N := 14) ?hd (cs := #[.int .i64 0, .int .i64 0]) (t := 40) ?hr ?_; (case hd => rfl); (case hg => rfl); (case hr => first | (go_simp; done) | (go_simp; rfl)); intro gb273 hg w45 hbox hb; have n0_ := Aside0.mk (Kd.R_below (Kd.R_elderB (by (with_reducible repeat (first | apply Kd.R_alloc | apply Kd.R_drewN | apply Kd.R_drew)); exact HO_9.out) gb273 (Nat.le_of_eq hg.symm)) hb); have n1_ := Aside0.mk (Kd.N_below (Kd.N_elderB (by (with_reducible repeat (first | apply Kd.N_alloc | apply Kd.N_drewN | apply Kd.N_drew)); exact HO_10.out) gb273 (Nat.le_of_eq hg.symm)) hb); have n2_ := Aside0.mk (Kd.R_below (Kd.R_elderB (by (with_reducible repeat (first | apply Kd.R_alloc | apply Kd.R_drewN | apply Kd.R_drew)); exact HO_65.out) gb273 (Nat.le_of_eq hg.symm)) hb); have n3_ := Aside0.mk (blk_below (g := gb271) (o := .cells #[.int .i64 ((rd_T38 l1 x61_4).f0), .int .i64 ((rd_T38 l1 x61_4).f1), .slice A270_2 ((rd_T38 l1 x61_4).f2).length c270_2] 38 (0, 0)) (by (with_reducible repeat (first | refine blk_drewN ?_ _ | refine blk_drew ?_ | refine blk_alloc ?_ _)); exact BK271.out) hb); have n4_ := Aside0.mk (below_step (by repeat (first | (with_reducible first | exact HB.out | apply below_alloc | apply pw_below_drewN | apply below_drew1 | refine below_set ?_ GE271.out) | exact HB.out)) hb); have n5_ := Aside0.mk (hbox); have n6_ := Aside0.mk ((by rw [hg]; exact (below_size (by repeat (first | (with_reducible first | exact HB.out | apply below_alloc | apply pw_below_drewN | apply below_drew1 | refine below_set ?_ GE271.out) | exact HB.out))) : w.heap.size ≤ gb273)); have n7_ := Aside0.mk ((by rw [hg]; exact (below_size (by repeat (first | (with_reducible first | exact HB.out | apply below_alloc | apply pw_below_drewN | apply below_drew1 | refine below_set ?_ GE271.out) | exact HB.out))) : w.heap.size ≤ gb273)); have n8_ := Aside0.mk ((by rw [hg]; exact Nat.ne_of_lt (blk_lt (g := gb271) (o := .cells #[.int .i64 ((rd_T38 l1 x61_4).f0), .int .i64 ((rd_T38 l1 x61_4).f1), .slice A270_2 ((rd_T38 l1 x61_4).f2).length c270_2] 38 (0, 0)) (by (with_reducible repeat (first | refine blk_drewN ?_ _ | refine blk_drew ?_ | refine blk_alloc ?_ _)); exact BK271.out)) : gb271 ≠ gb273)); have n9_ := Aside0.mk ((by rw [hg]; exact Nat.ne_of_gt (blk_lt (g := gb271) (o := .cells #[.int .i64 ((rd_T38 l1 x61_4).f0), .int .i64 ((rd_T38 l1 x61_4).f1), .slice A270_2 ((rd_T38 l1 x61_4).f2).length c270_2] 38 (0, 0)) (by (with_reducible repeat (first | refine blk_drewN ?_ _ | refine blk_drew ?_ | refine blk_alloc ?_ _)); exact BK271.out)) : gb273 ≠ gb271)); clear HO_9; clear HO_10; clear HO_65; clear BK271; clear HB; have HO_9 := n0_; have HO_10 := n1_; have HO_65 := n2_; have BK271 := n3_; have HB := n4_; have BK273 := n5_; have GW273 := n6_; have GE273 := n7_; have NB271_273 := n8_; have NB273_271 := n9_; clear n0_ n1_ n2_ n3_ n4_ n5_ n6_ n7_ n8_ n9_; clear hb hbox hg; have hnb46 := NB273_271.out; have hnc46 := NB271_273.out; have hcz47_0 : w45.cell? ⟨gb273, 0, none⟩ = some (.int .i64 0) := (blk_cell BK273.out 0).trans rfl; have hcz47_1 : w45.cell? ⟨gb273, 1, none⟩ = some (.int .i64 0) := (blk_cell BK273.out 1).trans rfl; have hfz47_0 := blk_frozen BK273.out 0; have hfz47_1 := blk_frozen BK273.out 1; have hcz48_0 : w45.cell? ⟨gb271, 0, none⟩ = some (.int .i64 ((rd_T38 l1 x61_4).f0)) := (blk_cell BK271.out 0).trans rfl; have hcz48_1 : w45.cell? ⟨gb271, 1, none⟩ = some (.int .i64 ((rd_T38 l1 x61_4).f1)) := (blk_cell BK271.out 1).trans rfl; have hcz48_2 : w45.cell? ⟨gb271, 2, none⟩ = some (.slice A270_2 ((rd_T38 l1 x61_4).f2).length c270_2) := (blk_cell BK271.out 2).trans rfl; have hfz48_0 := blk_frozen BK271.out 0; have hfz48_1 := blk_frozen BK271.out 1; have hfz48_2 := blk_frozen BK271.out 2) | ((with_reducible refine gate_builtin (b := .append) (xs := #[.tmp 78, .tmp 80]) rfl ?_); at_builtin; refine Kd.N_append k38 (w0 := w) w.heap.size rfl (.tmp 78) (.tmp 80) 23 38 (.agg #[(.int .i64 0), (.int .i64 0), (.slice none 0 0)]) 40 rfl Try.underlying23 info38 rfl (by decide) (by omega) u10 x10_5 (⟨((rd_T38 l1 x61_4).f0), ((rd_T38 l1 x61_4).f1), ((rd_T38 l1 x61_4).f2)⟩ : S38) [.int .i64 ((rd_T38 l1 x61_4).f0), .int .i64 ((rd_T38 l1 x61_4).f1), .slice A270_2 ((rd_T38 l1 x61_4).f2).length c270_2] (fun k_ => k_ ≠ gb271) (fun k_ => k_ < w.heap.size) rfl (by first | rfl | (go_simp; done) | (simp; done) | (go_simp; rfl)) ?aP ?aK ?aF ?aO ?aB ?aS ?aL ?_; (case aP => exact Kd.FK_below HF270.out (by repeat (first | (with_reducible first | exact HB.out | apply below_alloc | apply pw_below_drewN | apply below_drew1 | refine below_set ?_ GE271.out | refine below_set ?_ GE273.out) | exact HB.out))); (case aK => exact (fun k_ hk => ⟨fun e_ => by have h_ := GW271.out; omega, fun e_ => by have h_ := Kd.N_base HO_10.out k_ e_.symm; omega⟩)); (case aB => exact (by repeat (first | (with_reducible first | exact HB.out | apply below_alloc | apply pw_below_drewN | apply below_drew1 | refine below_set ?_ GE271.out | refine below_set ?_ GE273.out) | exact HB.out))); (case aF => exact (fun k_ hk => Kd.freshB (g := gb271) (o := .cells #[.int .i64 ((rd_T38 l1 x61_4).f0), .int .i64 ((rd_T38 l1 x61_4).f1), .slice A270_2 ((rd_T38 l1 x61_4).f2).length c270_2] 38 (0, 0)) (by (with_reducible repeat (first | refine blk_drewN ?_ _ | refine blk_drew ?_ | refine blk_alloc ?_ _)); refine blk_far ?_ NB271_273.out _; (with_reducible repeat (first | refine blk_drewN ?_ _ | refine blk_drew ?_ | refine blk_alloc ?_ _)); refine blk_far ?_ NB271_273.out _; (with_reducible repeat (first | refine blk_drewN ?_ _ | refine blk_drew ?_ | refine blk_alloc ?_ _)); exact BK271.out) k_ hk)); (case aO => exact (by (with_reducible repeat (first | apply Kd.N_alloc | apply Kd.N_drewN | apply Kd.N_drew)); exact Kd.N_mono (Kd.N_far (p := ⟨gb273, 1, none⟩) (Kd.N_far (p := ⟨gb273, 0, none⟩) HO_10.out (fun _ hk => hk.2) (.int .i64 ((rd_T40 t267 x67_5).f0))) (fun _ hk => hk.2) (.int .i64 ((rd_T40 t267 x67_5).f1))) (fun _ hk => hk.1))); (case aS => exact (below_size (by repeat (first | (with_reducible first | exact HB.out | apply below_alloc | apply pw_below_drewN | apply below_drew1 | refine below_set ?_ GE271.out | refine below_set ?_ GE273.out) | exact HB.out)))); (case aL => have := LMc44.out; omega); intro v278 w51 ho hb hg hat; rw [← Ny277.out] at ho; have n0_ := Aside0.mk (Kd.R_over' (by (with_reducible repeat (first | apply Kd.R_alloc | apply Kd.R_drewN | apply Kd.R_drew)); exact (Kd.R_mono (Kd.R_far (p := ⟨gb273, 1, none⟩) (Kd.R_far (p := ⟨gb273, 0, none⟩) (Kd.R_mono HO_9.out (fun k_ hk => (⟨hk, hk.2⟩ : _ ∧ k_ ≠ gb273))) (fun _ hk => hk.2) (.int .i64 ((rd_T40 t267 x67_5).f0))) (fun _ hk => hk.2) (.int .i64 ((rd_T40 t267 x67_5).f1))) (fun _ h_ => h_.1))) (Kd.N_typed (by (with_reducible repeat (first | apply Kd.N_alloc | apply Kd.N_drewN | apply Kd.N_drew)); exact Kd.N_far (p := ⟨gb273, 1, none⟩) (Kd.N_far (p := ⟨gb273, 0, none⟩) HO_10.out (fun _ hk => hk.2) (.int .i64 ((rd_T40 t267 x67_5).f0))) (fun _ hk => hk.2) (.int .i64 ((rd_T40 t267 x67_5).f1)))) (by decide) hg); have n1_ := Aside0.mk (Kd.R_over' (by (with_reducible repeat (first | apply Kd.R_alloc | apply Kd.R_drewN | apply Kd.R_drew)); exact (Kd.R_mono (Kd.R_far (p := ⟨gb273, 1, none⟩) (Kd.R_far (p := ⟨gb273, 0, none⟩) (Kd.R_mono HO_65.out (fun k_ hk => (⟨hk, hk.2⟩ : _ ∧ k_ ≠ gb273))) (fun _ hk => hk.2) (.int .i64 ((rd_T40 t267 x67_5).f0))) (fun _ hk => hk.2) (.int .i64 ((rd_T40 t267 x67_5).f1))) (fun _ h_ => h_.1))) (Kd.N_typed (by (with_reducible repeat (first | apply Kd.N_alloc | apply Kd.N_drewN | apply Kd.N_drew)); exact Kd.N_far (p := ⟨gb273, 1, none⟩) (Kd.N_far (p := ⟨gb273, 0, none⟩) HO_10.out (fun _ hk => hk.2) (.int .i64 ((rd_T40 t267 x67_5).f0))) (fun _ hk => hk.2) (.int .i64 ((rd_T40 t267 x67_5).f1)))) (by decide) hg); have n2_ := Aside0.mk (blk_grown (g := gb271) (o := .cells #[.int .i64 ((rd_T38 l1 x61_4).f0), .int .i64 ((rd_T38 l1 x61_4).f1), .slice A270_2 ((rd_T38 l1 x61_4).f2).length c270_2] 38 (0, 0)) (by (with_reducible repeat (first | refine blk_drewN ?_ _ | refine blk_drew ?_ | refine blk_alloc ?_ _)); refine blk_far ?_ NB271_273.out _; (with_reducible repeat (first | refine blk_drewN ?_ _ | refine blk_drew ?_ | refine blk_alloc ?_ _)); refine blk_far ?_ NB271_273.out _; (with_reducible repeat (first | refine blk_drewN ?_ _ | refine blk_drew ?_ | refine blk_alloc ?_ _)); exact BK271.out) hg (Kd.N_away HO_10.out (fun _ hk => hk.1))); have n4_ := Aside0.mk (hb); have n5_ := Aside0.mk (ho); clear HO_9; clear HO_65; clear BK271; clear BK273; clear HB; clear HO_10; have HO_9 := n0_; have HO_65 := n1_; have BK271 := n2_; have HB := n4_; have HO279 := n5_; clear n0_ n1_ n2_ n4_ n5_; clear ho hb hg hat))
                              go_roundg k5
                              case measure => have := HJ2.out; have := HK2.out; have := HK3.out; have := HK4.out; have := HK5.out; omega
                              case rel => exact ⟨(y277), (wrap64 (x67_5 + 1)), (by first | rfl | (simp; done) | (simp [*]; done)), H', ⟨by have := HJ2.out; have := HK2.out; have := HK3.out; have := HK4.out; have := HK5.out; omega⟩, ⟨by (with_reducible repeat (first | apply Kd.R_alloc | apply Kd.R_drewN | apply Kd.R_drew)); exact Kd.R_mono HO_9.out (fun _ hk => trivial)⟩, ⟨by (with_reducible repeat (first | apply Kd.N_alloc | apply Kd.N_drewN | apply Kd.N_drew)); exact HO279.out⟩, ⟨by (with_reducible repeat (first | apply Kd.R_alloc | apply Kd.R_drewN | apply Kd.R_drew)); exact Kd.R_mono HO_65.out (fun _ hk => trivial)⟩, ⟨by (with_reducible repeat (first | refine blk_drewN ?_ _ | refine blk_drew ?_ | refine blk_alloc ?_ _)); exact BK271.out⟩, ⟨by repeat (first | (with_reducible first | exact HB.out | apply below_alloc | apply pw_below_drewN | apply below_drew1 | refine below_set ?_ GE271.out | refine below_set ?_ GE273.out) | exact HB.out)⟩⟩
                             rw [if_neg c44] at H
                             exact absurd H (by simp)
                            rw [if_neg c42] at H
                            have c42b0 : (((rd_T40 t267 x67_5).f0) == ((rd_T38 l1 x61_4).f0) && (((rd_T40 t267 x67_5).f1) == ((rd_T38 l1 x61_4).f1))) = false := by simpa using c42
                            (try (have c42b1 : decide (((rd_T40 t267 x67_5).f0) = ((rd_T38 l1 x61_4).f0) && (((rd_T40 t267 x67_5).f1) == ((rd_T38 l1 x61_4).f1))) = false := by simpa using c42))
                            (try (have c42b2 : (((rd_T40 t267 x67_5).f0) == ((rd_T38 l1 x61_4).f0) && (((rd_T40 t267 x67_5).f1) == ((rd_T38 l1 x61_4).f1))) = false := by simpa using c42))
                            (try (have c42b3 : ¬ (((rd_T40 t267 x67_5).f0) = ((rd_T38 l1 x61_4).f0) && (((rd_T40 t267 x67_5).f1) == ((rd_T38 l1 x61_4).f1))) := by simpa using c42))
                            clear c42
                            have H' := Aside0.mk H
                            clear H
                            have p272 : 0 ≤ (x67_5 : Int) := of_decide_eq_true (by first | (with_reducible assumption) | assumption)
                            have q272 : x67_5 < (t267.length : Int) := of_decide_eq_true (by first | (with_reducible assumption) | assumption)
                            obtain ⟨ad272, e272, hx272_0, hx272_1⟩ := at_T40 (Kd.R_reads' HO_65.out).2.2 x67_5 p272 q272
                            cases e272
                            replace p272 := eq_true p272
                            replace q272 := eq_true q272
                            go_wp2_with (first | ((with_reducible refine gate_dst (N := 14) rfl ?_); refine box_event ?hg (N := 14) ?hd (cs := #[.int .i64 0, .int .i64 0]) (t := 40) ?hr ?_; (case hd => rfl); (case hg => rfl); (case hr => first | (go_simp; done) | (go_simp; rfl)); intro gb273 hg w52 hbox hb; have n0_ := Aside0.mk (Kd.R_below (Kd.R_elderB (by (with_reducible repeat (first | apply Kd.R_alloc | apply Kd.R_drewN | apply Kd.R_drew)); exact HO_9.out) gb273 (Nat.le_of_eq hg.symm)) hb); have n1_ := Aside0.mk (Kd.N_below (Kd.N_elderB (by (with_reducible repeat (first | apply Kd.N_alloc | apply Kd.N_drewN | apply Kd.N_drew)); exact HO_10.out) gb273 (Nat.le_of_eq hg.symm)) hb); have n2_ := Aside0.mk (Kd.R_below (Kd.R_elderB (by (with_reducible repeat (first | apply Kd.R_alloc | apply Kd.R_drewN | apply Kd.R_drew)); exact HO_65.out) gb273 (Nat.le_of_eq hg.symm)) hb); have n3_ := Aside0.mk (blk_below (g := gb271) (o := .cells #[.int .i64 ((rd_T38 l1 x61_4).f0), .int .i64 ((rd_T38 l1 x61_4).f1), .slice A270_2 ((rd_T38 l1 x61_4).f2).length c270_2] 38 (0, 0)) (by (with_reducible repeat (first | refine blk_drewN ?_ _ | refine blk_drew ?_ | refine blk_alloc ?_ _)); exact BK271.out) hb); have n4_ := Aside0.mk (below_step (by repeat (first | (with_reducible first | exact HB.out | apply below_alloc | apply pw_below_drewN | apply below_drew1 | refine below_set ?_ GE271.out) | exact HB.out)) hb); have n5_ := Aside0.mk (hbox); have n6_ := Aside0.mk ((by rw [hg]; exact (below_size (by repeat (first | (with_reducible first | exact HB.out | apply below_alloc | apply pw_below_drewN | apply below_drew1 | refine below_set ?_ GE271.out) | exact HB.out))) : w.heap.size ≤ gb273)); have n7_ := Aside0.mk ((by rw [hg]; exact (below_size (by repeat (first | (with_reducible first | exact HB.out | apply below_alloc | apply pw_below_drewN | apply below_drew1 | refine below_set ?_ GE271.out) | exact HB.out))) : w.heap.size ≤ gb273)); have n8_ := Aside0.mk ((by rw [hg]; exact Nat.ne_of_lt (blk_lt (g := gb271) (o := .cells #[.int .i64 ((rd_T38 l1 x61_4).f0), .int .i64 ((rd_T38 l1 x61_4).f1), .slice A270_2 ((rd_T38 l1 x61_4).f2).length c270_2] 38 (0, 0)) (by (with_reducible repeat (first | refine blk_drewN ?_ _ | refine blk_drew ?_ | refine blk_alloc ?_ _)); exact BK271.out)) : gb271 ≠ gb273)); have n9_ := Aside0.mk ((by rw [hg]; exact Nat.ne_of_gt (blk_lt (g := gb271) (o := .cells #[.int .i64 ((rd_T38 l1 x61_4).f0), .int .i64 ((rd_T38 l1 x61_4).f1), .slice A270_2 ((rd_T38 l1 x61_4).f2).length c270_2] 38 (0, 0)) (by (with_reducible repeat (first | refine blk_drewN ?_ _ | refine blk_drew ?_ | refine blk_alloc ?_ _)); exact BK271.out)) : gb273 ≠ gb271)); clear HO_9; clear HO_10; clear HO_65; clear BK271; clear HB; have HO_9 := n0_; have HO_10 := n1_; have HO_65 := n2_; have BK271 := n3_; have HB := n4_; have BK273 := n5_; have GW273 := n6_; have GE273 := n7_; have NB271_273 := n8_; have NB273_271 := n9_; clear n0_ n1_ n2_ n3_ n4_ n5_ n6_ n7_ n8_ n9_; clear hb hbox hg; have hnb53 := NB273_271.out; have hnc53 := NB271_273.out; have hcz54_0 : w52.cell? ⟨gb273, 0, none⟩ = some (.int .i64 0) := (blk_cell BK273.out 0).trans rfl; have hcz54_1 : w52.cell? ⟨gb273, 1, none⟩ = some (.int .i64 0) := (blk_cell BK273.out 1).trans rfl; have hfz54_0 := blk_frozen BK273.out 0; have hfz54_1 := blk_frozen BK273.out 1; have hcz55_0 : w52.cell? ⟨gb271, 0, none⟩ = some (.int .i64 ((rd_T38 l1 x61_4).f0)) := (blk_cell BK271.out 0).trans rfl; have hcz55_1 : w52.cell? ⟨gb271, 1, none⟩ = some (.int .i64 ((rd_T38 l1 x61_4).f1)) := (blk_cell BK271.out 1).trans rfl; have hcz55_2 : w52.cell? ⟨gb271, 2, none⟩ = some (.slice A270_2 ((rd_T38 l1 x61_4).f2).length c270_2) := (blk_cell BK271.out 2).trans rfl; have hfz55_0 := blk_frozen BK271.out 0; have hfz55_1 := blk_frozen BK271.out 1; have hfz55_2 := blk_frozen BK271.out 2))
                            go_roundg k5
                            case measure => have := HJ2.out; have := HK2.out; have := HK3.out; have := HK4.out; have := HK5.out; omega
                            case rel => exact ⟨(x10_5), (wrap64 (x67_5 + 1)), (by first | rfl | (simp; done) | (simp [*]; done)), H', ⟨by have := HJ2.out; have := HK2.out; have := HK3.out; have := HK4.out; have := HK5.out; omega⟩, ⟨by (with_reducible repeat (first | apply Kd.R_alloc | apply Kd.R_drewN | apply Kd.R_drew)); exact Kd.R_mono (Kd.R_far (p := ⟨gb273, 1, none⟩) (Kd.R_far (p := ⟨gb273, 0, none⟩) (Kd.R_mono HO_9.out (fun k_ hk => (⟨hk, hk.2⟩ : _ ∧ k_ ≠ gb273))) (fun _ hk => hk.2) (.int .i64 ((rd_T40 t267 x67_5).f0))) (fun _ hk => hk.2) (.int .i64 ((rd_T40 t267 x67_5).f1))) (fun _ hk => trivial)⟩, ⟨by (with_reducible repeat (first | apply Kd.N_alloc | apply Kd.N_drewN | apply Kd.N_drew)); exact Kd.N_mono (Kd.N_far (p := ⟨gb273, 1, none⟩) (Kd.N_far (p := ⟨gb273, 0, none⟩) HO_10.out (fun _ hk => hk.2) (.int .i64 ((rd_T40 t267 x67_5).f0))) (fun _ hk => hk.2) (.int .i64 ((rd_T40 t267 x67_5).f1))) (fun _ hk => hk.1)⟩, ⟨by (with_reducible repeat (first | apply Kd.R_alloc | apply Kd.R_drewN | apply Kd.R_drew)); exact Kd.R_mono (Kd.R_far (p := ⟨gb273, 1, none⟩) (Kd.R_far (p := ⟨gb273, 0, none⟩) (Kd.R_mono HO_65.out (fun k_ hk => (⟨hk, hk.2⟩ : _ ∧ k_ ≠ gb273))) (fun _ hk => hk.2) (.int .i64 ((rd_T40 t267 x67_5).f0))) (fun _ hk => hk.2) (.int .i64 ((rd_T40 t267 x67_5).f1))) (fun _ hk => trivial)⟩, ⟨by (with_reducible repeat (first | refine blk_drewN ?_ _ | refine blk_drew ?_ | refine blk_alloc ?_ _)); refine blk_far ?_ NB271_273.out _; (with_reducible repeat (first | refine blk_drewN ?_ _ | refine blk_drew ?_ | refine blk_alloc ?_ _)); refine blk_far ?_ NB271_273.out _; (with_reducible repeat (first | refine blk_drewN ?_ _ | refine blk_drew ?_ | refine blk_alloc ?_ _)); exact BK271.out⟩, ⟨by repeat (first | (with_reducible first | exact HB.out | apply below_alloc | apply pw_below_drewN | apply below_drew1 | refine below_set ?_ GE271.out | refine below_set ?_ GE273.out) | exact HB.out)⟩⟩
                           rw [if_neg c41] at H
                           exact absurd H (by simp)
                          rw [if_neg c40] at H
                          exact absurd H (by simp)
                         rw [if_neg c39] at H
                         have c39b0 : decide (x67_5 < (t267.length : Int)) = false := decide_eq_false c39
                         clear c39
                         have H' := Aside0.mk H
                         clear H
                         go_wp2
                         go_roundg k5
                         case measure => have := HJ2.out; have := HK2.out; have := HK3.out; have := HK4.out; have := HK5.out; omega
                         case rel => exact ⟨(x10_5), (wrap64 (x61_4 + 1)), (by first | rfl | (simp; done) | (simp [*]; done)), H', ⟨by have := HJ2.out; have := HK2.out; have := HK3.out; have := HK4.out; have := HK5.out; omega⟩, ⟨by (with_reducible repeat (first | apply Kd.R_alloc | apply Kd.R_drewN | apply Kd.R_drew)); exact HO_9.out⟩, ⟨by (with_reducible repeat (first | apply Kd.N_alloc | apply Kd.N_drewN | apply Kd.N_drew)); exact Kd.N_mono HO_10.out (fun _ hk => trivial)⟩, ⟨by repeat (first | (with_reducible first | exact HB.out | apply below_alloc | apply pw_below_drewN | apply below_drew1 | refine below_set ?_ GE271.out) | exact HB.out)⟩⟩
                    rw [if_neg c35] at H
                    exact absurd H (by simp)
                   rw [if_neg c34] at H
                   exact absurd H (by simp)
                  rw [if_neg c33] at H
                  have c33b0 : decide (x61_4 < (l1.length : Int)) = false := decide_eq_false c33
                  clear c33
                  simp only [Option.some.injEq, Prod.mk.injEq] at H
                  obtain ⟨rfl, rfl⟩ := H
                  go_wp2
                  go_ret2
                  exact ⟨_, by first | rfl | (simp [errW_none, errW_some] <;> rfl) | (simp [*, errW_none, errW_some] <;> rfl), by (with_reducible repeat (first | apply Kd.N_alloc | apply Kd.N_drewN | apply Kd.N_drew)); exact HO_10.out, by repeat (first | (with_reducible first | exact HB.out | apply below_alloc | apply pw_below_drewN | apply below_drew1) | exact HB.out)⟩

end Go.Proofs.Ytmmdlkeemafanaa.Q
