import Derived.Test.YtmmdlkeemafanaaQx0
import Derived.Test.YtmmdlkeemafanaaQx1
import Derived.Test.YtmmdlkeemafanaaQm
namespace Go.Proofs.Ytmmdlkeemafanaa.Q
open Go.RowKit Go.Proofs.YtmmdlkeemafanaaW.PrintWords Go.Proofs.YtmmdlkeemafanaaW.PrintLast Go.Proofs.YtmmdlkeemafanaaW.PrintMore
attribute [local go_sem] max2_int min2_int max_two min_two max_three min_three max_four min_four   -- for this text's walks alone
set_option linter.unusedVariables false
set_option linter.unusedSimpArgs false

attribute [local go_sem high] eqA40

/-! ### corporaref27_Chosen: function 32 -/
mutual
def corporaref27_Chosen.l0 : Nat → Int → List (S40) → List (S40) → List (S40) → Int → Int → Option ((List (S40)))
  | 0, _, _, _, _, _, _ => none
  | k + 1, x0, x1, x5, x15, x16, x17 => if x17 < x16 then (if 0 ≤ x17 then (if x17 < (x15.length : Int) then (corporaref27_Chosen.l1 k x0 x1 x5 x17 true x15 x16 x17 x1 (x1.length : Int) 0 ((rd_T40 x15 x17).f0) ((rd_T40 x15 x17).f1)) else (none)) else (none)) else (if x0 = 3 then (corporaref27_Chosen.l2 k x1 x5 0) else (some x5))
def corporaref27_Chosen.l1 : Nat → Int → List (S40) → List (S40) → Int → Bool → List (S40) → Int → Int → List (S40) → Int → Int → Int → Int → Option ((List (S40)))
  | 0, _, _, _, _, _, _, _, _, _, _, _, _, _ => none
  | k + 1, x0, x1, x5, x6, x8, x15, x16, x17, x22, x23, x24, x243000, x243001 => if x24 < x23 then (if 0 ≤ x24 then (if x24 < (x22.length : Int) then (if x6 = x24 then (corporaref27_Chosen.l1 k x0 x1 x5 x6 x8 x15 x16 x17 x22 x23 (wrap64 (x24 + 1)) x243000 x243001) else (if x0 = 1 then ((corporaref27_Contains.f x243000 x243001 ((rd_T40 x22 x24).f0) ((rd_T40 x22 x24).f1)).bind fun t248 => (if t248 = true then (corporaref27_Chosen.l1 k x0 x1 x5 x6 false x15 x16 x17 x22 x23 (wrap64 (x24 + 1)) x243000 x243001) else (if x0 = 2 then ((corporaref27_Contains.f ((rd_T40 x22 x24).f0) ((rd_T40 x22 x24).f1) x243000 x243001).bind fun t249 => (if t249 = true then (corporaref27_Chosen.l1 k x0 x1 x5 x6 false x15 x16 x17 x22 x23 (wrap64 (x24 + 1)) x243000 x243001) else (corporaref27_Chosen.l1 k x0 x1 x5 x6 x8 x15 x16 x17 x22 x23 (wrap64 (x24 + 1)) x243000 x243001))) else (corporaref27_Chosen.l1 k x0 x1 x5 x6 x8 x15 x16 x17 x22 x23 (wrap64 (x24 + 1)) x243000 x243001)))) else (if x0 = 2 then ((corporaref27_Contains.f ((rd_T40 x22 x24).f0) ((rd_T40 x22 x24).f1) x243000 x243001).bind fun t250 => (if t250 = true then (corporaref27_Chosen.l1 k x0 x1 x5 x6 false x15 x16 x17 x22 x23 (wrap64 (x24 + 1)) x243000 x243001) else (corporaref27_Chosen.l1 k x0 x1 x5 x6 x8 x15 x16 x17 x22 x23 (wrap64 (x24 + 1)) x243000 x243001))) else (corporaref27_Chosen.l1 k x0 x1 x5 x6 x8 x15 x16 x17 x22 x23 (wrap64 (x24 + 1)) x243000 x243001)))) else (none)) else (none)) else (if x8 = true then (if x0 = 3 then (corporaref27_Chosen.l0 k x0 x1 x5 x15 x16 (wrap64 (x17 + 1))) else (if x5.length < 8796093022208 then (corporaref27_Chosen.l0 k x0 x1 (x5 ++ [(⟨x243000, x243001⟩ : S40)]) x15 x16 (wrap64 (x17 + 1))) else (none))) else (corporaref27_Chosen.l0 k x0 x1 x5 x15 x16 (wrap64 (x17 + 1))))
def corporaref27_Chosen.l2 : Nat → List (S40) → List (S40) → Int → Option ((List (S40)))
  | 0, _, _, _ => none
  | k + 1, x1, x5, x11 => corporaref27_Chosen.l3 k x1 x5 x11 x1 (x1.length : Int) 0 (-1) 0
def corporaref27_Chosen.l3 : Nat → List (S40) → List (S40) → Int → List (S40) → Int → Int → Int → Int → Option ((List (S40)))
  | 0, _, _, _, _, _, _, _, _ => none
  | k + 1, x1, x5, x11, x64, x65, x66, x252000, x252001 => if x66 < x65 then (if 0 ≤ x66 then (if x66 < (x64.length : Int) then (if ((rd_T40 x64 x66).f0) ≥ x11 then (if x252000 = (-1) then (corporaref27_Chosen.l3 k x1 x5 x11 x64 x65 (wrap64 (x66 + 1)) ((rd_T40 x64 x66).f0) ((rd_T40 x64 x66).f1)) else (if ((rd_T40 x64 x66).f0) < x252000 then (corporaref27_Chosen.l3 k x1 x5 x11 x64 x65 (wrap64 (x66 + 1)) ((rd_T40 x64 x66).f0) ((rd_T40 x64 x66).f1)) else (if ((rd_T40 x64 x66).f0) = x252000 then (if ((rd_T40 x64 x66).f1) > x252001 then (corporaref27_Chosen.l3 k x1 x5 x11 x64 x65 (wrap64 (x66 + 1)) ((rd_T40 x64 x66).f0) ((rd_T40 x64 x66).f1)) else (corporaref27_Chosen.l3 k x1 x5 x11 x64 x65 (wrap64 (x66 + 1)) x252000 x252001)) else (corporaref27_Chosen.l3 k x1 x5 x11 x64 x65 (wrap64 (x66 + 1)) x252000 x252001)))) else (corporaref27_Chosen.l3 k x1 x5 x11 x64 x65 (wrap64 (x66 + 1)) x252000 x252001)) else (none)) else (none)) else (if x252000 = (-1) then (some x5) else (if x5.length < 8796093022208 then (corporaref27_Chosen.l2 k x1 (x5 ++ [(⟨x252000, x252001⟩ : S40)]) x252001) else (none)))
end
def corporaref27_Chosen.f (k : Nat) (a0 : Int) (l1 : List (S40)) : Option ((List (S40))) := corporaref27_Chosen.l0 k a0 l1 ([] : List (S40)) l1 (l1.length : Int) 0
theorem corporaref27_Chosen.mono_l : ∀ k, (∀ y0 y1 y2 y3 y4 y5, LeO (corporaref27_Chosen.l0 k y0 y1 y2 y3 y4 y5) (corporaref27_Chosen.l0 (k + 1) y0 y1 y2 y3 y4 y5)) ∧ (∀ y0 y1 y2 y3 y4 y5 y6 y7 y8 y9 y10 y11 y12, LeO (corporaref27_Chosen.l1 k y0 y1 y2 y3 y4 y5 y6 y7 y8 y9 y10 y11 y12) (corporaref27_Chosen.l1 (k + 1) y0 y1 y2 y3 y4 y5 y6 y7 y8 y9 y10 y11 y12)) ∧ (∀ y0 y1 y2, LeO (corporaref27_Chosen.l2 k y0 y1 y2) (corporaref27_Chosen.l2 (k + 1) y0 y1 y2)) ∧ (∀ y0 y1 y2 y3 y4 y5 y6 y7, LeO (corporaref27_Chosen.l3 k y0 y1 y2 y3 y4 y5 y6 y7) (corporaref27_Chosen.l3 (k + 1) y0 y1 y2 y3 y4 y5 y6 y7))
  | 0 => ⟨fun _ _ _ _ _ _ r h => by simp [corporaref27_Chosen.l0] at h, fun _ _ _ _ _ _ _ _ _ _ _ _ _ r h => by simp [corporaref27_Chosen.l1] at h, fun _ _ _ r h => by simp [corporaref27_Chosen.l2] at h, fun _ _ _ _ _ _ _ _ r h => by simp [corporaref27_Chosen.l3] at h⟩
  | k + 1 => by
    obtain ⟨ih0, ih1, ih2, ih3⟩ := corporaref27_Chosen.mono_l k
    refine ⟨?_, ?_, ?_, ?_⟩
    ·intro y0 y1 y2 y3 y4 y5
     unfold corporaref27_Chosen.l0
     repeat' first
     | (with_reducible exact ih0 _ _ _ _ _ _)
     | (with_reducible exact ih1 _ _ _ _ _ _ _ _ _ _ _ _ _)
     | (with_reducible exact ih2 _ _ _)
     | (with_reducible exact ih3 _ _ _ _ _ _ _ _)
     | (with_reducible exact LeO.refl _)
     | (with_reducible exact LeO.none _)
     | (with_reducible refine LeO.ite ?_ ?_)
     | (with_reducible refine LeO.bind ?_ (fun _ => ?_))
     | exact ih0 _ _ _ _ _ _
     | exact ih1 _ _ _ _ _ _ _ _ _ _ _ _ _
     | exact ih2 _ _ _
     | exact ih3 _ _ _ _ _ _ _ _
     | exact LeO.none _
     | refine LeO.ite ?_ ?_
     | refine LeO.bind ?_ (fun _ => ?_)
    ·intro y0 y1 y2 y3 y4 y5 y6 y7 y8 y9 y10 y11 y12
     unfold corporaref27_Chosen.l1
     repeat' first
     | (with_reducible exact ih0 _ _ _ _ _ _)
     | (with_reducible exact ih1 _ _ _ _ _ _ _ _ _ _ _ _ _)
     | (with_reducible exact ih2 _ _ _)
     | (with_reducible exact ih3 _ _ _ _ _ _ _ _)
     | (with_reducible exact LeO.refl _)
     | (with_reducible exact LeO.none _)
     | (with_reducible refine LeO.ite ?_ ?_)
     | (with_reducible refine LeO.bind ?_ (fun _ => ?_))
     | exact ih0 _ _ _ _ _ _
     | exact ih1 _ _ _ _ _ _ _ _ _ _ _ _ _
     | exact ih2 _ _ _
     | exact ih3 _ _ _ _ _ _ _ _
     | exact LeO.none _
     | refine LeO.ite ?_ ?_
     | refine LeO.bind ?_ (fun _ => ?_)
    ·intro y0 y1 y2
     unfold corporaref27_Chosen.l2
     repeat' first
     | (with_reducible exact ih0 _ _ _ _ _ _)
     | (with_reducible exact ih1 _ _ _ _ _ _ _ _ _ _ _ _ _)
     | (with_reducible exact ih2 _ _ _)
     | (with_reducible exact ih3 _ _ _ _ _ _ _ _)
     | (with_reducible exact LeO.refl _)
     | (with_reducible exact LeO.none _)
     | (with_reducible refine LeO.ite ?_ ?_)
     | (with_reducible refine LeO.bind ?_ (fun _ => ?_))
     | exact ih0 _ _ _ _ _ _
     | exact ih1 _ _ _ _ _ _ _ _ _ _ _ _ _
     | exact ih2 _ _ _
     | exact ih3 _ _ _ _ _ _ _ _
     | exact LeO.none _
     | refine LeO.ite ?_ ?_
     | refine LeO.bind ?_ (fun _ => ?_)
    intro y0 y1 y2 y3 y4 y5 y6 y7
    unfold corporaref27_Chosen.l3
    repeat' first
    | (with_reducible exact ih0 _ _ _ _ _ _)
    | (with_reducible exact ih1 _ _ _ _ _ _ _ _ _ _ _ _ _)
    | (with_reducible exact ih2 _ _ _)
    | (with_reducible exact ih3 _ _ _ _ _ _ _ _)
    | (with_reducible exact LeO.refl _)
    | (with_reducible exact LeO.none _)
    | (with_reducible refine LeO.ite ?_ ?_)
    | (with_reducible refine LeO.bind ?_ (fun _ => ?_))
    | exact ih0 _ _ _ _ _ _
    | exact ih1 _ _ _ _ _ _ _ _ _ _ _ _ _
    | exact ih2 _ _ _
    | exact ih3 _ _ _ _ _ _ _ _
    | exact LeO.none _
    | refine LeO.ite ?_ ?_
    | refine LeO.bind ?_ (fun _ => ?_)
theorem corporaref27_Chosen.mono : ∀ a0 a1 k, LeO (corporaref27_Chosen.f k a0 a1) (corporaref27_Chosen.f (k + 1) a0 a1) := by
  intro a0 a1 k
  obtain ⟨ih0, ih1, ih2, ih3⟩ := corporaref27_Chosen.mono_l k
  unfold corporaref27_Chosen.f
  repeat' first
      | (with_reducible exact ih0 _ _ _ _ _ _)
      | (with_reducible exact ih1 _ _ _ _ _ _ _ _ _ _ _ _ _)
      | (with_reducible exact ih2 _ _ _)
      | (with_reducible exact ih3 _ _ _ _ _ _ _ _)
      | (with_reducible exact LeO.refl _)
      | (with_reducible exact LeO.none _)
      | (with_reducible refine LeO.ite ?_ ?_)
      | (with_reducible refine LeO.bind ?_ (fun _ => ?_))
      | exact ih0 _ _ _ _ _ _
      | exact ih1 _ _ _ _ _ _ _ _ _ _ _ _ _
      | exact ih2 _ _ _
      | exact ih3 _ _ _ _ _ _ _ _
      | exact LeO.none _
      | refine LeO.ite ?_ ?_
      | refine LeO.bind ?_ (fun _ => ?_)
def corporaref27_Chosen.T25 : Bool × List (List Nat × List Nat) := (true, [([], []), ([], []), ([1], [1]), ([0, 2], [0, 2]), ([], []), ([4], [4]), ([3, 3, 0, 1, 2, 3], [0, 3]), ([5, 6, 0, 1, 2, 3, 4, 5, 6], [5])])
def corporaref27_Chosen.B25 : List Nat := [0, 0, 2, 7, 0, 16, 15, 127]
theorem corporaref27_Chosen.tab25 : rtab .any (opsOf Try.f32 25) = corporaref27_Chosen.T25 := by kernel_rfl
theorem corporaref27_Chosen.bits25 : waitsOk corporaref27_Chosen.T25.2 corporaref27_Chosen.B25 = true := by kernel_rfl
set_option maxHeartbeats 8000000 in
set_option maxRecDepth 100000 in
theorem corporaref27_Chosen.calls (k : Nat) (a0 : Int) (A1 : Option Addr) (c1 : Nat) (l1 : List (S40)) (r : List (S40)) (w : World) (hr1 : Kd.C k40 w A1 l1.length l1) (hc1 : l1.length ≤ c1) (h : corporaref27_Chosen.f k a0 l1 = some r) :
    Calls Try.prog 32 #[.int .i64 a0, .slice A1 l1.length c1] w fun e w' => ∃ v0_ : Value, e = .returned (v0_) ∧ Kd.R k40 40 w' w.heap.size (fun _ => True) v0_ r ∧ Below w.heap.size w w' := by
  have hu40 := Try.underlying40
  have HR1 := Aside0.mk hr1
  have HC1 := Aside0.mk hc1
  clear hr1 hc1
  have HB := Aside0.mk (Below.refl w.heap.size w)
  have H : (corporaref27_Chosen.l0 k a0 l1 ([] : List (S40)) l1 (l1.length : Int) 0) = some r := h
  clear h
  have H' := Aside0.mk H
  clear H
  go_enter Try.func32, Try.ntmps32
  go_wp2
  go_loopg [5, 17] k (fun kq v5 v17 w' => ∃ (x5_1 : List (S40)) (x17_1 : Int), v17 = .int .i64 x17_1 ∧ Aside0 (corporaref27_Chosen.l0 kq a0 l1 x5_1 l1 (l1.length : Int) x17_1 = some r) ∧ Aside0 (kq ≤ k) ∧ Aside0 (Kd.R k40 40 w' w.heap.size (fun _ => True) v5 x5_1) ∧ Aside0 (Below w.heap.size w w'))
  case atStart => exact ⟨(([] : List (S40))), (0), (by first | rfl | (simp; done) | (simp [*]; done)), H', ⟨Nat.le_refl _⟩, ⟨by first | exact Kd.R_nil _ _ _ _ _ | exact Kd.N_nil _ _ _ _ _ | exact Kd.V_nil _ _ _ _ _ | exact Kd.Q_nil _ _ _ _ _ | exact Kd.S_nil _ _ _ _ _⟩, ⟨by repeat (first | (with_reducible first | exact HB.out | apply below_alloc | apply pw_below_drewN | apply below_drew1) | exact HB.out)⟩⟩
  case round =>
    clear H'
    try clear c1
    try clear p2
    obtain ⟨x5_1, x17_1, rfl, HA, HK1, HO_5, HB⟩ := hrel
    cases gk with
    | zero => exact absurd HA.out (by simp [corporaref27_Chosen.l0])
    | succ k1 =>
      have H := HA.out
      clear HA
      simp only [corporaref27_Chosen.l0] at H
      by_cases c3 : x17_1 < (l1.length : Int)
      ·rw [if_pos c3] at H
       have c3b0 : decide (x17_1 < (l1.length : Int)) = true := decide_eq_true c3
       clear c3
       by_cases c4 : 0 ≤ x17_1
       ·rw [if_pos c4] at H
        have c4b0 : decide (0 ≤ x17_1) = true := decide_eq_true c4
        clear c4
        by_cases c5 : x17_1 < (l1.length : Int)
        ·rw [if_pos c5] at H
         have c5b0 : decide (x17_1 < (l1.length : Int)) = true := decide_eq_true c5
         clear c5
         have H' := Aside0.mk H
         clear H
         have p241 : 0 ≤ (x17_1 : Int) := of_decide_eq_true (by first | (with_reducible assumption) | assumption)
         have q241 : x17_1 < (l1.length : Int) := of_decide_eq_true (by first | (with_reducible assumption) | assumption)
         obtain ⟨ad241, e241, hx241_0, hx241_1⟩ := at_T40 HR1.out x17_1 p241 q241
         cases e241
         replace hx241_0 := (HB.out.cell (World.block_lt_of_cell? w _ hx241_0)).trans hx241_0
         replace hx241_1 := (HB.out.cell (World.block_lt_of_cell? w _ hx241_1)).trans hx241_1
         replace p241 := eq_true p241
         replace q241 := eq_true q241
         go_wp2_with (first | ((with_reducible refine gate_dst (N := 7) rfl ?_); refine box_event ?hg (N := 7) ?hd (cs := #[.int .i64 0, .int .i64 0]) (t := 40) ?hr ?_; (case hd => rfl); (case hg => rfl); (case hr => first | (go_simp; done) | (go_simp; rfl)); intro gb242 hg w6 hbox hb; have n0_ := Aside0.mk (Kd.R_below (Kd.R_elderB (by (with_reducible repeat (first | apply Kd.R_alloc | apply Kd.R_drewN | apply Kd.R_drew)); exact HO_5.out) gb242 (Nat.le_of_eq hg.symm)) hb); have n1_ := Aside0.mk (below_step (by repeat (first | (with_reducible first | exact HB.out | apply below_alloc | apply pw_below_drewN | apply below_drew1) | exact HB.out)) hb); have n2_ := Aside0.mk (hbox); have n3_ := Aside0.mk ((by rw [hg]; exact (below_size (by repeat (first | (with_reducible first | exact HB.out | apply below_alloc | apply pw_below_drewN | apply below_drew1) | exact HB.out))) : w.heap.size ≤ gb242)); have n4_ := Aside0.mk ((by rw [hg]; exact (below_size (by repeat (first | (with_reducible first | exact HB.out | apply below_alloc | apply pw_below_drewN | apply below_drew1) | exact HB.out))) : w.heap.size ≤ gb242)); clear HO_5; clear HB; have HO_5 := n0_; have HB := n1_; have BK242 := n2_; have GW242 := n3_; have GE242 := n4_; clear n0_ n1_ n2_ n3_ n4_; clear hb hbox hg; have hcz7_0 : w6.cell? ⟨gb242, 0, none⟩ = some (.int .i64 0) := (blk_cell BK242.out 0).trans rfl; have hcz7_1 : w6.cell? ⟨gb242, 1, none⟩ = some (.int .i64 0) := (blk_cell BK242.out 1).trans rfl; have hfz7_0 := blk_frozen BK242.out 0; have hfz7_1 := blk_frozen BK242.out 1))
         go_loopg [8, 24] k1 (fun kq v8 v24 w' => ∃ (x8_2 : Bool) (x24_2 : Int), v8 = .bool x8_2 ∧ v24 = .int .i64 x24_2 ∧ Aside0 (corporaref27_Chosen.l1 kq a0 l1 x5_1 x17_1 x8_2 l1 (l1.length : Int) x17_1 l1 (l1.length : Int) x24_2 ((rd_T40 l1 x17_1).f0) ((rd_T40 l1 x17_1).f1) = some r) ∧ Aside0 (kq ≤ k1) ∧ Aside0 (Kd.R k40 40 w' w.heap.size (fun k_ => k_ ≠ gb242) u5 x5_1) ∧ Aside0 (w'.heap[gb242]? = some (.cells #[.int .i64 ((rd_T40 l1 x17_1).f0), .int .i64 ((rd_T40 l1 x17_1).f1)] 40 (0, 0))) ∧ Aside0 (Below w.heap.size w w'))
         case atStart => exact ⟨(true), (0), (by first | rfl | (simp; done) | (simp [*]; done)), (by first | rfl | (simp; done) | (simp [*]; done)), H', ⟨Nat.le_refl _⟩, ⟨by (with_reducible repeat (first | apply Kd.R_alloc | apply Kd.R_drewN | apply Kd.R_drew)); exact Kd.R_mono (Kd.R_far (p := ⟨gb242, 1, none⟩) (Kd.R_far (p := ⟨gb242, 0, none⟩) (Kd.R_mono HO_5.out (fun k_ hk => (⟨hk, hk.2⟩ : _ ∧ k_ ≠ gb242))) (fun _ hk => hk.2) (.int .i64 ((rd_T40 l1 x17_1).f0))) (fun _ hk => hk.2) (.int .i64 ((rd_T40 l1 x17_1).f1))) (fun _ hk => hk.1.2)⟩, ⟨by (with_reducible repeat (first | refine blk_drewN ?_ _ | refine blk_drew ?_ | refine blk_alloc ?_ _)); refine blk_put (cs := #[.int .i64 ((rd_T40 l1 x17_1).f0), .int .i64 0]) ?_ 1 _ rfl; (with_reducible repeat (first | refine blk_drewN ?_ _ | refine blk_drew ?_ | refine blk_alloc ?_ _)); refine blk_put (cs := #[.int .i64 0, .int .i64 0]) ?_ 0 _ rfl; (with_reducible repeat (first | refine blk_drewN ?_ _ | refine blk_drew ?_ | refine blk_alloc ?_ _)); exact BK242.out⟩, ⟨by repeat (first | (with_reducible first | exact HB.out | apply below_alloc | apply pw_below_drewN | apply below_drew1 | refine below_set ?_ GE242.out) | exact HB.out)⟩⟩
         case round =>
           clear H'
           try clear c1
           try clear p2
           try clear q2
           try clear hx2
           try clear c3
           try clear c3b0
           try clear c4
           try clear c4b0
           try clear c5
           try clear c5b0
           try clear hcz7_0
           try clear hcz7_1
           try clear hfz7_0
           try clear hfz7_1
           try clear hx241_0
           try clear hx241_1
           try clear p2
           try clear p241
           try clear q241
           obtain ⟨x8_2, x24_2, rfl, rfl, HA, HK2, HO_5, BK242, HB⟩ := hrel
           cases gk with
           | zero => exact absurd HA.out (by simp [corporaref27_Chosen.l1])
           | succ k2 =>
             have H := HA.out
             clear HA
             simp only [corporaref27_Chosen.l1] at H
             by_cases c8 : x24_2 < (l1.length : Int)
             ·rw [if_pos c8] at H
              have c8b0 : decide (x24_2 < (l1.length : Int)) = true := decide_eq_true c8
              clear c8
              by_cases c9 : 0 ≤ x24_2
              ·rw [if_pos c9] at H
               have c9b0 : decide (0 ≤ x24_2) = true := decide_eq_true c9
               clear c9
               by_cases c10 : x24_2 < (l1.length : Int)
               ·rw [if_pos c10] at H
                have c10b0 : decide (x24_2 < (l1.length : Int)) = true := decide_eq_true c10
                clear c10
                by_cases c11 : x17_1 = x24_2
                ·rw [if_pos c11] at H
                 have c11b0 : (x17_1 == x24_2) = true := beq_iff_eq.mpr c11
                 have c11b1 : (x17_1 != x24_2) = false := bne_eq_false_iff_eq.mpr c11
                 clear c11
                 have H' := Aside0.mk H
                 clear H
                 have p246 : 0 ≤ (x24_2 : Int) := of_decide_eq_true (by first | (with_reducible assumption) | assumption)
                 have q246 : x24_2 < (l1.length : Int) := of_decide_eq_true (by first | (with_reducible assumption) | assumption)
                 obtain ⟨ad246, e246, hx246_0, hx246_1⟩ := at_T40 HR1.out x24_2 p246 q246
                 obtain rfl : ad241 = ad246 := (by injection e246)
                 replace hx246_0 := (HB.out.cell (World.block_lt_of_cell? w _ hx246_0)).trans hx246_0
                 replace hx246_1 := (HB.out.cell (World.block_lt_of_cell? w _ hx246_1)).trans hx246_1
                 replace p246 := eq_true p246
                 replace q246 := eq_true q246
                 go_wp2_with (first | ((with_reducible refine gate_dst (N := 10) rfl ?_); refine box_event ?hg (N := 10) ?hd (cs := #[.int .i64 0, .int .i64 0]) (t := 40) ?hr ?_; (case hd => rfl); (case hg => rfl); (case hr => first | (go_simp; done) | (go_simp; rfl)); intro gb247 hg w12 hbox hb; have n0_ := Aside0.mk (Kd.R_below (Kd.R_elderB (by (with_reducible repeat (first | apply Kd.R_alloc | apply Kd.R_drewN | apply Kd.R_drew)); exact HO_5.out) gb247 (Nat.le_of_eq hg.symm)) hb); have n1_ := Aside0.mk (blk_below (g := gb242) (o := .cells #[.int .i64 ((rd_T40 l1 x17_1).f0), .int .i64 ((rd_T40 l1 x17_1).f1)] 40 (0, 0)) (by (with_reducible repeat (first | refine blk_drewN ?_ _ | refine blk_drew ?_ | refine blk_alloc ?_ _)); exact BK242.out) hb); have n2_ := Aside0.mk (below_step (by repeat (first | (with_reducible first | exact HB.out | apply below_alloc | apply pw_below_drewN | apply below_drew1 | refine below_set ?_ GE242.out) | exact HB.out)) hb); have n3_ := Aside0.mk (hbox); have n4_ := Aside0.mk ((by rw [hg]; exact (below_size (by repeat (first | (with_reducible first | exact HB.out | apply below_alloc | apply pw_below_drewN | apply below_drew1 | refine below_set ?_ GE242.out) | exact HB.out))) : w.heap.size ≤ gb247)); have n5_ := Aside0.mk ((by rw [hg]; exact (below_size (by repeat (first | (with_reducible first | exact HB.out | apply below_alloc | apply pw_below_drewN | apply below_drew1 | refine below_set ?_ GE242.out) | exact HB.out))) : w.heap.size ≤ gb247)); have n6_ := Aside0.mk ((by rw [hg]; exact Nat.ne_of_lt (blk_lt (g := gb242) (o := .cells #[.int .i64 ((rd_T40 l1 x17_1).f0), .int .i64 ((rd_T40 l1 x17_1).f1)] 40 (0, 0)) (by (with_reducible repeat (first | refine blk_drewN ?_ _ | refine blk_drew ?_ | refine blk_alloc ?_ _)); exact BK242.out)) : gb242 ≠ gb247)); have n7_ := Aside0.mk ((by rw [hg]; exact Nat.ne_of_gt (blk_lt (g := gb242) (o := .cells #[.int .i64 ((rd_T40 l1 x17_1).f0), .int .i64 ((rd_T40 l1 x17_1).f1)] 40 (0, 0)) (by (with_reducible repeat (first | refine blk_drewN ?_ _ | refine blk_drew ?_ | refine blk_alloc ?_ _)); exact BK242.out)) : gb247 ≠ gb242)); clear HO_5; clear BK242; clear HB; have HO_5 := n0_; have BK242 := n1_; have HB := n2_; have BK247 := n3_; have GW247 := n4_; have GE247 := n5_; have NB242_247 := n6_; have NB247_242 := n7_; clear n0_ n1_ n2_ n3_ n4_ n5_ n6_ n7_; clear hb hbox hg; have hnb13 := NB247_242.out; have hnc13 := NB242_247.out; have hcz14_0 : w12.cell? ⟨gb247, 0, none⟩ = some (.int .i64 0) := (blk_cell BK247.out 0).trans rfl; have hcz14_1 : w12.cell? ⟨gb247, 1, none⟩ = some (.int .i64 0) := (blk_cell BK247.out 1).trans rfl; have hfz14_0 := blk_frozen BK247.out 0; have hfz14_1 := blk_frozen BK247.out 1))
                 go_roundg k2
                 case measure => have := HK1.out; have := HK2.out; omega
                 case rel => exact ⟨(x8_2), (wrap64 (x24_2 + 1)), (by first | rfl | (simp; done) | (simp [*]; done)), (by first | rfl | (simp; done) | (simp [*]; done)), H', ⟨by have := HK1.out; have := HK2.out; omega⟩, ⟨by (with_reducible repeat (first | apply Kd.R_alloc | apply Kd.R_drewN | apply Kd.R_drew)); exact Kd.R_mono (Kd.R_far (p := ⟨gb247, 1, none⟩) (Kd.R_far (p := ⟨gb247, 0, none⟩) (Kd.R_mono HO_5.out (fun k_ hk => (⟨hk, hk.2⟩ : _ ∧ k_ ≠ gb247))) (fun _ hk => hk.2) (.int .i64 ((rd_T40 l1 x24_2).f0))) (fun _ hk => hk.2) (.int .i64 ((rd_T40 l1 x24_2).f1))) (fun _ hk => hk.1.1)⟩, ⟨by (with_reducible repeat (first | refine blk_drewN ?_ _ | refine blk_drew ?_ | refine blk_alloc ?_ _)); refine blk_far ?_ NB242_247.out _; (with_reducible repeat (first | refine blk_drewN ?_ _ | refine blk_drew ?_ | refine blk_alloc ?_ _)); refine blk_far ?_ NB242_247.out _; (with_reducible repeat (first | refine blk_drewN ?_ _ | refine blk_drew ?_ | refine blk_alloc ?_ _)); exact BK242.out⟩, ⟨by repeat (first | (with_reducible first | exact HB.out | apply below_alloc | apply pw_below_drewN | apply below_drew1 | refine below_set ?_ GE242.out | refine below_set ?_ GE247.out) | exact HB.out)⟩⟩
                rw [if_neg c11] at H
                have c11b0 : (x17_1 == x24_2) = false := beq_eq_false_iff_ne.mpr c11
                have c11b1 : (x17_1 != x24_2) = true := bne_iff_ne.mpr c11
                by_cases c15 : a0 = 1
                ·rw [if_pos c15] at H
                 have c15b0 : (a0 == 1) = true := beq_iff_eq.mpr c15
                 have c15b1 : (a0 != 1) = false := bne_eq_false_iff_eq.mpr c15
                 clear c15
                 replace H := Option.bind_eq_some_iff.mp H
                 obtain ⟨t248, A160, H⟩ := H
                 replace H : (if t248 = true then (corporaref27_Chosen.l1 k2 a0 l1 x5_1 x17_1 false l1 (l1.length : Int) x17_1 l1 (l1.length : Int) (wrap64 (x24_2 + 1)) ((rd_T40 l1 x17_1).f0) ((rd_T40 l1 x17_1).f1)) else (if a0 = 2 then ((corporaref27_Contains.f ((rd_T40 l1 x24_2).f0) ((rd_T40 l1 x24_2).f1) ((rd_T40 l1 x17_1).f0) ((rd_T40 l1 x17_1).f1)).bind fun t249 => (if t249 = true then (corporaref27_Chosen.l1 k2 a0 l1 x5_1 x17_1 false l1 (l1.length : Int) x17_1 l1 (l1.length : Int) (wrap64 (x24_2 + 1)) ((rd_T40 l1 x17_1).f0) ((rd_T40 l1 x17_1).f1)) else (corporaref27_Chosen.l1 k2 a0 l1 x5_1 x17_1 x8_2 l1 (l1.length : Int) x17_1 l1 (l1.length : Int) (wrap64 (x24_2 + 1)) ((rd_T40 l1 x17_1).f0) ((rd_T40 l1 x17_1).f1)))) else (corporaref27_Chosen.l1 k2 a0 l1 x5_1 x17_1 x8_2 l1 (l1.length : Int) x17_1 l1 (l1.length : Int) (wrap64 (x24_2 + 1)) ((rd_T40 l1 x17_1).f0) ((rd_T40 l1 x17_1).f1)))) = some r := H
                 have A16 := Aside0.mk A160
                 clear A160
                 by_cases c17 : t248 = true
                 ·subst c17
                  have H1 : (corporaref27_Chosen.l1 k2 a0 l1 x5_1 x17_1 false l1 (l1.length : Int) x17_1 l1 (l1.length : Int) (wrap64 (x24_2 + 1)) ((rd_T40 l1 x17_1).f0) ((rd_T40 l1 x17_1).f1)) = some r := by rw [if_pos rfl] at H; exact H
                  clear H
                  have H := H1
                  clear H1
                  have H' := Aside0.mk H
                  clear H
                  have p246 : 0 ≤ (x24_2 : Int) := of_decide_eq_true (by first | (with_reducible assumption) | assumption)
                  have q246 : x24_2 < (l1.length : Int) := of_decide_eq_true (by first | (with_reducible assumption) | assumption)
                  obtain ⟨ad246, e246, hx246_0, hx246_1⟩ := at_T40 HR1.out x24_2 p246 q246
                  obtain rfl : ad241 = ad246 := (by injection e246)
                  replace hx246_0 := (HB.out.cell (World.block_lt_of_cell? w _ hx246_0)).trans hx246_0
                  replace hx246_1 := (HB.out.cell (World.block_lt_of_cell? w _ hx246_1)).trans hx246_1
                  replace p246 := eq_true p246
                  replace q246 := eq_true q246
                  go_wp2_with (first | ((with_reducible refine gate_dst (N := 10) rfl ?_); refine box_event ?hg (N := 10) ?hd (cs := #[.int .i64 0, .int .i64 0]) (t := 40) ?hr ?_; (case hd => rfl); (case hg => rfl); (case hr => first | (go_simp; done) | (go_simp; rfl)); intro gb247 hg w18 hbox hb; have n0_ := Aside0.mk (Kd.R_below (Kd.R_elderB (by (with_reducible repeat (first | apply Kd.R_alloc | apply Kd.R_drewN | apply Kd.R_drew)); exact HO_5.out) gb247 (Nat.le_of_eq hg.symm)) hb); have n1_ := Aside0.mk (blk_below (g := gb242) (o := .cells #[.int .i64 ((rd_T40 l1 x17_1).f0), .int .i64 ((rd_T40 l1 x17_1).f1)] 40 (0, 0)) (by (with_reducible repeat (first | refine blk_drewN ?_ _ | refine blk_drew ?_ | refine blk_alloc ?_ _)); exact BK242.out) hb); have n2_ := Aside0.mk (below_step (by repeat (first | (with_reducible first | exact HB.out | apply below_alloc | apply pw_below_drewN | apply below_drew1 | refine below_set ?_ GE242.out) | exact HB.out)) hb); have n3_ := Aside0.mk (hbox); have n4_ := Aside0.mk ((by rw [hg]; exact (below_size (by repeat (first | (with_reducible first | exact HB.out | apply below_alloc | apply pw_below_drewN | apply below_drew1 | refine below_set ?_ GE242.out) | exact HB.out))) : w.heap.size ≤ gb247)); have n5_ := Aside0.mk ((by rw [hg]; exact (below_size (by repeat (first | (with_reducible first | exact HB.out | apply below_alloc | apply pw_below_drewN | apply below_drew1 | refine below_set ?_ GE242.out) | exact HB.out))) : w.heap.size ≤ gb247)); have n6_ := Aside0.mk ((by rw [hg]; exact Nat.ne_of_lt (blk_lt (g := gb242) (o := .cells #[.int .i64 ((rd_T40 l1 x17_1).f0), .int .i64 ((rd_T40 l1 x17_1).f1)] 40 (0, 0)) (by (with_reducible repeat (first | refine blk_drewN ?_ _ | refine blk_drew ?_ | refine blk_alloc ?_ _)); exact BK242.out)) : gb242 ≠ gb247)); have n7_ := Aside0.mk ((by rw [hg]; exact Nat.ne_of_gt (blk_lt (g := gb242) (o := .cells #[.int .i64 ((rd_T40 l1 x17_1).f0), .int .i64 ((rd_T40 l1 x17_1).f1)] 40 (0, 0)) (by (with_reducible repeat (first | refine blk_drewN ?_ _ | refine blk_drew ?_ | refine blk_alloc ?_ _)); exact BK242.out)) : gb247 ≠ gb242)); clear HO_5; clear BK242; clear HB; have HO_5 := n0_; have BK242 := n1_; have HB := n2_; have BK247 := n3_; have GW247 := n4_; have GE247 := n5_; have NB242_247 := n6_; have NB247_242 := n7_; clear n0_ n1_ n2_ n3_ n4_ n5_ n6_ n7_; clear hb hbox hg; have hnb19 := NB247_242.out; have hnc19 := NB242_247.out; have hcz20_0 : w18.cell? ⟨gb247, 0, none⟩ = some (.int .i64 0) := (blk_cell BK247.out 0).trans rfl; have hcz20_1 : w18.cell? ⟨gb247, 1, none⟩ = some (.int .i64 0) := (blk_cell BK247.out 1).trans rfl; have hfz20_0 := blk_frozen BK247.out 0; have hfz20_1 := blk_frozen BK247.out 1; have hcz21_0 : w18.cell? ⟨gb242, 0, none⟩ = some (.int .i64 ((rd_T40 l1 x17_1).f0)) := (blk_cell BK242.out 0).trans rfl; have hcz21_1 : w18.cell? ⟨gb242, 1, none⟩ = some (.int .i64 ((rd_T40 l1 x17_1).f1)) := (blk_cell BK242.out 1).trans rfl; have hfz21_0 := blk_frozen BK242.out 0; have hfz21_1 := blk_frozen BK242.out 1) | (go_at_call 20; (with_reducible refine (corporaref27_Contains.calls ((rd_T40 l1 x17_1).f0) ((rd_T40 l1 x17_1).f1) ((rd_T40 l1 x24_2).f0) ((rd_T40 l1 x24_2).f1) true _ A16.out).mono ?_); rintro e w22 ⟨rfl, hb⟩; have n0_ := Aside0.mk (Kd.R_below (by (with_reducible repeat (first | apply Kd.R_alloc | apply Kd.R_drewN | apply Kd.R_drew)); exact (Kd.R_mono (Kd.R_far (p := ⟨gb247, 1, none⟩) (Kd.R_far (p := ⟨gb247, 0, none⟩) (Kd.R_mono HO_5.out (fun k_ hk => (⟨hk, hk.2⟩ : _ ∧ k_ ≠ gb247))) (fun _ hk => hk.2) (.int .i64 ((rd_T40 l1 x24_2).f0))) (fun _ hk => hk.2) (.int .i64 ((rd_T40 l1 x24_2).f1))) (fun _ h_ => h_.1))) hb); have n1_ := Aside0.mk (blk_below (g := gb242) (o := .cells #[.int .i64 ((rd_T40 l1 x17_1).f0), .int .i64 ((rd_T40 l1 x17_1).f1)] 40 (0, 0)) (by (with_reducible repeat (first | refine blk_drewN ?_ _ | refine blk_drew ?_ | refine blk_alloc ?_ _)); refine blk_far ?_ NB242_247.out _; (with_reducible repeat (first | refine blk_drewN ?_ _ | refine blk_drew ?_ | refine blk_alloc ?_ _)); refine blk_far ?_ NB242_247.out _; (with_reducible repeat (first | refine blk_drewN ?_ _ | refine blk_drew ?_ | refine blk_alloc ?_ _)); exact BK242.out) hb); have n2_ := Aside0.mk (blk_below (g := gb247) (o := .cells #[.int .i64 ((rd_T40 l1 x24_2).f0), .int .i64 ((rd_T40 l1 x24_2).f1)] 40 (0, 0)) (by (with_reducible repeat (first | refine blk_drewN ?_ _ | refine blk_drew ?_ | refine blk_alloc ?_ _)); refine blk_put (cs := #[.int .i64 ((rd_T40 l1 x24_2).f0), .int .i64 0]) ?_ 1 _ rfl; (with_reducible repeat (first | refine blk_drewN ?_ _ | refine blk_drew ?_ | refine blk_alloc ?_ _)); refine blk_put (cs := #[.int .i64 0, .int .i64 0]) ?_ 0 _ rfl; (with_reducible repeat (first | refine blk_drewN ?_ _ | refine blk_drew ?_ | refine blk_alloc ?_ _)); exact BK247.out) hb); have n3_ := Aside0.mk (below_step (by repeat (first | (with_reducible first | exact HB.out | apply below_alloc | apply pw_below_drewN | apply below_drew1 | refine below_set ?_ GE242.out | refine below_set ?_ GE247.out) | exact HB.out)) hb); clear HO_5; clear BK242; clear BK247; clear HB; have HO_5 := n0_; have BK242 := n1_; have BK247 := n2_; have HB := n3_; clear n0_ n1_ n2_ n3_; (try clear hb); (try clear hb2); (try clear hk); (try clear hi)))
                  go_roundg k2
                  case measure => have := HK1.out; have := HK2.out; omega
                  case rel => exact ⟨(false), (wrap64 (x24_2 + 1)), (by first | rfl | (simp; done) | (simp [*]; done)), (by first | rfl | (simp; done) | (simp [*]; done)), H', ⟨by have := HK1.out; have := HK2.out; omega⟩, ⟨by (with_reducible repeat (first | apply Kd.R_alloc | apply Kd.R_drewN | apply Kd.R_drew)); exact Kd.R_mono HO_5.out (fun _ hk => hk.1)⟩, ⟨by (with_reducible repeat (first | refine blk_drewN ?_ _ | refine blk_drew ?_ | refine blk_alloc ?_ _)); exact BK242.out⟩, ⟨by repeat (first | (with_reducible first | exact HB.out | apply below_alloc | apply pw_below_drewN | apply below_drew1 | refine below_set ?_ GE242.out | refine below_set ?_ GE247.out) | exact HB.out)⟩⟩
                 replace c17 := Bool.eq_false_iff.mpr c17
                 subst c17
                 have H1 : (if a0 = 2 then ((corporaref27_Contains.f ((rd_T40 l1 x24_2).f0) ((rd_T40 l1 x24_2).f1) ((rd_T40 l1 x17_1).f0) ((rd_T40 l1 x17_1).f1)).bind fun t249 => (if t249 = true then (corporaref27_Chosen.l1 k2 a0 l1 x5_1 x17_1 false l1 (l1.length : Int) x17_1 l1 (l1.length : Int) (wrap64 (x24_2 + 1)) ((rd_T40 l1 x17_1).f0) ((rd_T40 l1 x17_1).f1)) else (corporaref27_Chosen.l1 k2 a0 l1 x5_1 x17_1 x8_2 l1 (l1.length : Int) x17_1 l1 (l1.length : Int) (wrap64 (x24_2 + 1)) ((rd_T40 l1 x17_1).f0) ((rd_T40 l1 x17_1).f1)))) else (corporaref27_Chosen.l1 k2 a0 l1 x5_1 x17_1 x8_2 l1 (l1.length : Int) x17_1 l1 (l1.length : Int) (wrap64 (x24_2 + 1)) ((rd_T40 l1 x17_1).f0) ((rd_T40 l1 x17_1).f1))) = some r := by rw [if_neg (show ¬ (false = true) by decide)] at H; exact H
                 clear H
                 have H := H1
                 clear H1
                 by_cases c23 : a0 = 2
                 ·exact absurd ((beq_iff_eq.mp c15b0).symm.trans c23) (by decide)
                 rw [if_neg c23] at H
                 have c23b0 : (a0 == 2) = false := beq_eq_false_iff_ne.mpr c23
                 have c23b1 : (a0 != 2) = true := bne_iff_ne.mpr c23
                 have H' := Aside0.mk H
                 clear H
                 have p246 : 0 ≤ (x24_2 : Int) := of_decide_eq_true (by first | (with_reducible assumption) | assumption)
                 have q246 : x24_2 < (l1.length : Int) := of_decide_eq_true (by first | (with_reducible assumption) | assumption)
                 obtain ⟨ad246, e246, hx246_0, hx246_1⟩ := at_T40 HR1.out x24_2 p246 q246
                 obtain rfl : ad241 = ad246 := (by injection e246)
                 replace hx246_0 := (HB.out.cell (World.block_lt_of_cell? w _ hx246_0)).trans hx246_0
                 replace hx246_1 := (HB.out.cell (World.block_lt_of_cell? w _ hx246_1)).trans hx246_1
                 replace p246 := eq_true p246
                 replace q246 := eq_true q246
                 go_wp2_with (first | ((with_reducible refine gate_dst (N := 10) rfl ?_); refine box_event ?hg (N := 10) ?hd (cs := #[.int .i64 0, .int .i64 0]) (t := 40) ?hr ?_; (case hd => rfl); (case hg => rfl); (case hr => first | (go_simp; done) | (go_simp; rfl)); intro gb247 hg w42 hbox hb; have n0_ := Aside0.mk (Kd.R_below (Kd.R_elderB (by (with_reducible repeat (first | apply Kd.R_alloc | apply Kd.R_drewN | apply Kd.R_drew)); exact HO_5.out) gb247 (Nat.le_of_eq hg.symm)) hb); have n1_ := Aside0.mk (blk_below (g := gb242) (o := .cells #[.int .i64 ((rd_T40 l1 x17_1).f0), .int .i64 ((rd_T40 l1 x17_1).f1)] 40 (0, 0)) (by (with_reducible repeat (first | refine blk_drewN ?_ _ | refine blk_drew ?_ | refine blk_alloc ?_ _)); exact BK242.out) hb); have n2_ := Aside0.mk (below_step (by repeat (first | (with_reducible first | exact HB.out | apply below_alloc | apply pw_below_drewN | apply below_drew1 | refine below_set ?_ GE242.out) | exact HB.out)) hb); have n3_ := Aside0.mk (hbox); have n4_ := Aside0.mk ((by rw [hg]; exact (below_size (by repeat (first | (with_reducible first | exact HB.out | apply below_alloc | apply pw_below_drewN | apply below_drew1 | refine below_set ?_ GE242.out) | exact HB.out))) : w.heap.size ≤ gb247)); have n5_ := Aside0.mk ((by rw [hg]; exact (below_size (by repeat (first | (with_reducible first | exact HB.out | apply below_alloc | apply pw_below_drewN | apply below_drew1 | refine below_set ?_ GE242.out) | exact HB.out))) : w.heap.size ≤ gb247)); have n6_ := Aside0.mk ((by rw [hg]; exact Nat.ne_of_lt (blk_lt (g := gb242) (o := .cells #[.int .i64 ((rd_T40 l1 x17_1).f0), .int .i64 ((rd_T40 l1 x17_1).f1)] 40 (0, 0)) (by (with_reducible repeat (first | refine blk_drewN ?_ _ | refine blk_drew ?_ | refine blk_alloc ?_ _)); exact BK242.out)) : gb242 ≠ gb247)); have n7_ := Aside0.mk ((by rw [hg]; exact Nat.ne_of_gt (blk_lt (g := gb242) (o := .cells #[.int .i64 ((rd_T40 l1 x17_1).f0), .int .i64 ((rd_T40 l1 x17_1).f1)] 40 (0, 0)) (by (with_reducible repeat (first | refine blk_drewN ?_ _ | refine blk_drew ?_ | refine blk_alloc ?_ _)); exact BK242.out)) : gb247 ≠ gb242)); clear HO_5; clear BK242; clear HB; have HO_5 := n0_; have BK242 := n1_; have HB := n2_; have BK247 := n3_; have GW247 := n4_; have GE247 := n5_; have NB242_247 := n6_; have NB247_242 := n7_; clear n0_ n1_ n2_ n3_ n4_ n5_ n6_ n7_; clear hb hbox hg; have hnb43 := NB247_242.out; have hnc43 := NB242_247.out; have hcz44_0 : w42.cell? ⟨gb247, 0, none⟩ = some (.int .i64 0) := (blk_cell BK247.out 0).trans rfl; have hcz44_1 : w42.cell? ⟨gb247, 1, none⟩ = some (.int .i64 0) := (blk_cell BK247.out 1).trans rfl; have hfz44_0 := blk_frozen BK247.out 0; have hfz44_1 := blk_frozen BK247.out 1; have hcz45_0 : w42.cell? ⟨gb242, 0, none⟩ = some (.int .i64 ((rd_T40 l1 x17_1).f0)) := (blk_cell BK242.out 0).trans rfl; have hcz45_1 : w42.cell? ⟨gb242, 1, none⟩ = some (.int .i64 ((rd_T40 l1 x17_1).f1)) := (blk_cell BK242.out 1).trans rfl; have hfz45_0 := blk_frozen BK242.out 0; have hfz45_1 := blk_frozen BK242.out 1) | (go_at_call 20; (with_reducible refine (corporaref27_Contains.calls ((rd_T40 l1 x17_1).f0) ((rd_T40 l1 x17_1).f1) ((rd_T40 l1 x24_2).f0) ((rd_T40 l1 x24_2).f1) false _ A16.out).mono ?_); rintro e w46 ⟨rfl, hb⟩; have n0_ := Aside0.mk (Kd.R_below (by (with_reducible repeat (first | apply Kd.R_alloc | apply Kd.R_drewN | apply Kd.R_drew)); exact (Kd.R_mono (Kd.R_far (p := ⟨gb247, 1, none⟩) (Kd.R_far (p := ⟨gb247, 0, none⟩) (Kd.R_mono HO_5.out (fun k_ hk => (⟨hk, hk.2⟩ : _ ∧ k_ ≠ gb247))) (fun _ hk => hk.2) (.int .i64 ((rd_T40 l1 x24_2).f0))) (fun _ hk => hk.2) (.int .i64 ((rd_T40 l1 x24_2).f1))) (fun _ h_ => h_.1))) hb); have n1_ := Aside0.mk (blk_below (g := gb242) (o := .cells #[.int .i64 ((rd_T40 l1 x17_1).f0), .int .i64 ((rd_T40 l1 x17_1).f1)] 40 (0, 0)) (by (with_reducible repeat (first | refine blk_drewN ?_ _ | refine blk_drew ?_ | refine blk_alloc ?_ _)); refine blk_far ?_ NB242_247.out _; (with_reducible repeat (first | refine blk_drewN ?_ _ | refine blk_drew ?_ | refine blk_alloc ?_ _)); refine blk_far ?_ NB242_247.out _; (with_reducible repeat (first | refine blk_drewN ?_ _ | refine blk_drew ?_ | refine blk_alloc ?_ _)); exact BK242.out) hb); have n2_ := Aside0.mk (blk_below (g := gb247) (o := .cells #[.int .i64 ((rd_T40 l1 x24_2).f0), .int .i64 ((rd_T40 l1 x24_2).f1)] 40 (0, 0)) (by (with_reducible repeat (first | refine blk_drewN ?_ _ | refine blk_drew ?_ | refine blk_alloc ?_ _)); refine blk_put (cs := #[.int .i64 ((rd_T40 l1 x24_2).f0), .int .i64 0]) ?_ 1 _ rfl; (with_reducible repeat (first | refine blk_drewN ?_ _ | refine blk_drew ?_ | refine blk_alloc ?_ _)); refine blk_put (cs := #[.int .i64 0, .int .i64 0]) ?_ 0 _ rfl; (with_reducible repeat (first | refine blk_drewN ?_ _ | refine blk_drew ?_ | refine blk_alloc ?_ _)); exact BK247.out) hb); have n3_ := Aside0.mk (below_step (by repeat (first | (with_reducible first | exact HB.out | apply below_alloc | apply pw_below_drewN | apply below_drew1 | refine below_set ?_ GE242.out | refine below_set ?_ GE247.out) | exact HB.out)) hb); clear HO_5; clear BK242; clear BK247; clear HB; have HO_5 := n0_; have BK242 := n1_; have BK247 := n2_; have HB := n3_; clear n0_ n1_ n2_ n3_; (try clear hb); (try clear hb2); (try clear hk); (try clear hi)))
                 go_roundg k2
                 case measure => have := HK1.out; have := HK2.out; omega
                 case rel => exact ⟨(x8_2), (wrap64 (x24_2 + 1)), (by first | rfl | (simp; done) | (simp [*]; done)), (by first | rfl | (simp; done) | (simp [*]; done)), H', ⟨by have := HK1.out; have := HK2.out; omega⟩, ⟨by (with_reducible repeat (first | apply Kd.R_alloc | apply Kd.R_drewN | apply Kd.R_drew)); exact Kd.R_mono HO_5.out (fun _ hk => hk.1)⟩, ⟨by (with_reducible repeat (first | refine blk_drewN ?_ _ | refine blk_drew ?_ | refine blk_alloc ?_ _)); exact BK242.out⟩, ⟨by repeat (first | (with_reducible first | exact HB.out | apply below_alloc | apply pw_below_drewN | apply below_drew1 | refine below_set ?_ GE242.out | refine below_set ?_ GE247.out) | exact HB.out)⟩⟩
                rw [if_neg c15] at H
                have c15b0 : (a0 == 1) = false := beq_eq_false_iff_ne.mpr c15
                have c15b1 : (a0 != 1) = true := bne_iff_ne.mpr c15
                by_cases c47 : a0 = 2
                ·rw [if_pos c47] at H
                 have c47b0 : (a0 == 2) = true := beq_iff_eq.mpr c47
                 have c47b1 : (a0 != 2) = false := bne_eq_false_iff_eq.mpr c47
                 clear c47
                 replace H := Option.bind_eq_some_iff.mp H
                 obtain ⟨t250, A480, H⟩ := H
                 replace H : (if t250 = true then (corporaref27_Chosen.l1 k2 a0 l1 x5_1 x17_1 false l1 (l1.length : Int) x17_1 l1 (l1.length : Int) (wrap64 (x24_2 + 1)) ((rd_T40 l1 x17_1).f0) ((rd_T40 l1 x17_1).f1)) else (corporaref27_Chosen.l1 k2 a0 l1 x5_1 x17_1 x8_2 l1 (l1.length : Int) x17_1 l1 (l1.length : Int) (wrap64 (x24_2 + 1)) ((rd_T40 l1 x17_1).f0) ((rd_T40 l1 x17_1).f1))) = some r := H
                 have A48 := Aside0.mk A480
                 clear A480
                 by_cases c49 : t250 = true
                 ·subst c49
                  have H1 : (corporaref27_Chosen.l1 k2 a0 l1 x5_1 x17_1 false l1 (l1.length : Int) x17_1 l1 (l1.length : Int) (wrap64 (x24_2 + 1)) ((rd_T40 l1 x17_1).f0) ((rd_T40 l1 x17_1).f1)) = some r := by rw [if_pos rfl] at H; exact H
                  clear H
                  have H := H1
                  clear H1
                  have H' := Aside0.mk H
                  clear H
                  have p246 : 0 ≤ (x24_2 : Int) := of_decide_eq_true (by first | (with_reducible assumption) | assumption)
                  have q246 : x24_2 < (l1.length : Int) := of_decide_eq_true (by first | (with_reducible assumption) | assumption)
                  obtain ⟨ad246, e246, hx246_0, hx246_1⟩ := at_T40 HR1.out x24_2 p246 q246
                  obtain rfl : ad241 = ad246 := (by injection e246)
                  replace hx246_0 := (HB.out.cell (World.block_lt_of_cell? w _ hx246_0)).trans hx246_0
                  replace hx246_1 := (HB.out.cell (World.block_lt_of_cell? w _ hx246_1)).trans hx246_1
                  replace p246 := eq_true p246
                  replace q246 := eq_true q246
                  go_wp2_with (first | ((with_reducible refine gate_dst (N := 10) rfl ?_); refine box_event ?hg (N := 10) ?hd (cs := #[.int .i64 0, .int .i64 0]) (t := 40) ?hr ?_; (case hd => rfl); (case hg => rfl); (case hr => first | (go_simp; done) | (go_simp; rfl)); intro gb247 hg w50 hbox hb; have n0_ := Aside0.mk (Kd.R_below (Kd.R_elderB (by (with_reducible repeat (first | apply Kd.R_alloc | apply Kd.R_drewN | apply Kd.R_drew)); exact HO_5.out) gb247 (Nat.le_of_eq hg.symm)) hb); have n1_ := Aside0.mk (blk_below (g := gb242) (o := .cells #[.int .i64 ((rd_T40 l1 x17_1).f0), .int .i64 ((rd_T40 l1 x17_1).f1)] 40 (0, 0)) (by (with_reducible repeat (first | refine blk_drewN ?_ _ | refine blk_drew ?_ | refine blk_alloc ?_ _)); exact BK242.out) hb); have n2_ := Aside0.mk (below_step (by repeat (first | (with_reducible first | exact HB.out | apply below_alloc | apply pw_below_drewN | apply below_drew1 | refine below_set ?_ GE242.out) | exact HB.out)) hb); have n3_ := Aside0.mk (hbox); have n4_ := Aside0.mk ((by rw [hg]; exact (below_size (by repeat (first | (with_reducible first | exact HB.out | apply below_alloc | apply pw_below_drewN | apply below_drew1 | refine below_set ?_ GE242.out) | exact HB.out))) : w.heap.size ≤ gb247)); have n5_ := Aside0.mk ((by rw [hg]; exact (below_size (by repeat (first | (with_reducible first | exact HB.out | apply below_alloc | apply pw_below_drewN | apply below_drew1 | refine below_set ?_ GE242.out) | exact HB.out))) : w.heap.size ≤ gb247)); have n6_ := Aside0.mk ((by rw [hg]; exact Nat.ne_of_lt (blk_lt (g := gb242) (o := .cells #[.int .i64 ((rd_T40 l1 x17_1).f0), .int .i64 ((rd_T40 l1 x17_1).f1)] 40 (0, 0)) (by (with_reducible repeat (first | refine blk_drewN ?_ _ | refine blk_drew ?_ | refine blk_alloc ?_ _)); exact BK242.out)) : gb242 ≠ gb247)); have n7_ := Aside0.mk ((by rw [hg]; exact Nat.ne_of_gt (blk_lt (g := gb242) (o := .cells #[.int .i64 ((rd_T40 l1 x17_1).f0), .int .i64 ((rd_T40 l1 x17_1).f1)] 40 (0, 0)) (by (with_reducible repeat (first | refine blk_drewN ?_ _ | refine blk_drew ?_ | refine blk_alloc ?_ _)); exact BK242.out)) : gb247 ≠ gb242)); clear HO_5; clear BK242; clear HB; have HO_5 := n0_; have BK242 := n1_; have HB := n2_; have BK247 := n3_; have GW247 := n4_; have GE247 := n5_; have NB242_247 := n6_; have NB247_242 := n7_; clear n0_ n1_ n2_ n3_ n4_ n5_ n6_ n7_; clear hb hbox hg; have hnb51 := NB247_242.out; have hnc51 := NB242_247.out; have hcz52_0 : w50.cell? ⟨gb247, 0, none⟩ = some (.int .i64 0) := (blk_cell BK247.out 0).trans rfl; have hcz52_1 : w50.cell? ⟨gb247, 1, none⟩ = some (.int .i64 0) := (blk_cell BK247.out 1).trans rfl; have hfz52_0 := blk_frozen BK247.out 0; have hfz52_1 := blk_frozen BK247.out 1; have hcz53_0 : w50.cell? ⟨gb242, 0, none⟩ = some (.int .i64 ((rd_T40 l1 x17_1).f0)) := (blk_cell BK242.out 0).trans rfl; have hcz53_1 : w50.cell? ⟨gb242, 1, none⟩ = some (.int .i64 ((rd_T40 l1 x17_1).f1)) := (blk_cell BK242.out 1).trans rfl; have hfz53_0 := blk_frozen BK242.out 0; have hfz53_1 := blk_frozen BK242.out 1) | (go_at_call 20; (with_reducible refine (corporaref27_Contains.calls ((rd_T40 l1 x24_2).f0) ((rd_T40 l1 x24_2).f1) ((rd_T40 l1 x17_1).f0) ((rd_T40 l1 x17_1).f1) true _ A48.out).mono ?_); rintro e w54 ⟨rfl, hb⟩; have n0_ := Aside0.mk (Kd.R_below (by (with_reducible repeat (first | apply Kd.R_alloc | apply Kd.R_drewN | apply Kd.R_drew)); exact (Kd.R_mono (Kd.R_far (p := ⟨gb247, 1, none⟩) (Kd.R_far (p := ⟨gb247, 0, none⟩) (Kd.R_mono HO_5.out (fun k_ hk => (⟨hk, hk.2⟩ : _ ∧ k_ ≠ gb247))) (fun _ hk => hk.2) (.int .i64 ((rd_T40 l1 x24_2).f0))) (fun _ hk => hk.2) (.int .i64 ((rd_T40 l1 x24_2).f1))) (fun _ h_ => h_.1))) hb); have n1_ := Aside0.mk (blk_below (g := gb242) (o := .cells #[.int .i64 ((rd_T40 l1 x17_1).f0), .int .i64 ((rd_T40 l1 x17_1).f1)] 40 (0, 0)) (by (with_reducible repeat (first | refine blk_drewN ?_ _ | refine blk_drew ?_ | refine blk_alloc ?_ _)); refine blk_far ?_ NB242_247.out _; (with_reducible repeat (first | refine blk_drewN ?_ _ | refine blk_drew ?_ | refine blk_alloc ?_ _)); refine blk_far ?_ NB242_247.out _; (with_reducible repeat (first | refine blk_drewN ?_ _ | refine blk_drew ?_ | refine blk_alloc ?_ _)); exact BK242.out) hb); have n2_ := Aside0.mk (blk_below (g := gb247) (o := .cells #[.int .i64 ((rd_T40 l1 x24_2).f0), .int .i64 ((rd_T40 l1 x24_2).f1)] 40 (0, 0)) (by (with_reducible repeat (first | refine blk_drewN ?_ _ | refine blk_drew ?_ | refine blk_alloc ?_ _)); refine blk_put (cs := #[.int .i64 ((rd_T40 l1 x24_2).f0), .int .i64 0]) ?_ 1 _ rfl; (with_reducible repeat (first | refine blk_drewN ?_ _ | refine blk_drew ?_ | refine blk_alloc ?_ _)); refine blk_put (cs := #[.int .i64 0, .int .i64 0]) ?_ 0 _ rfl; (with_reducible repeat (first | refine blk_drewN ?_ _ | refine blk_drew ?_ | refine blk_alloc ?_ _)); exact BK247.out) hb); have n3_ := Aside0.mk (below_step (by repeat (first | (with_reducible first | exact HB.out | apply below_alloc | apply pw_below_drewN | apply below_drew1 | refine below_set ?_ GE242.out | refine below_set ?_ GE247.out) | exact HB.out)) hb); clear HO_5; clear BK242; clear BK247; clear HB; have HO_5 := n0_; have BK242 := n1_; have BK247 := n2_; have HB := n3_; clear n0_ n1_ n2_ n3_; (try clear hb); (try clear hb2); (try clear hk); (try clear hi)))
                  go_roundg k2
                  case measure => have := HK1.out; have := HK2.out; omega
                  case rel => exact ⟨(false), (wrap64 (x24_2 + 1)), (by first | rfl | (simp; done) | (simp [*]; done)), (by first | rfl | (simp; done) | (simp [*]; done)), H', ⟨by have := HK1.out; have := HK2.out; omega⟩, ⟨by (with_reducible repeat (first | apply Kd.R_alloc | apply Kd.R_drewN | apply Kd.R_drew)); exact Kd.R_mono HO_5.out (fun _ hk => hk.1)⟩, ⟨by (with_reducible repeat (first | refine blk_drewN ?_ _ | refine blk_drew ?_ | refine blk_alloc ?_ _)); exact BK242.out⟩, ⟨by repeat (first | (with_reducible first | exact HB.out | apply below_alloc | apply pw_below_drewN | apply below_drew1 | refine below_set ?_ GE242.out | refine below_set ?_ GE247.out) | exact HB.out)⟩⟩
                 replace c49 := Bool.eq_false_iff.mpr c49
                 subst c49
                 have H1 : (corporaref27_Chosen.l1 k2 a0 l1 x5_1 x17_1 x8_2 l1 (l1.length : Int) x17_1 l1 (l1.length : Int) (wrap64 (x24_2 + 1)) ((rd_T40 l1 x17_1).f0) ((rd_T40 l1 x17_1).f1)) = some r := by rw [if_neg (show ¬ (false = true) by decide)] at H; exact H
                 clear H
                 have H := H1
                 clear H1
                 have H' := Aside0.mk H
                 clear H
                 have p246 : 0 ≤ (x24_2 : Int) := of_decide_eq_true (by first | (with_reducible assumption) | assumption)
                 have q246 : x24_2 < (l1.length : Int) := of_decide_eq_true (by first | (with_reducible assumption) | assumption)
                 obtain ⟨ad246, e246, hx246_0, hx246_1⟩ := at_T40 HR1.out x24_2 p246 q246
                 obtain rfl : ad241 = ad246 := (by injection e246)
                 replace hx246_0 := (HB.out.cell (World.block_lt_of_cell? w _ hx246_0)).trans hx246_0
                 replace hx246_1 := (HB.out.cell (World.block_lt_of_cell? w _ hx246_1)).trans hx246_1
                 replace p246 := eq_true p246
                 replace q246 := eq_true q246
                 go_wp2_with (first | ((with_reducible refine gate_dst (N := 10) rfl ?_); refine box_event ?hg (N := 10) ?hd (cs := #[.int .i64 0, .int .i64 0]) (t := 40) ?hr ?_; (case hd => rfl); (case hg => rfl); (case hr => first | (go_simp; done) | (go_simp; rfl)); intro gb247 hg w55 hbox hb; have n0_ := Aside0.mk (Kd.R_below (Kd.R_elderB (by (with_reducible repeat (first | apply Kd.R_alloc | apply Kd.R_drewN | apply Kd.R_drew)); exact HO_5.out) gb247 (Nat.le_of_eq hg.symm)) hb); have n1_ := Aside0.mk (blk_below (g := gb242) (o := .cells #[.int .i64 ((rd_T40 l1 x17_1).f0), .int .i64 ((rd_T40 l1 x17_1).f1)] 40 (0, 0)) (by (with_reducible repeat (first | refine blk_drewN ?_ _ | refine blk_drew ?_ | refine blk_alloc ?_ _)); exact BK242.out) hb); have n2_ := Aside0.mk (below_step (by repeat (first | (with_reducible first | exact HB.out | apply below_alloc | apply pw_below_drewN | apply below_drew1 | refine below_set ?_ GE242.out) | exact HB.out)) hb); have n3_ := Aside0.mk (hbox); have n4_ := Aside0.mk ((by rw [hg]; exact (below_size (by repeat (first | (with_reducible first | exact HB.out | apply below_alloc | apply pw_below_drewN | apply below_drew1 | refine below_set ?_ GE242.out) | exact HB.out))) : w.heap.size ≤ gb247)); have n5_ := Aside0.mk ((by rw [hg]; exact (below_size (by repeat (first | (with_reducible first | exact HB.out | apply below_alloc | apply pw_below_drewN | apply below_drew1 | refine below_set ?_ GE242.out) | exact HB.out))) : w.heap.size ≤ gb247)); have n6_ := Aside0.mk ((by rw [hg]; exact Nat.ne_of_lt (blk_lt (g := gb242) (o := .cells #[.int .i64 ((rd_T40 l1 x17_1).f0), .int .i64 ((rd_T40 l1 x17_1).f1)] 40 (0, 0)) (by (with_reducible repeat (first | refine blk_drewN ?_ _ | refine blk_drew ?_ | refine blk_alloc ?_ _)); exact BK242.out)) : gb242 ≠ gb247)); have n7_ := Aside0.mk ((by rw [hg]; exact Nat.ne_of_gt (blk_lt (g := gb242) (o := .cells #[.int .i64 ((rd_T40 l1 x17_1).f0), .int .i64 ((rd_T40 l1 x17_1).f1)] 40 (0, 0)) (by (with_reducible repeat (first | refine blk_drewN ?_ _ | refine blk_drew ?_ | refine blk_alloc ?_ _)); exact BK242.out)) : gb247 ≠ gb242)); clear HO_5; clear BK242; clear HB; have HO_5 := n0_; have BK242 := n1_; have HB := n2_; have BK247 := n3_; have GW247 := n4_; have GE247 := n5_; have NB242_247 := n6_; have NB247_242 := n7_; clear n0_ n1_ n2_ n3_ n4_ n5_ n6_ n7_; clear hb hbox hg; have hnb56 := NB247_242.out; have hnc56 := NB242_247.out; have hcz57_0 : w55.cell? ⟨gb247, 0, none⟩ = some (.int .i64 0) := (blk_cell BK247.out 0).trans rfl; have hcz57_1 : w55.cell? ⟨gb247, 1, none⟩ = some (.int .i64 0) := (blk_cell BK247.out 1).trans rfl; have hfz57_0 := blk_frozen BK247.out 0; have hfz57_1 := blk_frozen BK247.out 1; have hcz58_0 : w55.cell? ⟨gb242, 0, none⟩ = some (.int .i64 ((rd_T40 l1 x17_1).f0)) := (blk_cell BK242.out 0).trans rfl; have hcz58_1 : w55.cell? ⟨gb242, 1, none⟩ = some (.int .i64 ((rd_T40 l1 x17_1).f1)) := (blk_cell BK242.out 1).trans rfl; have hfz58_0 := blk_frozen BK242.out 0; have hfz58_1 := blk_frozen BK242.out 1) | (go_at_call 20; (with_reducible refine (corporaref27_Contains.calls ((rd_T40 l1 x24_2).f0) ((rd_T40 l1 x24_2).f1) ((rd_T40 l1 x17_1).f0) ((rd_T40 l1 x17_1).f1) false _ A48.out).mono ?_); rintro e w59 ⟨rfl, hb⟩; have n0_ := Aside0.mk (Kd.R_below (by (with_reducible repeat (first | apply Kd.R_alloc | apply Kd.R_drewN | apply Kd.R_drew)); exact (Kd.R_mono (Kd.R_far (p := ⟨gb247, 1, none⟩) (Kd.R_far (p := ⟨gb247, 0, none⟩) (Kd.R_mono HO_5.out (fun k_ hk => (⟨hk, hk.2⟩ : _ ∧ k_ ≠ gb247))) (fun _ hk => hk.2) (.int .i64 ((rd_T40 l1 x24_2).f0))) (fun _ hk => hk.2) (.int .i64 ((rd_T40 l1 x24_2).f1))) (fun _ h_ => h_.1))) hb); have n1_ := Aside0.mk (blk_below (g := gb242) (o := .cells #[.int .i64 ((rd_T40 l1 x17_1).f0), .int .i64 ((rd_T40 l1 x17_1).f1)] 40 (0, 0)) (by (with_reducible repeat (first | refine blk_drewN ?_ _ | refine blk_drew ?_ | refine blk_alloc ?_ _)); refine blk_far ?_ NB242_247.out _; (with_reducible repeat (first | refine blk_drewN ?_ _ | refine blk_drew ?_ | refine blk_alloc ?_ _)); refine blk_far ?_ NB242_247.out _; (with_reducible repeat (first | refine blk_drewN ?_ _ | refine blk_drew ?_ | refine blk_alloc ?_ _)); exact BK242.out) hb); have n2_ := Aside0.mk (blk_below (g := gb247) (o := .cells #[.int .i64 ((rd_T40 l1 x24_2).f0), .int .i64 ((rd_T40 l1 x24_2).f1)] 40 (0, 0)) (by (with_reducible repeat (first | refine blk_drewN ?_ _ | refine blk_drew ?_ | refine blk_alloc ?_ _)); refine blk_put (cs := #[.int .i64 ((rd_T40 l1 x24_2).f0), .int .i64 0]) ?_ 1 _ rfl; (with_reducible repeat (first | refine blk_drewN ?_ _ | refine blk_drew ?_ | refine blk_alloc ?_ _)); refine blk_put (cs := #[.int .i64 0, .int .i64 0]) ?_ 0 _ rfl; (with_reducible repeat (first | refine blk_drewN ?_ _ | refine blk_drew ?_ | refine blk_alloc ?_ _)); exact BK247.out) hb); have n3_ := Aside0.mk (below_step (by repeat (first | (with_reducible first | exact HB.out | apply below_alloc | apply pw_below_drewN | apply below_drew1 | refine below_set ?_ GE242.out | refine below_set ?_ GE247.out) | exact HB.out)) hb); clear HO_5; clear BK242; clear BK247; clear HB; have HO_5 := n0_; have BK242 := n1_; have BK247 := n2_; have HB := n3_; clear n0_ n1_ n2_ n3_; (try clear hb); (try clear hb2); (try clear hk); (try clear hi)))
                 go_roundg k2
                 case measure => have := HK1.out; have := HK2.out; omega
                 case rel => exact ⟨(x8_2), (wrap64 (x24_2 + 1)), (by first | rfl | (simp; done) | (simp [*]; done)), (by first | rfl | (simp; done) | (simp [*]; done)), H', ⟨by have := HK1.out; have := HK2.out; omega⟩, ⟨by (with_reducible repeat (first | apply Kd.R_alloc | apply Kd.R_drewN | apply Kd.R_drew)); exact Kd.R_mono HO_5.out (fun _ hk => hk.1)⟩, ⟨by (with_reducible repeat (first | refine blk_drewN ?_ _ | refine blk_drew ?_ | refine blk_alloc ?_ _)); exact BK242.out⟩, ⟨by repeat (first | (with_reducible first | exact HB.out | apply below_alloc | apply pw_below_drewN | apply below_drew1 | refine below_set ?_ GE242.out | refine below_set ?_ GE247.out) | exact HB.out)⟩⟩
                rw [if_neg c47] at H
                have c47b0 : (a0 == 2) = false := beq_eq_false_iff_ne.mpr c47
                have c47b1 : (a0 != 2) = true := bne_iff_ne.mpr c47
                have H' := Aside0.mk H
                clear H
                have p246 : 0 ≤ (x24_2 : Int) := of_decide_eq_true (by first | (with_reducible assumption) | assumption)
                have q246 : x24_2 < (l1.length : Int) := of_decide_eq_true (by first | (with_reducible assumption) | assumption)
                obtain ⟨ad246, e246, hx246_0, hx246_1⟩ := at_T40 HR1.out x24_2 p246 q246
                obtain rfl : ad241 = ad246 := (by injection e246)
                replace hx246_0 := (HB.out.cell (World.block_lt_of_cell? w _ hx246_0)).trans hx246_0
                replace hx246_1 := (HB.out.cell (World.block_lt_of_cell? w _ hx246_1)).trans hx246_1
                replace p246 := eq_true p246
                replace q246 := eq_true q246
                go_wp2_with (first | ((with_reducible refine gate_dst (N := 10) rfl ?_); refine box_event ?hg (N := 10) ?hd (cs := #[.int .i64 0, .int .i64 0]) (t := 40) ?hr ?_; (case hd => rfl); (case hg => rfl); (case hr => first | (go_simp; done) | (go_simp; rfl)); intro gb247 hg w60 hbox hb; have n0_ := Aside0.mk (Kd.R_below (Kd.R_elderB (by (with_reducible repeat (first | apply Kd.R_alloc | apply Kd.R_drewN | apply Kd.R_drew)); exact HO_5.out) gb247 (Nat.le_of_eq hg.symm)) hb); have n1_ := Aside0.mk (blk_below (g := gb242) (o := .cells #[.int .i64 ((rd_T40 l1 x17_1).f0), .int .i64 ((rd_T40 l1 x17_1).f1)] 40 (0, 0)) (by (with_reducible repeat (first | refine blk_drewN ?_ _ | refine blk_drew ?_ | refine blk_alloc ?_ _)); exact BK242.out) hb); have n2_ := Aside0.mk (below_step (by repeat (first | (with_reducible first | exact HB.out | apply below_alloc | apply pw_below_drewN | apply below_drew1 | refine below_set ?_ GE242.out) | exact HB.out)) hb); have n3_ := Aside0.mk (hbox); have n4_ := Aside0.mk ((by rw [hg]; exact (below_size (by repeat (first | (with_reducible first | exact HB.out | apply below_alloc | apply pw_below_drewN | apply below_drew1 | refine below_set ?_ GE242.out) | exact HB.out))) : w.heap.size ≤ gb247)); have n5_ := Aside0.mk ((by rw [hg]; exact (below_size (by repeat (first | (with_reducible first | exact HB.out | apply below_alloc | apply pw_below_drewN | apply below_drew1 | refine below_set ?_ GE242.out) | exact HB.out))) : w.heap.size ≤ gb247)); have n6_ := Aside0.mk ((by rw [hg]; exact Nat.ne_of_lt (blk_lt (g := gb242) (o := .cells #[.int .i64 ((rd_T40 l1 x17_1).f0), .int .i64 ((rd_T40 l1 x17_1).f1)] 40 (0, 0)) (by (with_reducible repeat (first | refine blk_drewN ?_ _ | refine blk_drew ?_ | refine blk_alloc ?_ _)); exact BK242.out)) : gb242 ≠ gb247)); have n7_ := Aside0.mk ((by rw [hg]; exact Nat.ne_of_gt (blk_lt (g := gb242) (o := .cells #[.int .i64 ((rd_T40 l1 x17_1).f0), .int .i64 ((rd_T40 l1 x17_1).f1)] 40 (0, 0)) (by (with_reducible repeat (first | refine blk_drewN ?_ _ | refine blk_drew ?_ | refine blk_alloc ?_ _)); exact BK242.out)) : gb247 ≠ gb242)); clear HO_5; clear BK242; clear HB; have HO_5 := n0_; have BK242 := n1_; have HB := n2_; have BK247 := n3_; have GW247 := n4_; have GE247 := n5_; have NB242_247 := n6_; have NB247_242 := n7_; clear n0_ n1_ n2_ n3_ n4_ n5_ n6_ n7_; clear hb hbox hg; have hnb61 := NB247_242.out; have hnc61 := NB242_247.out; have hcz62_0 : w60.cell? ⟨gb247, 0, none⟩ = some (.int .i64 0) := (blk_cell BK247.out 0).trans rfl; have hcz62_1 : w60.cell? ⟨gb247, 1, none⟩ = some (.int .i64 0) := (blk_cell BK247.out 1).trans rfl; have hfz62_0 := blk_frozen BK247.out 0; have hfz62_1 := blk_frozen BK247.out 1))
                go_roundg k2
                case measure => have := HK1.out; have := HK2.out; omega
                case rel => exact ⟨(x8_2), (wrap64 (x24_2 + 1)), (by first | rfl | (simp; done) | (simp [*]; done)), (by first | rfl | (simp; done) | (simp [*]; done)), H', ⟨by have := HK1.out; have := HK2.out; omega⟩, ⟨by (with_reducible repeat (first | apply Kd.R_alloc | apply Kd.R_drewN | apply Kd.R_drew)); exact Kd.R_mono (Kd.R_far (p := ⟨gb247, 1, none⟩) (Kd.R_far (p := ⟨gb247, 0, none⟩) (Kd.R_mono HO_5.out (fun k_ hk => (⟨hk, hk.2⟩ : _ ∧ k_ ≠ gb247))) (fun _ hk => hk.2) (.int .i64 ((rd_T40 l1 x24_2).f0))) (fun _ hk => hk.2) (.int .i64 ((rd_T40 l1 x24_2).f1))) (fun _ hk => hk.1.1)⟩, ⟨by (with_reducible repeat (first | refine blk_drewN ?_ _ | refine blk_drew ?_ | refine blk_alloc ?_ _)); refine blk_far ?_ NB242_247.out _; (with_reducible repeat (first | refine blk_drewN ?_ _ | refine blk_drew ?_ | refine blk_alloc ?_ _)); refine blk_far ?_ NB242_247.out _; (with_reducible repeat (first | refine blk_drewN ?_ _ | refine blk_drew ?_ | refine blk_alloc ?_ _)); exact BK242.out⟩, ⟨by repeat (first | (with_reducible first | exact HB.out | apply below_alloc | apply pw_below_drewN | apply below_drew1 | refine below_set ?_ GE242.out | refine below_set ?_ GE247.out) | exact HB.out)⟩⟩
               rw [if_neg c10] at H
               exact absurd H (by simp)
              rw [if_neg c9] at H
              exact absurd H (by simp)
             rw [if_neg c8] at H
             have c8b0 : decide (x24_2 < (l1.length : Int)) = false := decide_eq_false c8
             clear c8
             by_cases c63 : x8_2 = true
             ·subst c63
              have H1 : (if a0 = 3 then (corporaref27_Chosen.l0 k2 a0 l1 x5_1 l1 (l1.length : Int) (wrap64 (x17_1 + 1))) else (if x5_1.length < 8796093022208 then (corporaref27_Chosen.l0 k2 a0 l1 (x5_1 ++ [(⟨((rd_T40 l1 x17_1).f0), ((rd_T40 l1 x17_1).f1)⟩ : S40)]) l1 (l1.length : Int) (wrap64 (x17_1 + 1))) else (none))) = some r := by rw [if_pos rfl] at H; exact H
              clear H
              have H := H1
              clear H1
              by_cases c64 : a0 = 3
              ·rw [if_pos c64] at H
               have c64b0 : (a0 == 3) = true := beq_iff_eq.mpr c64
               have c64b1 : (a0 != 3) = false := bne_eq_false_iff_eq.mpr c64
               clear c64
               have H' := Aside0.mk H
               clear H
               go_wp2
               go_roundg k2
               case measure => have := HK1.out; have := HK2.out; omega
               case rel => exact ⟨(x5_1), (wrap64 (x17_1 + 1)), (by first | rfl | (simp; done) | (simp [*]; done)), H', ⟨by have := HK1.out; have := HK2.out; omega⟩, ⟨by (with_reducible repeat (first | apply Kd.R_alloc | apply Kd.R_drewN | apply Kd.R_drew)); exact Kd.R_mono HO_5.out (fun _ hk => trivial)⟩, ⟨by repeat (first | (with_reducible first | exact HB.out | apply below_alloc | apply pw_below_drewN | apply below_drew1 | refine below_set ?_ GE242.out) | exact HB.out)⟩⟩
              rw [if_neg c64] at H
              have c64b0 : (a0 == 3) = false := beq_eq_false_iff_ne.mpr c64
              have c64b1 : (a0 != 3) = true := bne_iff_ne.mpr c64
              by_cases c65 : x5_1.length < 8796093022208
              ·rw [if_pos c65] at H
               have LMc65 := Aside0.mk c65
               clear c65
               obtain ⟨y243, hy243⟩ : ∃ y_ : List (S40), y_ = (x5_1 ++ [(⟨((rd_T40 l1 x17_1).f0), ((rd_T40 l1 x17_1).f1)⟩ : S40)]) := ⟨_, rfl⟩
               replace H : (corporaref27_Chosen.l0 k2 a0 l1 y243 l1 (l1.length : Int) (wrap64 (x17_1 + 1))) = some r := by first | (rw [hy243]; with_reducible exact H) | (have H2_ := (Option.bind_some _ _).symm.trans H; rw [hy243]; with_reducible exact H2_) | (have H2_ := (Option.bind_some _ _).symm.trans H; with_reducible exact H2_) | with_reducible exact H | (rw [hy243]; exact H) | exact H
               have Ny243 := Aside0.mk hy243
               clear hy243
               have H' := Aside0.mk H
               clear H
               have hcz66_0 : wr.cell? ⟨gb242, 0, none⟩ = some (.int .i64 ((rd_T40 l1 x17_1).f0)) := (blk_cell BK242.out 0).trans rfl
               have hcz66_1 : wr.cell? ⟨gb242, 1, none⟩ = some (.int .i64 ((rd_T40 l1 x17_1).f1)) := (blk_cell BK242.out 1).trans rfl
               have hfz66_0 := blk_frozen BK242.out 0
               have hfz66_1 := blk_frozen BK242.out 1
               go_wp2_with (first | ((with_reducible refine gate_builtin (b := .append) (xs := #[.tmp 56, .tmp 58]) rfl ?_); at_builtin; refine Kd.R_append k40 (w0 := w) w.heap.size rfl (.tmp 56) (.tmp 58) 31 40 (.agg #[(.int .i64 0), (.int .i64 0)]) 16 rfl Try.underlying31 info40 rfl (by decide) (by omega) u5 x5_1 (⟨((rd_T40 l1 x17_1).f0), ((rd_T40 l1 x17_1).f1)⟩ : S40) [.int .i64 ((rd_T40 l1 x17_1).f0), .int .i64 ((rd_T40 l1 x17_1).f1)] (fun k_ => k_ ≠ gb242) (fun _ => False) rfl rfl ?aP (fun _ hk => hk.elim) ?aF ?aO ?aB ?aS ?aL ?_; (case aP => exact k40_mkM _ _ _ (⟨((rd_T40 l1 x17_1).f0), ((rd_T40 l1 x17_1).f1)⟩ : S40)); (case aB => exact (by repeat (first | (with_reducible first | exact HB.out | apply below_alloc | apply pw_below_drewN | apply below_drew1 | refine below_set ?_ GE242.out) | exact HB.out))); (case aF => exact (fun k_ hk => Kd.freshB (g := gb242) (o := .cells #[.int .i64 ((rd_T40 l1 x17_1).f0), .int .i64 ((rd_T40 l1 x17_1).f1)] 40 (0, 0)) (by (with_reducible repeat (first | refine blk_drewN ?_ _ | refine blk_drew ?_ | refine blk_alloc ?_ _)); exact BK242.out) k_ hk)); (case aO => exact (by (with_reducible repeat (first | apply Kd.R_alloc | apply Kd.R_drewN | apply Kd.R_drew)); exact HO_5.out)); (case aS => exact (below_size (by repeat (first | (with_reducible first | exact HB.out | apply below_alloc | apply pw_below_drewN | apply below_drew1 | refine below_set ?_ GE242.out) | exact HB.out)))); (case aL => have := LMc65.out; omega); intro v244 w67 ho hb hg hat; rw [← Ny243.out] at ho; have n0_ := Aside0.mk (blk_grown (g := gb242) (o := .cells #[.int .i64 ((rd_T40 l1 x17_1).f0), .int .i64 ((rd_T40 l1 x17_1).f1)] 40 (0, 0)) (by (with_reducible repeat (first | refine blk_drewN ?_ _ | refine blk_drew ?_ | refine blk_alloc ?_ _)); exact BK242.out) hg (Kd.R_away HO_5.out (fun _ hk => hk))); have n1_ := Aside0.mk (hb); have n2_ := Aside0.mk (ho); clear BK242; clear HB; clear HO_5; have BK242 := n0_; have HB := n1_; have HO245 := n2_; clear n0_ n1_ n2_; clear ho hb hg hat))
               go_roundg k2
               case measure => have := HK1.out; have := HK2.out; omega
               case rel => exact ⟨(y243), (wrap64 (x17_1 + 1)), (by first | rfl | (simp; done) | (simp [*]; done)), H', ⟨by have := HK1.out; have := HK2.out; omega⟩, ⟨by (with_reducible repeat (first | apply Kd.R_alloc | apply Kd.R_drewN | apply Kd.R_drew)); exact Kd.R_mono HO245.out (fun _ hk => trivial)⟩, ⟨by repeat (first | (with_reducible first | exact HB.out | apply below_alloc | apply pw_below_drewN | apply below_drew1 | refine below_set ?_ GE242.out) | exact HB.out)⟩⟩
              rw [if_neg c65] at H
              exact absurd H (by simp)
             replace c63 := Bool.eq_false_iff.mpr c63
             subst c63
             have H1 : (corporaref27_Chosen.l0 k2 a0 l1 x5_1 l1 (l1.length : Int) (wrap64 (x17_1 + 1))) = some r := by rw [if_neg (show ¬ (false = true) by decide)] at H; exact H
             clear H
             have H := H1
             clear H1
             have H' := Aside0.mk H
             clear H
             go_wp2
             go_roundg k2
             case measure => have := HK1.out; have := HK2.out; omega
             case rel => exact ⟨(x5_1), (wrap64 (x17_1 + 1)), (by first | rfl | (simp; done) | (simp [*]; done)), H', ⟨by have := HK1.out; have := HK2.out; omega⟩, ⟨by (with_reducible repeat (first | apply Kd.R_alloc | apply Kd.R_drewN | apply Kd.R_drew)); exact Kd.R_mono HO_5.out (fun _ hk => trivial)⟩, ⟨by repeat (first | (with_reducible first | exact HB.out | apply below_alloc | apply pw_below_drewN | apply below_drew1 | refine below_set ?_ GE242.out) | exact HB.out)⟩⟩
        rw [if_neg c5] at H
        exact absurd H (by simp)
       rw [if_neg c4] at H
       exact absurd H (by simp)
      rw [if_neg c3] at H
      have c3b0 : decide (x17_1 < (l1.length : Int)) = false := decide_eq_false c3
      clear c3
      by_cases c68 : a0 = 3
      ·rw [if_pos c68] at H
       have c68b0 : (a0 == 3) = true := beq_iff_eq.mpr c68
       have c68b1 : (a0 != 3) = false := bne_eq_false_iff_eq.mpr c68
       clear c68
       have H' := Aside0.mk H
       clear H
       go_wp2
       go_loopg [5, 11] k1 (fun kq v5 v11 w' => ∃ (x5_2 : List (S40)) (x11_2 : Int), v11 = .int .i64 x11_2 ∧ Aside0 (corporaref27_Chosen.l2 kq l1 x5_2 x11_2 = some r) ∧ Aside0 (kq ≤ k1) ∧ Aside0 (Kd.R k40 40 w' w.heap.size (fun _ => True) v5 x5_2) ∧ Aside0 (Below w.heap.size w w'))
       case atStart => exact ⟨(x5_1), (0), (by first | rfl | (simp; done) | (simp [*]; done)), H', ⟨Nat.le_refl _⟩, ⟨by (with_reducible repeat (first | apply Kd.R_alloc | apply Kd.R_drewN | apply Kd.R_drew)); exact HO_5.out⟩, ⟨by repeat (first | (with_reducible first | exact HB.out | apply below_alloc | apply pw_below_drewN | apply below_drew1) | exact HB.out)⟩⟩
       case round =>
         clear H'
         try clear c1
         try clear c2
         try clear p2
         try clear q2
         try clear hx2
         try clear c3
         try clear c3b0
         try clear c4
         try clear c4b0
         try clear c5
         try clear c5b0
         try clear c6
         try clear p6
         try clear c8
         try clear c8b0
         try clear c9
         try clear c9b0
         try clear c10
         try clear c10b0
         try clear c11
         try clear c11b0
         try clear c11b1
         try clear c13
         try clear c15
         try clear c15b0
         try clear c15b1
         try clear c17
         try clear c19
         try clear c23
         try clear c23b0
         try clear c23b1
         try clear p24
         try clear q24
         try clear hx24
         try clear c25
         try clear c27
         try clear c32
         try clear c35
         try clear c43
         try clear c47
         try clear c47b0
         try clear c47b1
         try clear c49
         try clear c51
         try clear c56
         try clear c61
         try clear c63
         try clear c64
         try clear c64b0
         try clear c64b1
         try clear p64
         try clear c65
         try clear c68
         try clear c68b0
         try clear c68b1
         try clear hcz14_0
         try clear hcz14_1
         try clear hcz20_0
         try clear hcz20_1
         try clear hcz21_0
         try clear hcz21_1
         try clear hcz28_0
         try clear hcz28_1
         try clear hcz29_0
         try clear hcz29_1
         try clear hcz31_0
         try clear hcz31_1
         try clear hcz32_0
         try clear hcz32_1
         try clear hcz36_0
         try clear hcz36_1
         try clear hcz37_0
         try clear hcz37_1
         try clear hcz39_0
         try clear hcz39_1
         try clear hcz40_0
         try clear hcz40_1
         try clear hcz44_0
         try clear hcz44_1
         try clear hcz45_0
         try clear hcz45_1
         try clear hcz52_0
         try clear hcz52_1
         try clear hcz53_0
         try clear hcz53_1
         try clear hcz57_0
         try clear hcz57_1
         try clear hcz58_0
         try clear hcz58_1
         try clear hcz62_0
         try clear hcz62_1
         try clear hcz66_0
         try clear hcz66_1
         try clear hcz7_0
         try clear hcz7_1
         try clear hfz14_0
         try clear hfz14_1
         try clear hfz20_0
         try clear hfz20_1
         try clear hfz21_0
         try clear hfz21_1
         try clear hfz28_0
         try clear hfz28_1
         try clear hfz29_0
         try clear hfz29_1
         try clear hfz31_0
         try clear hfz31_1
         try clear hfz32_0
         try clear hfz32_1
         try clear hfz36_0
         try clear hfz36_1
         try clear hfz37_0
         try clear hfz37_1
         try clear hfz39_0
         try clear hfz39_1
         try clear hfz40_0
         try clear hfz40_1
         try clear hfz44_0
         try clear hfz44_1
         try clear hfz45_0
         try clear hfz45_1
         try clear hfz52_0
         try clear hfz52_1
         try clear hfz53_0
         try clear hfz53_1
         try clear hfz57_0
         try clear hfz57_1
         try clear hfz58_0
         try clear hfz58_1
         try clear hfz62_0
         try clear hfz62_1
         try clear hfz66_0
         try clear hfz66_1
         try clear hfz7_0
         try clear hfz7_1
         try clear hx241_0
         try clear hx241_1
         try clear hx246_0
         try clear hx246_1
         try clear p2
         try clear p241
         try clear p246
         try clear q2
         try clear q241
         try clear q246
         obtain ⟨x5_2, x11_2, rfl, HA, HK2, HO_5, HB⟩ := hrel
         cases gk with
         | zero => exact absurd HA.out (by simp [corporaref27_Chosen.l2])
         | succ k2 =>
           have H := HA.out
           clear HA
           simp only [corporaref27_Chosen.l2] at H
           have H' := Aside0.mk H
           clear H
           go_wp2_with (first | ((with_reducible refine gate_dst (N := 12) rfl ?_); refine box_event ?hg (N := 12) ?hd (cs := #[.int .i64 0, .int .i64 0]) (t := 40) ?hr ?_; (case hd => rfl); (case hg => rfl); (case hr => first | (go_simp; done) | (go_simp; rfl)); intro gb251 hg w69 hbox hb; have n0_ := Aside0.mk (Kd.R_below (Kd.R_elderB (by (with_reducible repeat (first | apply Kd.R_alloc | apply Kd.R_drewN | apply Kd.R_drew)); exact HO_5.out) gb251 (Nat.le_of_eq hg.symm)) hb); have n1_ := Aside0.mk (below_step (by repeat (first | (with_reducible first | exact HB.out | apply below_alloc | apply pw_below_drewN | apply below_drew1) | exact HB.out)) hb); have n2_ := Aside0.mk (hbox); have n3_ := Aside0.mk ((by rw [hg]; exact (below_size (by repeat (first | (with_reducible first | exact HB.out | apply below_alloc | apply pw_below_drewN | apply below_drew1) | exact HB.out))) : w.heap.size ≤ gb251)); have n4_ := Aside0.mk ((by rw [hg]; exact (below_size (by repeat (first | (with_reducible first | exact HB.out | apply below_alloc | apply pw_below_drewN | apply below_drew1) | exact HB.out))) : w.heap.size ≤ gb251)); clear HO_5; clear HB; have HO_5 := n0_; have HB := n1_; have BK251 := n2_; have GW251 := n3_; have GE251 := n4_; clear n0_ n1_ n2_ n3_ n4_; clear hb hbox hg; have hcz70_0 : w69.cell? ⟨gb251, 0, none⟩ = some (.int .i64 0) := (blk_cell BK251.out 0).trans rfl; have hcz70_1 : w69.cell? ⟨gb251, 1, none⟩ = some (.int .i64 0) := (blk_cell BK251.out 1).trans rfl; have hfz70_0 := blk_frozen BK251.out 0; have hfz70_1 := blk_frozen BK251.out 1))
           go_loopg [66] k2 (fun kq v66 w' => ∃ (x66_3 : Int) (x252000_3 : Int) (x252001_3 : Int), v66 = .int .i64 x66_3 ∧ Aside0 (corporaref27_Chosen.l3 kq l1 x5_2 x11_2 l1 (l1.length : Int) x66_3 x252000_3 x252001_3 = some r) ∧ Aside0 (kq ≤ k2) ∧ Aside0 (Kd.R k40 40 w' w.heap.size (fun k_ => k_ ≠ gb251) u5 x5_2) ∧ Aside0 (w'.heap[gb251]? = some (.cells #[.int .i64 x252000_3, .int .i64 x252001_3] 40 (0, 0))) ∧ Aside0 (Below w.heap.size w w'))
           case atStart => exact ⟨(0), ((-1)), (0), (by first | rfl | (simp; done) | (simp [*]; done)), H', ⟨Nat.le_refl _⟩, ⟨by (with_reducible repeat (first | apply Kd.R_alloc | apply Kd.R_drewN | apply Kd.R_drew)); exact Kd.R_mono (Kd.R_far (p := ⟨gb251, 1, none⟩) (Kd.R_far (p := ⟨gb251, 0, none⟩) (Kd.R_mono HO_5.out (fun k_ hk => (⟨hk, hk.2⟩ : _ ∧ k_ ≠ gb251))) (fun _ hk => hk.2) (.int .i64 (-1))) (fun _ hk => hk.2) (.int .i64 0)) (fun _ hk => hk.1.2)⟩, ⟨by (with_reducible repeat (first | refine blk_drewN ?_ _ | refine blk_drew ?_ | refine blk_alloc ?_ _)); refine blk_put (cs := #[.int .i64 (-1), .int .i64 0]) ?_ 1 _ rfl; (with_reducible repeat (first | refine blk_drewN ?_ _ | refine blk_drew ?_ | refine blk_alloc ?_ _)); refine blk_put (cs := #[.int .i64 0, .int .i64 0]) ?_ 0 _ rfl; (with_reducible repeat (first | refine blk_drewN ?_ _ | refine blk_drew ?_ | refine blk_alloc ?_ _)); exact BK251.out⟩, ⟨by repeat (first | (with_reducible first | exact HB.out | apply below_alloc | apply pw_below_drewN | apply below_drew1 | refine below_set ?_ GE251.out) | exact HB.out)⟩⟩
           case round =>
             clear H'
             try clear c1
             try clear c2
             try clear p2
             try clear q2
             try clear hx2
             try clear c3
             try clear c3b0
             try clear c4
             try clear c4b0
             try clear c5
             try clear c5b0
             try clear c6
             try clear p6
             try clear c8
             try clear c8b0
             try clear c9
             try clear c9b0
             try clear c10
             try clear c10b0
             try clear c11
             try clear c11b0
             try clear c11b1
             try clear c13
             try clear c15
             try clear c15b0
             try clear c15b1
             try clear c17
             try clear c19
             try clear c23
             try clear c23b0
             try clear c23b1
             try clear p24
             try clear q24
             try clear hx24
             try clear c25
             try clear c27
             try clear c32
             try clear c35
             try clear c43
             try clear c47
             try clear c47b0
             try clear c47b1
             try clear c49
             try clear c51
             try clear c56
             try clear c61
             try clear c63
             try clear c64
             try clear c64b0
             try clear c64b1
             try clear p64
             try clear c65
             try clear c68
             try clear c68b0
             try clear c68b1
             try clear hcz14_0
             try clear hcz14_1
             try clear hcz20_0
             try clear hcz20_1
             try clear hcz21_0
             try clear hcz21_1
             try clear hcz28_0
             try clear hcz28_1
             try clear hcz29_0
             try clear hcz29_1
             try clear hcz31_0
             try clear hcz31_1
             try clear hcz32_0
             try clear hcz32_1
             try clear hcz36_0
             try clear hcz36_1
             try clear hcz37_0
             try clear hcz37_1
             try clear hcz39_0
             try clear hcz39_1
             try clear hcz40_0
             try clear hcz40_1
             try clear hcz44_0
             try clear hcz44_1
             try clear hcz45_0
             try clear hcz45_1
             try clear hcz52_0
             try clear hcz52_1
             try clear hcz53_0
             try clear hcz53_1
             try clear hcz57_0
             try clear hcz57_1
             try clear hcz58_0
             try clear hcz58_1
             try clear hcz62_0
             try clear hcz62_1
             try clear hcz66_0
             try clear hcz66_1
             try clear hcz70_0
             try clear hcz70_1
             try clear hcz7_0
             try clear hcz7_1
             try clear hfz14_0
             try clear hfz14_1
             try clear hfz20_0
             try clear hfz20_1
             try clear hfz21_0
             try clear hfz21_1
             try clear hfz28_0
             try clear hfz28_1
             try clear hfz29_0
             try clear hfz29_1
             try clear hfz31_0
             try clear hfz31_1
             try clear hfz32_0
             try clear hfz32_1
             try clear hfz36_0
             try clear hfz36_1
             try clear hfz37_0
             try clear hfz37_1
             try clear hfz39_0
             try clear hfz39_1
             try clear hfz40_0
             try clear hfz40_1
             try clear hfz44_0
             try clear hfz44_1
             try clear hfz45_0
             try clear hfz45_1
             try clear hfz52_0
             try clear hfz52_1
             try clear hfz53_0
             try clear hfz53_1
             try clear hfz57_0
             try clear hfz57_1
             try clear hfz58_0
             try clear hfz58_1
             try clear hfz62_0
             try clear hfz62_1
             try clear hfz66_0
             try clear hfz66_1
             try clear hfz70_0
             try clear hfz70_1
             try clear hfz7_0
             try clear hfz7_1
             try clear hx241_0
             try clear hx241_1
             try clear hx246_0
             try clear hx246_1
             try clear p2
             try clear p24
             try clear p241
             try clear p246
             try clear p6
             try clear p64
             try clear q2
             try clear q24
             try clear q241
             try clear q246
             obtain ⟨x66_3, x252000_3, x252001_3, rfl, HA, HK3, HO_5, BK251, HB⟩ := hrel
             cases gk with
             | zero => exact absurd HA.out (by simp [corporaref27_Chosen.l3])
             | succ k3 =>
               have H := HA.out
               clear HA
               simp only [corporaref27_Chosen.l3] at H
               by_cases c71 : x66_3 < (l1.length : Int)
               ·rw [if_pos c71] at H
                have c71b0 : decide (x66_3 < (l1.length : Int)) = true := decide_eq_true c71
                clear c71
                by_cases c72 : 0 ≤ x66_3
                ·rw [if_pos c72] at H
                 have c72b0 : decide (0 ≤ x66_3) = true := decide_eq_true c72
                 clear c72
                 by_cases c73 : x66_3 < (l1.length : Int)
                 ·rw [if_pos c73] at H
                  have c73b0 : decide (x66_3 < (l1.length : Int)) = true := decide_eq_true c73
                  clear c73
                  by_cases c74 : ((rd_T40 l1 x66_3).f0) ≥ x11_2
                  ·rw [if_pos c74] at H
                   have c74b0 : decide (x11_2 ≤ ((rd_T40 l1 x66_3).f0)) = true := decide_eq_true c74
                   clear c74
                   by_cases c75 : x252000_3 = (-1)
                   ·rw [if_pos c75] at H
                    have c75b0 : (x252000_3 == (-1)) = true := beq_iff_eq.mpr c75
                    have c75b1 : (x252000_3 != (-1)) = false := bne_eq_false_iff_eq.mpr c75
                    clear c75
                    have H' := Aside0.mk H
                    clear H
                    have p252 : 0 ≤ (x66_3 : Int) := of_decide_eq_true (by first | (with_reducible assumption) | assumption)
                    have q252 : x66_3 < (l1.length : Int) := of_decide_eq_true (by first | (with_reducible assumption) | assumption)
                    obtain ⟨ad252, e252, hx252_0, hx252_1⟩ := at_T40 HR1.out x66_3 p252 q252
                    cases e252
                    replace hx252_0 := (HB.out.cell (World.block_lt_of_cell? w _ hx252_0)).trans hx252_0
                    replace hx252_1 := (HB.out.cell (World.block_lt_of_cell? w _ hx252_1)).trans hx252_1
                    replace p252 := eq_true p252
                    replace q252 := eq_true q252
                    go_wp2_with (first | ((with_reducible refine gate_dst (N := 14) rfl ?_); refine box_event ?hg (N := 14) ?hd (cs := #[.int .i64 0, .int .i64 0]) (t := 40) ?hr ?_; (case hd => rfl); (case hg => rfl); (case hr => first | (go_simp; done) | (go_simp; rfl)); intro gb253 hg w76 hbox hb; have n0_ := Aside0.mk (Kd.R_below (Kd.R_elderB (by (with_reducible repeat (first | apply Kd.R_alloc | apply Kd.R_drewN | apply Kd.R_drew)); exact HO_5.out) gb253 (Nat.le_of_eq hg.symm)) hb); have n1_ := Aside0.mk (blk_below (g := gb251) (o := .cells #[.int .i64 x252000_3, .int .i64 x252001_3] 40 (0, 0)) (by (with_reducible repeat (first | refine blk_drewN ?_ _ | refine blk_drew ?_ | refine blk_alloc ?_ _)); exact BK251.out) hb); have n2_ := Aside0.mk (below_step (by repeat (first | (with_reducible first | exact HB.out | apply below_alloc | apply pw_below_drewN | apply below_drew1 | refine below_set ?_ GE251.out) | exact HB.out)) hb); have n3_ := Aside0.mk (hbox); have n4_ := Aside0.mk ((by rw [hg]; exact (below_size (by repeat (first | (with_reducible first | exact HB.out | apply below_alloc | apply pw_below_drewN | apply below_drew1 | refine below_set ?_ GE251.out) | exact HB.out))) : w.heap.size ≤ gb253)); have n5_ := Aside0.mk ((by rw [hg]; exact (below_size (by repeat (first | (with_reducible first | exact HB.out | apply below_alloc | apply pw_below_drewN | apply below_drew1 | refine below_set ?_ GE251.out) | exact HB.out))) : w.heap.size ≤ gb253)); have n6_ := Aside0.mk ((by rw [hg]; exact Nat.ne_of_lt (blk_lt (g := gb251) (o := .cells #[.int .i64 x252000_3, .int .i64 x252001_3] 40 (0, 0)) (by (with_reducible repeat (first | refine blk_drewN ?_ _ | refine blk_drew ?_ | refine blk_alloc ?_ _)); exact BK251.out)) : gb251 ≠ gb253)); have n7_ := Aside0.mk ((by rw [hg]; exact Nat.ne_of_gt (blk_lt (g := gb251) (o := .cells #[.int .i64 x252000_3, .int .i64 x252001_3] 40 (0, 0)) (by (with_reducible repeat (first | refine blk_drewN ?_ _ | refine blk_drew ?_ | refine blk_alloc ?_ _)); exact BK251.out)) : gb253 ≠ gb251)); clear HO_5; clear BK251; clear HB; have HO_5 := n0_; have BK251 := n1_; have HB := n2_; have BK253 := n3_; have GW253 := n4_; have GE253 := n5_; have NB251_253 := n6_; have NB253_251 := n7_; clear n0_ n1_ n2_ n3_ n4_ n5_ n6_ n7_; clear hb hbox hg; have hnb77 := NB253_251.out; have hnc77 := NB251_253.out; have hcz78_0 : w76.cell? ⟨gb253, 0, none⟩ = some (.int .i64 0) := (blk_cell BK253.out 0).trans rfl; have hcz78_1 : w76.cell? ⟨gb253, 1, none⟩ = some (.int .i64 0) := (blk_cell BK253.out 1).trans rfl; have hfz78_0 := blk_frozen BK253.out 0; have hfz78_1 := blk_frozen BK253.out 1; have hcz79_0 : w76.cell? ⟨gb251, 0, none⟩ = some (.int .i64 x252000_3) := (blk_cell BK251.out 0).trans rfl; have hcz79_1 : w76.cell? ⟨gb251, 1, none⟩ = some (.int .i64 x252001_3) := (blk_cell BK251.out 1).trans rfl; have hfz79_0 := blk_frozen BK251.out 0; have hfz79_1 := blk_frozen BK251.out 1))
                    go_roundg k3
                    case measure => have := HK1.out; have := HK2.out; have := HK3.out; omega
                    case rel => exact ⟨(wrap64 (x66_3 + 1)), ((rd_T40 l1 x66_3).f0), ((rd_T40 l1 x66_3).f1), (by first | rfl | (simp; done) | (simp [*]; done)), H', ⟨by have := HK1.out; have := HK2.out; have := HK3.out; omega⟩, ⟨by (with_reducible repeat (first | apply Kd.R_alloc | apply Kd.R_drewN | apply Kd.R_drew)); exact Kd.R_mono (Kd.R_far (p := ⟨gb251, 1, none⟩) (Kd.R_far (p := ⟨gb251, 0, none⟩) (Kd.R_far (p := ⟨gb253, 1, none⟩) (Kd.R_far (p := ⟨gb253, 0, none⟩) (Kd.R_mono (Kd.R_mono HO_5.out (fun k_ hk => (⟨hk, hk.2⟩ : _ ∧ k_ ≠ gb253))) (fun k_ hk => (⟨hk, hk.1.1⟩ : _ ∧ k_ ≠ gb251))) (fun _ hk => hk.1.2) (.int .i64 ((rd_T40 l1 x66_3).f0))) (fun _ hk => hk.1.2) (.int .i64 ((rd_T40 l1 x66_3).f1))) (fun _ hk => hk.2) (.int .i64 ((rd_T40 l1 x66_3).f0))) (fun _ hk => hk.2) (.int .i64 ((rd_T40 l1 x66_3).f1))) (fun _ hk => hk.1.1.1)⟩, ⟨by (with_reducible repeat (first | refine blk_drewN ?_ _ | refine blk_drew ?_ | refine blk_alloc ?_ _)); refine blk_put (cs := #[.int .i64 ((rd_T40 l1 x66_3).f0), .int .i64 x252001_3]) ?_ 1 _ rfl; (with_reducible repeat (first | refine blk_drewN ?_ _ | refine blk_drew ?_ | refine blk_alloc ?_ _)); refine blk_put (cs := #[.int .i64 x252000_3, .int .i64 x252001_3]) ?_ 0 _ rfl; (with_reducible repeat (first | refine blk_drewN ?_ _ | refine blk_drew ?_ | refine blk_alloc ?_ _)); refine blk_far ?_ NB251_253.out _; (with_reducible repeat (first | refine blk_drewN ?_ _ | refine blk_drew ?_ | refine blk_alloc ?_ _)); refine blk_far ?_ NB251_253.out _; (with_reducible repeat (first | refine blk_drewN ?_ _ | refine blk_drew ?_ | refine blk_alloc ?_ _)); exact BK251.out⟩, ⟨by repeat (first | (with_reducible first | exact HB.out | apply below_alloc | apply pw_below_drewN | apply below_drew1 | refine below_set ?_ GE251.out | refine below_set ?_ GE253.out) | exact HB.out)⟩⟩
                   rw [if_neg c75] at H
                   have c75b0 : (x252000_3 == (-1)) = false := beq_eq_false_iff_ne.mpr c75
                   have c75b1 : (x252000_3 != (-1)) = true := bne_iff_ne.mpr c75
                   by_cases c80 : ((rd_T40 l1 x66_3).f0) < x252000_3
                   ·rw [if_pos c80] at H
                    have c80b0 : decide (((rd_T40 l1 x66_3).f0) < x252000_3) = true := decide_eq_true c80
                    clear c80
                    have H' := Aside0.mk H
                    clear H
                    have p252 : 0 ≤ (x66_3 : Int) := of_decide_eq_true (by first | (with_reducible assumption) | assumption)
                    have q252 : x66_3 < (l1.length : Int) := of_decide_eq_true (by first | (with_reducible assumption) | assumption)
                    obtain ⟨ad252, e252, hx252_0, hx252_1⟩ := at_T40 HR1.out x66_3 p252 q252
                    cases e252
                    replace hx252_0 := (HB.out.cell (World.block_lt_of_cell? w _ hx252_0)).trans hx252_0
                    replace hx252_1 := (HB.out.cell (World.block_lt_of_cell? w _ hx252_1)).trans hx252_1
                    replace p252 := eq_true p252
                    replace q252 := eq_true q252
                    go_wp2_with (first | ((with_reducible refine gate_dst (N := 14) rfl ?_); refine box_event ?hg (N := 14) ?hd (cs := #[.int .i64 0, .int .i64 0]) (t := 40) ?hr ?_; (case hd => rfl); (case hg => rfl); (case hr => first | (go_simp; done) | (go_simp; rfl)); intro gb253 hg w81 hbox hb; have n0_ := Aside0.mk (Kd.R_below (Kd.R_elderB (by (with_reducible repeat (first | apply Kd.R_alloc | apply Kd.R_drewN | apply Kd.R_drew)); exact HO_5.out) gb253 (Nat.le_of_eq hg.symm)) hb); have n1_ := Aside0.mk (blk_below (g := gb251) (o := .cells #[.int .i64 x252000_3, .int .i64 x252001_3] 40 (0, 0)) (by (with_reducible repeat (first | refine blk_drewN ?_ _ | refine blk_drew ?_ | refine blk_alloc ?_ _)); exact BK251.out) hb); have n2_ := Aside0.mk (below_step (by repeat (first | (with_reducible first | exact HB.out | apply below_alloc | apply pw_below_drewN | apply below_drew1 | refine below_set ?_ GE251.out) | exact HB.out)) hb); have n3_ := Aside0.mk (hbox); have n4_ := Aside0.mk ((by rw [hg]; exact (below_size (by repeat (first | (with_reducible first | exact HB.out | apply below_alloc | apply pw_below_drewN | apply below_drew1 | refine below_set ?_ GE251.out) | exact HB.out))) : w.heap.size ≤ gb253)); have n5_ := Aside0.mk ((by rw [hg]; exact (below_size (by repeat (first | (with_reducible first | exact HB.out | apply below_alloc | apply pw_below_drewN | apply below_drew1 | refine below_set ?_ GE251.out) | exact HB.out))) : w.heap.size ≤ gb253)); have n6_ := Aside0.mk ((by rw [hg]; exact Nat.ne_of_lt (blk_lt (g := gb251) (o := .cells #[.int .i64 x252000_3, .int .i64 x252001_3] 40 (0, 0)) (by (with_reducible repeat (first | refine blk_drewN ?_ _ | refine blk_drew ?_ | refine blk_alloc ?_ _)); exact BK251.out)) : gb251 ≠ gb253)); have n7_ := Aside0.mk ((by rw [hg]; exact Nat.ne_of_gt (blk_lt (g := gb251) (o := .cells #[.int .i64 x252000_3, .int .i64 x252001_3] 40 (0, 0)) (by (with_reducible repeat (first | refine blk_drewN ?_ _ | refine blk_drew ?_ | refine blk_alloc ?_ _)); exact BK251.out)) : gb253 ≠ gb251)); clear HO_5; clear BK251; clear HB; have HO_5 := n0_; have BK251 := n1_; have HB := n2_; have BK253 := n3_; have GW253 := n4_; have GE253 := n5_; have NB251_253 := n6_; have NB253_251 := n7_; clear n0_ n1_ n2_ n3_ n4_ n5_ n6_ n7_; clear hb hbox hg; have hnb82 := NB253_251.out; have hnc82 := NB251_253.out; have hcz83_0 : w81.cell? ⟨gb253, 0, none⟩ = some (.int .i64 0) := (blk_cell BK253.out 0).trans rfl; have hcz83_1 : w81.cell? ⟨gb253, 1, none⟩ = some (.int .i64 0) := (blk_cell BK253.out 1).trans rfl; have hfz83_0 := blk_frozen BK253.out 0; have hfz83_1 := blk_frozen BK253.out 1; have hcz84_0 : w81.cell? ⟨gb251, 0, none⟩ = some (.int .i64 x252000_3) := (blk_cell BK251.out 0).trans rfl; have hcz84_1 : w81.cell? ⟨gb251, 1, none⟩ = some (.int .i64 x252001_3) := (blk_cell BK251.out 1).trans rfl; have hfz84_0 := blk_frozen BK251.out 0; have hfz84_1 := blk_frozen BK251.out 1))
                    go_roundg k3
                    case measure => have := HK1.out; have := HK2.out; have := HK3.out; omega
                    case rel => exact ⟨(wrap64 (x66_3 + 1)), ((rd_T40 l1 x66_3).f0), ((rd_T40 l1 x66_3).f1), (by first | rfl | (simp; done) | (simp [*]; done)), H', ⟨by have := HK1.out; have := HK2.out; have := HK3.out; omega⟩, ⟨by (with_reducible repeat (first | apply Kd.R_alloc | apply Kd.R_drewN | apply Kd.R_drew)); exact Kd.R_mono (Kd.R_far (p := ⟨gb251, 1, none⟩) (Kd.R_far (p := ⟨gb251, 0, none⟩) (Kd.R_far (p := ⟨gb253, 1, none⟩) (Kd.R_far (p := ⟨gb253, 0, none⟩) (Kd.R_mono (Kd.R_mono HO_5.out (fun k_ hk => (⟨hk, hk.2⟩ : _ ∧ k_ ≠ gb253))) (fun k_ hk => (⟨hk, hk.1.1⟩ : _ ∧ k_ ≠ gb251))) (fun _ hk => hk.1.2) (.int .i64 ((rd_T40 l1 x66_3).f0))) (fun _ hk => hk.1.2) (.int .i64 ((rd_T40 l1 x66_3).f1))) (fun _ hk => hk.2) (.int .i64 ((rd_T40 l1 x66_3).f0))) (fun _ hk => hk.2) (.int .i64 ((rd_T40 l1 x66_3).f1))) (fun _ hk => hk.1.1.1)⟩, ⟨by (with_reducible repeat (first | refine blk_drewN ?_ _ | refine blk_drew ?_ | refine blk_alloc ?_ _)); refine blk_put (cs := #[.int .i64 ((rd_T40 l1 x66_3).f0), .int .i64 x252001_3]) ?_ 1 _ rfl; (with_reducible repeat (first | refine blk_drewN ?_ _ | refine blk_drew ?_ | refine blk_alloc ?_ _)); refine blk_put (cs := #[.int .i64 x252000_3, .int .i64 x252001_3]) ?_ 0 _ rfl; (with_reducible repeat (first | refine blk_drewN ?_ _ | refine blk_drew ?_ | refine blk_alloc ?_ _)); refine blk_far ?_ NB251_253.out _; (with_reducible repeat (first | refine blk_drewN ?_ _ | refine blk_drew ?_ | refine blk_alloc ?_ _)); refine blk_far ?_ NB251_253.out _; (with_reducible repeat (first | refine blk_drewN ?_ _ | refine blk_drew ?_ | refine blk_alloc ?_ _)); exact BK251.out⟩, ⟨by repeat (first | (with_reducible first | exact HB.out | apply below_alloc | apply pw_below_drewN | apply below_drew1 | refine below_set ?_ GE251.out | refine below_set ?_ GE253.out) | exact HB.out)⟩⟩
                   rw [if_neg c80] at H
                   have c80b0 : decide (((rd_T40 l1 x66_3).f0) < x252000_3) = false := decide_eq_false c80
                   clear c80
                   by_cases c85 : ((rd_T40 l1 x66_3).f0) = x252000_3
                   ·rw [if_pos c85] at H
                    have c85b0 : (((rd_T40 l1 x66_3).f0) == x252000_3) = true := beq_iff_eq.mpr c85
                    have c85b1 : (((rd_T40 l1 x66_3).f0) != x252000_3) = false := bne_eq_false_iff_eq.mpr c85
                    clear c85
                    by_cases c86 : ((rd_T40 l1 x66_3).f1) > x252001_3
                    ·rw [if_pos c86] at H
                     have c86b0 : decide (x252001_3 < ((rd_T40 l1 x66_3).f1)) = true := decide_eq_true c86
                     clear c86
                     have H' := Aside0.mk H
                     clear H
                     have p252 : 0 ≤ (x66_3 : Int) := of_decide_eq_true (by first | (with_reducible assumption) | assumption)
                     have q252 : x66_3 < (l1.length : Int) := of_decide_eq_true (by first | (with_reducible assumption) | assumption)
                     obtain ⟨ad252, e252, hx252_0, hx252_1⟩ := at_T40 HR1.out x66_3 p252 q252
                     cases e252
                     replace hx252_0 := (HB.out.cell (World.block_lt_of_cell? w _ hx252_0)).trans hx252_0
                     replace hx252_1 := (HB.out.cell (World.block_lt_of_cell? w _ hx252_1)).trans hx252_1
                     replace p252 := eq_true p252
                     replace q252 := eq_true q252
                     go_wp2_with (first | ((with_reducible refine gate_dst (N := 14) rfl ?_); refine box_event ?hg (N := 14) ?hd (cs := #[.int .i64 0, .int .i64 0]) (t := 40) ?hr ?_; (case hd => rfl); (case hg => rfl); (case hr => first | (go_simp; done) | (go_simp; rfl)); intro gb253 hg w87 hbox hb; have n0_ := Aside0.mk (Kd.R_below (Kd.R_elderB (by (with_reducible repeat (first | apply Kd.R_alloc | apply Kd.R_drewN | apply Kd.R_drew)); exact HO_5.out) gb253 (Nat.le_of_eq hg.symm)) hb); have n1_ := Aside0.mk (blk_below (g := gb251) (o := .cells #[.int .i64 x252000_3, .int .i64 x252001_3] 40 (0, 0)) (by (with_reducible repeat (first | refine blk_drewN ?_ _ | refine blk_drew ?_ | refine blk_alloc ?_ _)); exact BK251.out) hb); have n2_ := Aside0.mk (below_step (by repeat (first | (with_reducible first | exact HB.out | apply below_alloc | apply pw_below_drewN | apply below_drew1 | refine below_set ?_ GE251.out) | exact HB.out)) hb); have n3_ := Aside0.mk (hbox); have n4_ := Aside0.mk ((by rw [hg]; exact (below_size (by repeat (first | (with_reducible first | exact HB.out | apply below_alloc | apply pw_below_drewN | apply below_drew1 | refine below_set ?_ GE251.out) | exact HB.out))) : w.heap.size ≤ gb253)); have n5_ := Aside0.mk ((by rw [hg]; exact (below_size (by repeat (first | (with_reducible first | exact HB.out | apply below_alloc | apply pw_below_drewN | apply below_drew1 | refine below_set ?_ GE251.out) | exact HB.out))) : w.heap.size ≤ gb253)); have n6_ := Aside0.mk ((by rw [hg]; exact Nat.ne_of_lt (blk_lt (g := gb251) (o := .cells #[.int .i64 x252000_3, .int .i64 x252001_3] 40 (0, 0)) (by (with_reducible repeat (first | refine blk_drewN ?_ _ | refine blk_drew ?_ | refine blk_alloc ?_ _)); exact BK251.out)) : gb251 ≠ gb253)); have n7_ := Aside0.mk ((by rw [hg]; exact Nat.ne_of_gt (blk_lt (g := gb251) (o := .cells #[.int .i64 x252000_3, .int .i64 x252001_3] 40 (0, 0)) (by (with_reducible repeat (first | refine blk_drewN ?_ _ | refine blk_drew ?_ | refine blk_alloc ?_ _)); exact BK251.out)) : gb253 ≠ gb251)); clear HO_5; clear BK251; clear HB; have HO_5 := n0_; have BK251 := n1_; have HB := n2_; have BK253 := n3_; have GW253 := n4_; have GE253 := n5_; have NB251_253 := n6_; have NB253_251 := n7_; clear n0_ n1_ n2_ n3_ n4_ n5_ n6_ n7_; clear hb hbox hg; have hnb88 := NB253_251.out; have hnc88 := NB251_253.out; have hcz89_0 : w87.cell? ⟨gb253, 0, none⟩ = some (.int .i64 0) := (blk_cell BK253.out 0).trans rfl; have hcz89_1 : w87.cell? ⟨gb253, 1, none⟩ = some (.int .i64 0) := (blk_cell BK253.out 1).trans rfl; have hfz89_0 := blk_frozen BK253.out 0; have hfz89_1 := blk_frozen BK253.out 1; have hcz90_0 : w87.cell? ⟨gb251, 0, none⟩ = some (.int .i64 x252000_3) := (blk_cell BK251.out 0).trans rfl; have hcz90_1 : w87.cell? ⟨gb251, 1, none⟩ = some (.int .i64 x252001_3) := (blk_cell BK251.out 1).trans rfl; have hfz90_0 := blk_frozen BK251.out 0; have hfz90_1 := blk_frozen BK251.out 1))
                     go_roundg k3
                     case measure => have := HK1.out; have := HK2.out; have := HK3.out; omega
                     case rel => exact ⟨(wrap64 (x66_3 + 1)), ((rd_T40 l1 x66_3).f0), ((rd_T40 l1 x66_3).f1), (by first | rfl | (simp; done) | (simp [*]; done)), H', ⟨by have := HK1.out; have := HK2.out; have := HK3.out; omega⟩, ⟨by (with_reducible repeat (first | apply Kd.R_alloc | apply Kd.R_drewN | apply Kd.R_drew)); exact Kd.R_mono (Kd.R_far (p := ⟨gb251, 1, none⟩) (Kd.R_far (p := ⟨gb251, 0, none⟩) (Kd.R_far (p := ⟨gb253, 1, none⟩) (Kd.R_far (p := ⟨gb253, 0, none⟩) (Kd.R_mono (Kd.R_mono HO_5.out (fun k_ hk => (⟨hk, hk.2⟩ : _ ∧ k_ ≠ gb253))) (fun k_ hk => (⟨hk, hk.1.1⟩ : _ ∧ k_ ≠ gb251))) (fun _ hk => hk.1.2) (.int .i64 ((rd_T40 l1 x66_3).f0))) (fun _ hk => hk.1.2) (.int .i64 ((rd_T40 l1 x66_3).f1))) (fun _ hk => hk.2) (.int .i64 ((rd_T40 l1 x66_3).f0))) (fun _ hk => hk.2) (.int .i64 ((rd_T40 l1 x66_3).f1))) (fun _ hk => hk.1.1.1)⟩, ⟨by (with_reducible repeat (first | refine blk_drewN ?_ _ | refine blk_drew ?_ | refine blk_alloc ?_ _)); refine blk_put (cs := #[.int .i64 ((rd_T40 l1 x66_3).f0), .int .i64 x252001_3]) ?_ 1 _ rfl; (with_reducible repeat (first | refine blk_drewN ?_ _ | refine blk_drew ?_ | refine blk_alloc ?_ _)); refine blk_put (cs := #[.int .i64 x252000_3, .int .i64 x252001_3]) ?_ 0 _ rfl; (with_reducible repeat (first | refine blk_drewN ?_ _ | refine blk_drew ?_ | refine blk_alloc ?_ _)); refine blk_far ?_ NB251_253.out _; (with_reducible repeat (first | refine blk_drewN ?_ _ | refine blk_drew ?_ | refine blk_alloc ?_ _)); refine blk_far ?_ NB251_253.out _; (with_reducible repeat (first | refine blk_drewN ?_ _ | refine blk_drew ?_ | refine blk_alloc ?_ _)); exact BK251.out⟩, ⟨by repeat (first | (with_reducible first | exact HB.out | apply below_alloc | apply pw_below_drewN | apply below_drew1 | refine below_set ?_ GE251.out | refine below_set ?_ GE253.out) | exact HB.out)⟩⟩
                    rw [if_neg c86] at H
                    have c86b0 : decide (x252001_3 < ((rd_T40 l1 x66_3).f1)) = false := decide_eq_false c86
                    clear c86
                    have H' := Aside0.mk H
                    clear H
                    have p252 : 0 ≤ (x66_3 : Int) := of_decide_eq_true (by first | (with_reducible assumption) | assumption)
                    have q252 : x66_3 < (l1.length : Int) := of_decide_eq_true (by first | (with_reducible assumption) | assumption)
                    obtain ⟨ad252, e252, hx252_0, hx252_1⟩ := at_T40 HR1.out x66_3 p252 q252
                    cases e252
                    replace hx252_0 := (HB.out.cell (World.block_lt_of_cell? w _ hx252_0)).trans hx252_0
                    replace hx252_1 := (HB.out.cell (World.block_lt_of_cell? w _ hx252_1)).trans hx252_1
                    replace p252 := eq_true p252
                    replace q252 := eq_true q252
                    go_wp2_with (first | ((with_reducible refine gate_dst (N := 14) rfl ?_); refine box_event ?hg (N := 14) ?hd (cs := #[.int .i64 0, .int .i64 0]) (t := 40) ?hr ?_; (case hd => rfl); (case hg => rfl); (case hr => first | (go_simp; done) | (go_simp; rfl)); intro gb253 hg w91 hbox hb; have n0_ := Aside0.mk (Kd.R_below (Kd.R_elderB (by (with_reducible repeat (first | apply Kd.R_alloc | apply Kd.R_drewN | apply Kd.R_drew)); exact HO_5.out) gb253 (Nat.le_of_eq hg.symm)) hb); have n1_ := Aside0.mk (blk_below (g := gb251) (o := .cells #[.int .i64 x252000_3, .int .i64 x252001_3] 40 (0, 0)) (by (with_reducible repeat (first | refine blk_drewN ?_ _ | refine blk_drew ?_ | refine blk_alloc ?_ _)); exact BK251.out) hb); have n2_ := Aside0.mk (below_step (by repeat (first | (with_reducible first | exact HB.out | apply below_alloc | apply pw_below_drewN | apply below_drew1 | refine below_set ?_ GE251.out) | exact HB.out)) hb); have n3_ := Aside0.mk (hbox); have n4_ := Aside0.mk ((by rw [hg]; exact (below_size (by repeat (first | (with_reducible first | exact HB.out | apply below_alloc | apply pw_below_drewN | apply below_drew1 | refine below_set ?_ GE251.out) | exact HB.out))) : w.heap.size ≤ gb253)); have n5_ := Aside0.mk ((by rw [hg]; exact (below_size (by repeat (first | (with_reducible first | exact HB.out | apply below_alloc | apply pw_below_drewN | apply below_drew1 | refine below_set ?_ GE251.out) | exact HB.out))) : w.heap.size ≤ gb253)); have n6_ := Aside0.mk ((by rw [hg]; exact Nat.ne_of_lt (blk_lt (g := gb251) (o := .cells #[.int .i64 x252000_3, .int .i64 x252001_3] 40 (0, 0)) (by (with_reducible repeat (first | refine blk_drewN ?_ _ | refine blk_drew ?_ | refine blk_alloc ?_ _)); exact BK251.out)) : gb251 ≠ gb253)); have n7_ := Aside0.mk ((by rw [hg]; exact Nat.ne_of_gt (blk_lt (g := gb251) (o := .cells #[.int .i64 x252000_3, .int .i64 x252001_3] 40 (0, 0)) (by (with_reducible repeat (first | refine blk_drewN ?_ _ | refine blk_drew ?_ | refine blk_alloc ?_ _)); exact BK251.out)) : gb253 ≠ gb251)); clear HO_5; clear BK251; clear HB; have HO_5 := n0_; have BK251 := n1_; have HB := n2_; have BK253 := n3_; have GW253 := n4_; have GE253 := n5_; have NB251_253 := n6_; have NB253_251 := n7_; clear n0_ n1_ n2_ n3_ n4_ n5_ n6_ n7_; clear hb hbox hg; have hnb92 := NB253_251.out; have hnc92 := NB251_253.out; have hcz93_0 : w91.cell? ⟨gb253, 0, none⟩ = some (.int .i64 0) := (blk_cell BK253.out 0).trans rfl; have hcz93_1 : w91.cell? ⟨gb253, 1, none⟩ = some (.int .i64 0) := (blk_cell BK253.out 1).trans rfl; have hfz93_0 := blk_frozen BK253.out 0; have hfz93_1 := blk_frozen BK253.out 1; have hcz94_0 : w91.cell? ⟨gb251, 0, none⟩ = some (.int .i64 x252000_3) := (blk_cell BK251.out 0).trans rfl; have hcz94_1 : w91.cell? ⟨gb251, 1, none⟩ = some (.int .i64 x252001_3) := (blk_cell BK251.out 1).trans rfl; have hfz94_0 := blk_frozen BK251.out 0; have hfz94_1 := blk_frozen BK251.out 1))
                    go_roundg k3
                    case measure => have := HK1.out; have := HK2.out; have := HK3.out; omega
                    case rel => exact ⟨(wrap64 (x66_3 + 1)), (x252000_3), (x252001_3), (by first | rfl | (simp; done) | (simp [*]; done)), H', ⟨by have := HK1.out; have := HK2.out; have := HK3.out; omega⟩, ⟨by (with_reducible repeat (first | apply Kd.R_alloc | apply Kd.R_drewN | apply Kd.R_drew)); exact Kd.R_mono (Kd.R_far (p := ⟨gb253, 1, none⟩) (Kd.R_far (p := ⟨gb253, 0, none⟩) (Kd.R_mono HO_5.out (fun k_ hk => (⟨hk, hk.2⟩ : _ ∧ k_ ≠ gb253))) (fun _ hk => hk.2) (.int .i64 ((rd_T40 l1 x66_3).f0))) (fun _ hk => hk.2) (.int .i64 ((rd_T40 l1 x66_3).f1))) (fun _ hk => hk.1.1)⟩, ⟨by (with_reducible repeat (first | refine blk_drewN ?_ _ | refine blk_drew ?_ | refine blk_alloc ?_ _)); refine blk_far ?_ NB251_253.out _; (with_reducible repeat (first | refine blk_drewN ?_ _ | refine blk_drew ?_ | refine blk_alloc ?_ _)); refine blk_far ?_ NB251_253.out _; (with_reducible repeat (first | refine blk_drewN ?_ _ | refine blk_drew ?_ | refine blk_alloc ?_ _)); exact BK251.out⟩, ⟨by repeat (first | (with_reducible first | exact HB.out | apply below_alloc | apply pw_below_drewN | apply below_drew1 | refine below_set ?_ GE251.out | refine below_set ?_ GE253.out) | exact HB.out)⟩⟩
                   rw [if_neg c85] at H
                   have c85b0 : (((rd_T40 l1 x66_3).f0) == x252000_3) = false := beq_eq_false_iff_ne.mpr c85
                   have c85b1 : (((rd_T40 l1 x66_3).f0) != x252000_3) = true := bne_iff_ne.mpr c85
                   have H' := Aside0.mk H
                   clear H
                   have p252 : 0 ≤ (x66_3 : Int) := of_decide_eq_true (by first | (with_reducible assumption) | assumption)
                   have q252 : x66_3 < (l1.length : Int) := of_decide_eq_true (by first | (with_reducible assumption) | assumption)
                   obtain ⟨ad252, e252, hx252_0, hx252_1⟩ := at_T40 HR1.out x66_3 p252 q252
                   cases e252
                   replace hx252_0 := (HB.out.cell (World.block_lt_of_cell? w _ hx252_0)).trans hx252_0
                   replace hx252_1 := (HB.out.cell (World.block_lt_of_cell? w _ hx252_1)).trans hx252_1
                   replace p252 := eq_true p252
                   replace q252 := eq_true q252
                   go_wp2_with (first | ((with_reducible refine gate_dst (N := 14) rfl ?_); refine box_event ?hg (N := 14) ?hd (cs := #[.int .i64 0, .int .i64 0]) (t := 40) ?hr ?_; (case hd => rfl); (case hg => rfl); (case hr => first | (go_simp; done) | (go_simp; rfl)); intro gb253 hg w95 hbox hb; have n0_ := Aside0.mk (Kd.R_below (Kd.R_elderB (by (with_reducible repeat (first | apply Kd.R_alloc | apply Kd.R_drewN | apply Kd.R_drew)); exact HO_5.out) gb253 (Nat.le_of_eq hg.symm)) hb); have n1_ := Aside0.mk (blk_below (g := gb251) (o := .cells #[.int .i64 x252000_3, .int .i64 x252001_3] 40 (0, 0)) (by (with_reducible repeat (first | refine blk_drewN ?_ _ | refine blk_drew ?_ | refine blk_alloc ?_ _)); exact BK251.out) hb); have n2_ := Aside0.mk (below_step (by repeat (first | (with_reducible first | exact HB.out | apply below_alloc | apply pw_below_drewN | apply below_drew1 | refine below_set ?_ GE251.out) | exact HB.out)) hb); have n3_ := Aside0.mk (hbox); have n4_ := Aside0.mk ((by rw [hg]; exact (below_size (by repeat (first | (with_reducible first | exact HB.out | apply below_alloc | apply pw_below_drewN | apply below_drew1 | refine below_set ?_ GE251.out) | exact HB.out))) : w.heap.size ≤ gb253)); have n5_ := Aside0.mk ((by rw [hg]; exact (below_size (by repeat (first | (with_reducible first | exact HB.out | apply below_alloc | apply pw_below_drewN | apply below_drew1 | refine below_set ?_ GE251.out) | exact HB.out))) : w.heap.size ≤ gb253)); have n6_ := Aside0.mk ((by rw [hg]; exact Nat.ne_of_lt (blk_lt (g := gb251) (o := .cells #[.int .i64 x252000_3, .int .i64 x252001_3] 40 (0, 0)) (by (with_reducible repeat (first | refine blk_drewN ?_ _ | refine blk_drew ?_ | refine blk_alloc ?_ _)); exact BK251.out)) : gb251 ≠ gb253)); have n7_ := Aside0.mk ((by rw [hg]; exact Nat.ne_of_gt (blk_lt (g := gb251) (o := .cells #[.int .i64 x252000_3, .int .i64 x252001_3] 40 (0, 0)) (by (with_reducible repeat (first | refine blk_drewN ?_ _ | refine blk_drew ?_ | refine blk_alloc ?_ _)); exact BK251.out)) : gb253 ≠ gb251)); clear HO_5; clear BK251; clear HB; have HO_5 := n0_; have BK251 := n1_; have HB := n2_; have BK253 := n3_; have GW253 := n4_; have GE253 := n5_; have NB251_253 := n6_; have NB253_251 := n7_; clear n0_ n1_ n2_ n3_ n4_ n5_ n6_ n7_; clear hb hbox hg; have hnb96 := NB253_251.out; have hnc96 := NB251_253.out; have hcz97_0 : w95.cell? ⟨gb253, 0, none⟩ = some (.int .i64 0) := (blk_cell BK253.out 0).trans rfl; have hcz97_1 : w95.cell? ⟨gb253, 1, none⟩ = some (.int .i64 0) := (blk_cell BK253.out 1).trans rfl; have hfz97_0 := blk_frozen BK253.out 0; have hfz97_1 := blk_frozen BK253.out 1; have hcz98_0 : w95.cell? ⟨gb251, 0, none⟩ = some (.int .i64 x252000_3) := (blk_cell BK251.out 0).trans rfl; have hcz98_1 : w95.cell? ⟨gb251, 1, none⟩ = some (.int .i64 x252001_3) := (blk_cell BK251.out 1).trans rfl; have hfz98_0 := blk_frozen BK251.out 0; have hfz98_1 := blk_frozen BK251.out 1))
                   go_roundg k3
                   case measure => have := HK1.out; have := HK2.out; have := HK3.out; omega
                   case rel => exact ⟨(wrap64 (x66_3 + 1)), (x252000_3), (x252001_3), (by first | rfl | (simp; done) | (simp [*]; done)), H', ⟨by have := HK1.out; have := HK2.out; have := HK3.out; omega⟩, ⟨by (with_reducible repeat (first | apply Kd.R_alloc | apply Kd.R_drewN | apply Kd.R_drew)); exact Kd.R_mono (Kd.R_far (p := ⟨gb253, 1, none⟩) (Kd.R_far (p := ⟨gb253, 0, none⟩) (Kd.R_mono HO_5.out (fun k_ hk => (⟨hk, hk.2⟩ : _ ∧ k_ ≠ gb253))) (fun _ hk => hk.2) (.int .i64 ((rd_T40 l1 x66_3).f0))) (fun _ hk => hk.2) (.int .i64 ((rd_T40 l1 x66_3).f1))) (fun _ hk => hk.1.1)⟩, ⟨by (with_reducible repeat (first | refine blk_drewN ?_ _ | refine blk_drew ?_ | refine blk_alloc ?_ _)); refine blk_far ?_ NB251_253.out _; (with_reducible repeat (first | refine blk_drewN ?_ _ | refine blk_drew ?_ | refine blk_alloc ?_ _)); refine blk_far ?_ NB251_253.out _; (with_reducible repeat (first | refine blk_drewN ?_ _ | refine blk_drew ?_ | refine blk_alloc ?_ _)); exact BK251.out⟩, ⟨by repeat (first | (with_reducible first | exact HB.out | apply below_alloc | apply pw_below_drewN | apply below_drew1 | refine below_set ?_ GE251.out | refine below_set ?_ GE253.out) | exact HB.out)⟩⟩
                  rw [if_neg c74] at H
                  have c74b0 : decide (x11_2 ≤ ((rd_T40 l1 x66_3).f0)) = false := decide_eq_false c74
                  clear c74
                  have H' := Aside0.mk H
                  clear H
                  have p252 : 0 ≤ (x66_3 : Int) := of_decide_eq_true (by first | (with_reducible assumption) | assumption)
                  have q252 : x66_3 < (l1.length : Int) := of_decide_eq_true (by first | (with_reducible assumption) | assumption)
                  obtain ⟨ad252, e252, hx252_0, hx252_1⟩ := at_T40 HR1.out x66_3 p252 q252
                  cases e252
                  replace hx252_0 := (HB.out.cell (World.block_lt_of_cell? w _ hx252_0)).trans hx252_0
                  replace hx252_1 := (HB.out.cell (World.block_lt_of_cell? w _ hx252_1)).trans hx252_1
                  replace p252 := eq_true p252
                  replace q252 := eq_true q252
                  go_wp2_with (first | ((with_reducible refine gate_dst (N := 14) rfl ?_); refine box_event ?hg (N := 14) ?hd (cs := #[.int .i64 0, .int .i64 0]) (t := 40) ?hr ?_; (case hd => rfl); (case hg => rfl); (case hr => first | (go_simp; done) | (go_simp; rfl)); intro gb253 hg w99 hbox hb; have n0_ := Aside0.mk (Kd.R_below (Kd.R_elderB (by (with_reducible repeat (first | apply Kd.R_alloc | apply Kd.R_drewN | apply Kd.R_drew)); exact HO_5.out) gb253 (Nat.le_of_eq hg.symm)) hb); have n1_ := Aside0.mk (blk_below (g := gb251) (o := .cells #[.int .i64 x252000_3, .int .i64 x252001_3] 40 (0, 0)) (by (with_reducible repeat (first | refine blk_drewN ?_ _ | refine blk_drew ?_ | refine blk_alloc ?_ _)); exact BK251.out) hb); have n2_ := Aside0.mk (below_step (by repeat (first | (with_reducible first | exact HB.out | apply below_alloc | apply pw_below_drewN | apply below_drew1 | refine below_set ?_ GE251.out) | exact HB.out)) hb); have n3_ := Aside0.mk (hbox); have n4_ := Aside0.mk ((by rw [hg]; exact (below_size (by repeat (first | (with_reducible first | exact HB.out | apply below_alloc | apply pw_below_drewN | apply below_drew1 | refine below_set ?_ GE251.out) | exact HB.out))) : w.heap.size ≤ gb253)); have n5_ := Aside0.mk ((by rw [hg]; exact (below_size (by repeat (first | (with_reducible first | exact HB.out | apply below_alloc | apply pw_below_drewN | apply below_drew1 | refine below_set ?_ GE251.out) | exact HB.out))) : w.heap.size ≤ gb253)); have n6_ := Aside0.mk ((by rw [hg]; exact Nat.ne_of_lt (blk_lt (g := gb251) (o := .cells #[.int .i64 x252000_3, .int .i64 x252001_3] 40 (0, 0)) (by (with_reducible repeat (first | refine blk_drewN ?_ _ | refine blk_drew ?_ | refine blk_alloc ?_ _)); exact BK251.out)) : gb251 ≠ gb253)); have n7_ := Aside0.mk ((by rw [hg]; exact Nat.ne_of_gt (blk_lt (g := gb251) (o := .cells #[.int .i64 x252000_3, .int .i64 x252001_3] 40 (0, 0)) (by (with_reducible repeat (first | refine blk_drewN ?_ _ | refine blk_drew ?_ | refine blk_alloc ?_ _)); exact BK251.out)) : gb253 ≠ gb251)); clear HO_5; clear BK251; clear HB; have HO_5 := n0_; have BK251 := n1_; have HB := n2_; have BK253 := n3_; have GW253 := n4_; have GE253 := n5_; have NB251_253 := n6_; have NB253_251 := n7_; clear n0_ n1_ n2_ n3_ n4_ n5_ n6_ n7_; clear hb hbox hg; have hnb100 := NB253_251.out; have hnc100 := NB251_253.out; have hcz101_0 : w99.cell? ⟨gb253, 0, none⟩ = some (.int .i64 0) := (blk_cell BK253.out 0).trans rfl; have hcz101_1 : w99.cell? ⟨gb253, 1, none⟩ = some (.int .i64 0) := (blk_cell BK253.out 1).trans rfl; have hfz101_0 := blk_frozen BK253.out 0; have hfz101_1 := blk_frozen BK253.out 1))
                  go_roundg k3
                  case measure => have := HK1.out; have := HK2.out; have := HK3.out; omega
                  case rel => exact ⟨(wrap64 (x66_3 + 1)), (x252000_3), (x252001_3), (by first | rfl | (simp; done) | (simp [*]; done)), H', ⟨by have := HK1.out; have := HK2.out; have := HK3.out; omega⟩, ⟨by (with_reducible repeat (first | apply Kd.R_alloc | apply Kd.R_drewN | apply Kd.R_drew)); exact Kd.R_mono (Kd.R_far (p := ⟨gb253, 1, none⟩) (Kd.R_far (p := ⟨gb253, 0, none⟩) (Kd.R_mono HO_5.out (fun k_ hk => (⟨hk, hk.2⟩ : _ ∧ k_ ≠ gb253))) (fun _ hk => hk.2) (.int .i64 ((rd_T40 l1 x66_3).f0))) (fun _ hk => hk.2) (.int .i64 ((rd_T40 l1 x66_3).f1))) (fun _ hk => hk.1.1)⟩, ⟨by (with_reducible repeat (first | refine blk_drewN ?_ _ | refine blk_drew ?_ | refine blk_alloc ?_ _)); refine blk_far ?_ NB251_253.out _; (with_reducible repeat (first | refine blk_drewN ?_ _ | refine blk_drew ?_ | refine blk_alloc ?_ _)); refine blk_far ?_ NB251_253.out _; (with_reducible repeat (first | refine blk_drewN ?_ _ | refine blk_drew ?_ | refine blk_alloc ?_ _)); exact BK251.out⟩, ⟨by repeat (first | (with_reducible first | exact HB.out | apply below_alloc | apply pw_below_drewN | apply below_drew1 | refine below_set ?_ GE251.out | refine below_set ?_ GE253.out) | exact HB.out)⟩⟩
                 rw [if_neg c73] at H
                 exact absurd H (by simp)
                rw [if_neg c72] at H
                exact absurd H (by simp)
               rw [if_neg c71] at H
               have c71b0 : decide (x66_3 < (l1.length : Int)) = false := decide_eq_false c71
               clear c71
               by_cases c102 : x252000_3 = (-1)
               ·rw [if_pos c102] at H
                have c102b0 : (x252000_3 == (-1)) = true := beq_iff_eq.mpr c102
                have c102b1 : (x252000_3 != (-1)) = false := bne_eq_false_iff_eq.mpr c102
                clear c102
                obtain rfl := Option.some.inj H
                have hcz103_0 : wr.cell? ⟨gb251, 0, none⟩ = some (.int .i64 x252000_3) := (blk_cell BK251.out 0).trans rfl
                have hcz103_1 : wr.cell? ⟨gb251, 1, none⟩ = some (.int .i64 x252001_3) := (blk_cell BK251.out 1).trans rfl
                have hfz103_0 := blk_frozen BK251.out 0
                have hfz103_1 := blk_frozen BK251.out 1
                go_wp2
                go_ret
                exact ⟨_, by first | rfl | (simp [errW_none, errW_some] <;> rfl) | (simp [*, errW_none, errW_some] <;> rfl), by (with_reducible repeat (first | apply Kd.R_alloc | apply Kd.R_drewN | apply Kd.R_drew)); exact Kd.R_mono HO_5.out (fun _ hk => trivial), by repeat (first | (with_reducible first | exact HB.out | apply below_alloc | apply pw_below_drewN | apply below_drew1 | refine below_set ?_ GE251.out) | exact HB.out)⟩
               rw [if_neg c102] at H
               have c102b0 : (x252000_3 == (-1)) = false := beq_eq_false_iff_ne.mpr c102
               have c102b1 : (x252000_3 != (-1)) = true := bne_iff_ne.mpr c102
               by_cases c104 : x5_2.length < 8796093022208
               ·rw [if_pos c104] at H
                have LMc104 := Aside0.mk c104
                clear c104
                obtain ⟨y254, hy254⟩ : ∃ y_ : List (S40), y_ = (x5_2 ++ [(⟨x252000_3, x252001_3⟩ : S40)]) := ⟨_, rfl⟩
                replace H : (corporaref27_Chosen.l2 k3 l1 y254 x252001_3) = some r := by first | (rw [hy254]; with_reducible exact H) | (have H2_ := (Option.bind_some _ _).symm.trans H; rw [hy254]; with_reducible exact H2_) | (have H2_ := (Option.bind_some _ _).symm.trans H; with_reducible exact H2_) | with_reducible exact H | (rw [hy254]; exact H) | exact H
                have Ny254 := Aside0.mk hy254
                clear hy254
                have H' := Aside0.mk H
                clear H
                have hcz105_0 : wr.cell? ⟨gb251, 0, none⟩ = some (.int .i64 x252000_3) := (blk_cell BK251.out 0).trans rfl
                have hcz105_1 : wr.cell? ⟨gb251, 1, none⟩ = some (.int .i64 x252001_3) := (blk_cell BK251.out 1).trans rfl
                have hfz105_0 := blk_frozen BK251.out 0
                have hfz105_1 := blk_frozen BK251.out 1
                try go_wp2
                have n0_ := Aside0.mk (Kd.R_drew HO_5.out)
                have n1_ := Aside0.mk (blk_drew BK251.out)
                have n2_ := Aside0.mk (below_drew1 HB.out)
                clear HO_5
                clear BK251
                clear HB
                have HO_5 := n0_
                have BK251 := n1_
                have HB := n2_
                clear n0_ n1_ n2_
                refine start_ (n := 8) (S := fun w' => w'.cell? ⟨gb251, 0, none⟩ = some (.int .i64 x252000_3) ∧ w'.cell? ⟨gb251, 1, none⟩ = some (.int .i64 x252001_3)) (ds := []) #[false, false, false, false, false, false, false, false] (by kernel_rfl) rfl rfl ⟨(blk_cell BK251.out 0).trans rfl, (blk_cell BK251.out 1).trans rfl⟩ (fun hHeld => ?_); refine with_tabW corporaref27_Chosen.tab25 corporaref27_Chosen.bits25 (fun HT_ HW_ => ?_)
                generalize wr.drew = w106 at HO_5 BK251 HB hHeld ⊢
                refine pure_ (i := 0) (N := some 105) (v := ?_) (a' := ?_) #[true, false, false, false, false, false, false, false] rfl rfl (any_of HT_.out (by kernel_rfl)) (fun _ _ _ h => h) (Or.inl ⟨by rfl, ?_⟩) ?_ ?_
                rotate_left
                ·intro w'
                 go_simp
                 with_reducible rfl
                rotate_left
                ·simp only [Act.put, List.setIfInBounds_toArray, List.set_cons_zero, List.set_cons_succ, i64_w, i32_w]
                 rfl
                refine pure_ (i := 4) (N := some 109) (v := ?_) (a' := ?_) #[true, false, false, false, true, false, false, false] rfl rfl (any_of HT_.out (by kernel_rfl)) (fun _ _ _ h => h) (Or.inl ⟨by rfl, ?_⟩) ?_ ?_
                rotate_left
                ·intro w'
                 go_simp
                 with_reducible rfl
                rotate_left
                ·simp only [Act.put, List.setIfInBounds_toArray, List.set_cons_zero, List.set_cons_succ, i64_w, i32_w]
                 rfl
                refine take_ (i := 1) (N := some 106) (v := ?_) (a' := ?_) #[true, true, false, false, true, false, false, false] rfl rfl (take_ofW HT_.out HW_.out (by kernel_rfl)) (fun _ _ _ h => h) (Or.inl ⟨by rfl, ?_⟩) hHeld ?_ ?_
                rotate_left
                ·rintro w' ⟨s0, s1⟩
                 go_simp
                 with_reducible rfl
                rotate_left
                ·simp only [Act.put, List.setIfInBounds_toArray, List.set_cons_zero, List.set_cons_succ, i64_w, i32_w]
                 rfl
                refine take_ (i := 5) (N := some 110) (v := ?_) (a' := ?_) #[true, true, false, false, true, true, false, false] rfl rfl (take_ofW HT_.out HW_.out (by kernel_rfl)) (fun _ _ _ h => h) (Or.inl ⟨by rfl, ?_⟩) hHeld ?_ ?_
                rotate_left
                ·rintro w' ⟨s0, s1⟩
                 go_simp
                 with_reducible rfl
                rotate_left
                ·simp only [Act.put, List.setIfInBounds_toArray, List.set_cons_zero, List.set_cons_succ, i64_w, i32_w]
                 rfl
                refine one_ (i := 2) (N := some 107) #[true, true, true, false, true, true, false, false] rfl rfl (one_of HT_.out (by kernel_rfl)) (by decide) (fun K hK => ?_)
                refine value_ (w1 := ?_) (v := ?_) (by rfl) rfl ?_ ?_
                rotate_left 2
                ·go_simp
                 constructor
                 ·rfl
                 rfl
                refine hK.out _ _ ⟨(blk_cell (blk_alloc BK251.out _) 0).trans rfl, (blk_cell (blk_alloc BK251.out _) 1).trans rfl⟩ (fun hHeld => ?_)
                clear hK K
                refine norm_ (a' := ?_) ?_ ?_
                rotate_left
                ·show Act.put _ (some 107) _ = _
                 simp only [Act.put, List.setIfInBounds_toArray, List.set_cons_zero, List.set_cons_succ, i64_w, i32_w]
                 rfl
                refine one_ (i := 3) (N := some 108) #[true, true, true, true, true, true, false, false] rfl rfl (one_of HT_.out (by kernel_rfl)) (by decide) (fun K hK => ?_)
                refine Kd.R_append_step k40 (w0 := w) w.heap.size (by rfl) (.tmp 105) (.tmp 107) 31 40 (.agg #[(.int .i64 0), (.int .i64 0)]) 16 rfl Try.underlying31 info40 rfl (by decide) (by omega) u5 x5_2 (⟨x252000_3, x252001_3⟩ : S40) [.int .i64 x252000_3, .int .i64 x252001_3] (fun k_ => k_ ≠ gb251) (fun _ => False) rfl rfl ?aP (fun _ hk => hk.elim) ?aF ?aO ?aB ?aS ?aL ?_
                (case aP => exact k40_mkM _ _ _ (⟨x252000_3, x252001_3⟩ : S40))
                (case aB => exact (by repeat (first | (with_reducible first | exact HB.out | apply below_alloc | apply pw_below_drewN | apply below_drew1 | refine below_set ?_ GE251.out) | exact HB.out)))
                (case aF => exact (fun k_ hk => Kd.freshB (g := gb251) (o := .cells #[.int .i64 x252000_3, .int .i64 x252001_3] 40 (0, 0)) (by (with_reducible repeat (first | refine blk_drewN ?_ _ | refine blk_drew ?_ | refine blk_alloc ?_ _)); exact BK251.out) k_ hk))
                (case aO => exact (by (with_reducible repeat (first | apply Kd.R_alloc | apply Kd.R_drewN | apply Kd.R_drew)); exact HO_5.out))
                (case aS => exact (below_size (by repeat (first | (with_reducible first | exact HB.out | apply below_alloc | apply pw_below_drewN | apply below_drew1 | refine below_set ?_ GE251.out) | exact HB.out))))
                (case aL => have := LMc104.out; omega)
                intro v255 w107 ho hb hg hat
                rw [← Ny254.out] at ho
                have n0_ := Aside0.mk (blk_grown (g := gb251) (o := .cells #[.int .i64 x252000_3, .int .i64 x252001_3] 40 (0, 0)) (by (with_reducible repeat (first | refine blk_drewN ?_ _ | refine blk_drew ?_ | refine blk_alloc ?_ _)); exact BK251.out) hg (Kd.R_away HO_5.out (fun _ hk => hk)))
                have n1_ := Aside0.mk (hb)
                have n2_ := Aside0.mk (ho)
                clear BK251
                clear HB
                clear HO_5
                have BK251 := n0_
                have HB := n1_
                have HO256 := n2_
                clear n0_ n1_ n2_
                clear ho hb hg hat
                refine hK.out _ _ ⟨(blk_cell BK251.out 0).trans rfl, (blk_cell BK251.out 1).trans rfl⟩ (fun hHeld => ?_)
                clear hK K
                refine norm_ (a' := ?_) ?_ ?_
                rotate_left
                ·show Act.put _ (some 108) _ = _
                 simp only [Act.put, List.setIfInBounds_toArray, List.set_cons_zero, List.set_cons_succ, i64_w, i32_w]
                 rfl
                refine pure_ (i := 6) (N := some 5) (v := ?_) (a' := ?_) #[true, true, true, true, true, true, true, false] rfl rfl (any_of HT_.out (by kernel_rfl)) (fun _ _ _ h => h) (Or.inl ⟨by rfl, ?_⟩) ?_ ?_
                rotate_left
                ·intro w'
                 go_simp
                 with_reducible rfl
                rotate_left
                ·simp only [Act.put, List.setIfInBounds_toArray, List.set_cons_zero, List.set_cons_succ, i64_w, i32_w]
                 rfl
                refine pure_ (i := 7) (N := some 11) (v := ?_) (a' := ?_) #[true, true, true, true, true, true, true, true] rfl rfl (any_of HT_.out (by kernel_rfl)) (fun _ _ _ h => h) (Or.inl ⟨by rfl, ?_⟩) ?_ ?_
                rotate_left
                ·intro w'
                 go_simp
                 with_reducible rfl
                rotate_left
                ·simp only [Act.put, List.setIfInBounds_toArray, List.set_cons_zero, List.set_cons_succ, i64_w, i32_w]
                 rfl
                refine done_ (done_of HT_.out (by kernel_rfl)) ?_
                try go_wp2
                go_roundg k3
                case measure => have := HK1.out; have := HK2.out; have := HK3.out; omega
                case rel => exact ⟨(y254), (x252001_3), (by first | rfl | (simp; done) | (simp [*]; done)), H', ⟨by have := HK1.out; have := HK2.out; have := HK3.out; omega⟩, ⟨by (with_reducible repeat (first | apply Kd.R_alloc | apply Kd.R_drewN | apply Kd.R_drew)); exact Kd.R_mono HO256.out (fun _ hk => trivial)⟩, ⟨by repeat (first | (with_reducible first | exact HB.out | apply below_alloc | apply pw_below_drewN | apply below_drew1 | refine below_set ?_ GE251.out) | exact HB.out)⟩⟩
               rw [if_neg c104] at H
               exact absurd H (by simp)
      rw [if_neg c68] at H
      have c68b0 : (a0 == 3) = false := beq_eq_false_iff_ne.mpr c68
      have c68b1 : (a0 != 3) = true := bne_iff_ne.mpr c68
      obtain rfl := Option.some.inj H
      go_wp2
      go_ret
      exact ⟨_, by first | rfl | (simp [errW_none, errW_some] <;> rfl) | (simp [*, errW_none, errW_some] <;> rfl), by (with_reducible repeat (first | apply Kd.R_alloc | apply Kd.R_drewN | apply Kd.R_drew)); exact HO_5.out, by repeat (first | (with_reducible first | exact HB.out | apply below_alloc | apply pw_below_drewN | apply below_drew1) | exact HB.out)⟩

end Go.Proofs.Ytmmdlkeemafanaa.Q
