import Derived.Test.YtmmdlkeemafanaaQx0
import Derived.Test.YtmmdlkeemafanaaQx1
namespace Go.Proofs.Ytmmdlkeemafanaa.Q
open Go.RowKit Go.Proofs.YtmmdlkeemafanaaW.PrintWords Go.Proofs.YtmmdlkeemafanaaW.PrintLast Go.Proofs.YtmmdlkeemafanaaW.PrintMore
attribute [local go_sem] max2_int min2_int max_two min_two max_three min_three max_four min_four   -- for this text's walks alone
set_option linter.unusedVariables false
set_option linter.unusedSimpArgs false

attribute [local go_sem high] eqA40

/-! ### strategy_spans_longest: function 26 -/
mutual
def strategy_spans_longest.l0 : Nat → List (S40) → List (S40) → Int → List (S40) → Int → Int → Option ((List (S40)))
  | 0, _, _, _, _, _, _ => none
  | k + 1, x0, x3, x4, x7, x8, x9 => if x9 < x8 then (if 0 ≤ x9 then (if x9 < (x7.length : Int) then (if (wrap64 (x9 + 1)) < (x0.length : Int) then (if 0 ≤ (wrap64 (x9 + 1)) then (strategy_spans_longest.j1 k x0 x3 x4 x7 x8 x9 (((rd_T40 x0 (wrap64 (x9 + 1))).f0) == ((rd_T40 x7 x9).f0)) ((rd_T40 x7 x9).f0) ((rd_T40 x7 x9).f1)) else (none)) else (strategy_spans_longest.j1 k x0 x3 x4 x7 x8 x9 false ((rd_T40 x7 x9).f0) ((rd_T40 x7 x9).f1))) else (none)) else (none)) else (some x3)
def strategy_spans_longest.j1 : Nat → List (S40) → List (S40) → Int → List (S40) → Int → Int → Bool → Int → Int → Option ((List (S40)))
  | 0, _, _, _, _, _, _, _, _, _ => none
  | k + 1, x0, x3, x4, x7, x8, x9, x29, x165000, x165001 => if x29 = true then (strategy_spans_longest.l0 k x0 x3 x4 x7 x8 (wrap64 (x9 + 1))) else (if x165001 > x4 then (if x3.length < 8796093022208 then (strategy_spans_longest.l0 k x0 (x3 ++ [(⟨x165000, x165001⟩ : S40)]) x165001 x7 x8 (wrap64 (x9 + 1))) else (none)) else (strategy_spans_longest.l0 k x0 x3 x4 x7 x8 (wrap64 (x9 + 1))))
end
def strategy_spans_longest.f (k : Nat) (l0 : List (S40)) : Option ((List (S40))) := strategy_spans_longest.l0 k l0 ([] : List (S40)) (-1) l0 (l0.length : Int) 0
theorem strategy_spans_longest.mono_l : ∀ k, (∀ y0 y1 y2 y3 y4 y5, LeO (strategy_spans_longest.l0 k y0 y1 y2 y3 y4 y5) (strategy_spans_longest.l0 (k + 1) y0 y1 y2 y3 y4 y5)) ∧ (∀ y0 y1 y2 y3 y4 y5 y6 y7 y8, LeO (strategy_spans_longest.j1 k y0 y1 y2 y3 y4 y5 y6 y7 y8) (strategy_spans_longest.j1 (k + 1) y0 y1 y2 y3 y4 y5 y6 y7 y8))
  | 0 => ⟨fun _ _ _ _ _ _ r h => by simp [strategy_spans_longest.l0] at h, fun _ _ _ _ _ _ _ _ _ r h => by simp [strategy_spans_longest.j1] at h⟩
  | k + 1 => by
    obtain ⟨ih0, ih1⟩ := strategy_spans_longest.mono_l k
    refine ⟨?_, ?_⟩
    ·intro y0 y1 y2 y3 y4 y5
     unfold strategy_spans_longest.l0
     repeat' first
     | (with_reducible exact ih0 _ _ _ _ _ _)
     | (with_reducible exact ih1 _ _ _ _ _ _ _ _ _)
     | (with_reducible exact LeO.refl _)
     | (with_reducible exact LeO.none _)
     | (with_reducible refine LeO.ite ?_ ?_)
     | (with_reducible refine LeO.bind ?_ (fun _ => ?_))
     | exact ih0 _ _ _ _ _ _
     | exact ih1 _ _ _ _ _ _ _ _ _
     | exact LeO.none _
     | refine LeO.ite ?_ ?_
     | refine LeO.bind ?_ (fun _ => ?_)
    intro y0 y1 y2 y3 y4 y5 y6 y7 y8
    unfold strategy_spans_longest.j1
    repeat' first
    | (with_reducible exact ih0 _ _ _ _ _ _)
    | (with_reducible exact ih1 _ _ _ _ _ _ _ _ _)
    | (with_reducible exact LeO.refl _)
    | (with_reducible exact LeO.none _)
    | (with_reducible refine LeO.ite ?_ ?_)
    | (with_reducible refine LeO.bind ?_ (fun _ => ?_))
    | exact ih0 _ _ _ _ _ _
    | exact ih1 _ _ _ _ _ _ _ _ _
    | exact LeO.none _
    | refine LeO.ite ?_ ?_
    | refine LeO.bind ?_ (fun _ => ?_)
theorem strategy_spans_longest.mono : ∀ a0 k, LeO (strategy_spans_longest.f k a0) (strategy_spans_longest.f (k + 1) a0) := by
  intro a0 k
  obtain ⟨ih0, ih1⟩ := strategy_spans_longest.mono_l k
  unfold strategy_spans_longest.f
  repeat' first
      | (with_reducible exact ih0 _ _ _ _ _ _)
      | (with_reducible exact ih1 _ _ _ _ _ _ _ _ _)
      | (with_reducible exact LeO.refl _)
      | (with_reducible exact LeO.none _)
      | (with_reducible refine LeO.ite ?_ ?_)
      | (with_reducible refine LeO.bind ?_ (fun _ => ?_))
      | exact ih0 _ _ _ _ _ _
      | exact ih1 _ _ _ _ _ _ _ _ _
      | exact LeO.none _
      | refine LeO.ite ?_ ?_
      | refine LeO.bind ?_ (fun _ => ?_)
set_option maxHeartbeats 8000000 in
set_option maxRecDepth 100000 in
theorem strategy_spans_longest.calls (k : Nat) (A0 : Option Addr) (c0 : Nat) (l0 : List (S40)) (r : List (S40)) (w : World) (hr0 : Kd.C k40 w A0 l0.length l0) (hc0 : l0.length ≤ c0) (h : strategy_spans_longest.f k l0 = some r) :
    Calls Try.prog 26 #[.slice A0 l0.length c0] w fun e w' => ∃ v0_ : Value, e = .returned (v0_) ∧ Kd.R k40 40 w' w.heap.size (fun _ => True) v0_ r ∧ Below w.heap.size w w' := by
  have hu40 := Try.underlying40
  have HR0 := Aside0.mk hr0
  have HC0 := Aside0.mk hc0
  clear hr0 hc0
  have HB := Aside0.mk (Below.refl w.heap.size w)
  have H : (strategy_spans_longest.l0 k l0 ([] : List (S40)) (-1) l0 (l0.length : Int) 0) = some r := h
  clear h
  have H' := Aside0.mk H
  clear H
  go_enter Try.func26, Try.ntmps26
  go_wp2
  repeat (go_quiet (fail); try go_wp2)
  go_loopg [3, 4, 9] k (fun kq v3 v4 v9 w' => ∃ (x3_1 : List (S40)) (x4_1 : Int) (x9_1 : Int), v4 = .int .i64 x4_1 ∧ v9 = .int .i64 x9_1 ∧ Aside0 (strategy_spans_longest.l0 kq l0 x3_1 x4_1 l0 (l0.length : Int) x9_1 = some r) ∧ Aside0 (kq ≤ k) ∧ Aside0 (Kd.R k40 40 w' w.heap.size (fun _ => True) v3 x3_1) ∧ Aside0 (Below w.heap.size w w'))
  case atStart => exact ⟨(([] : List (S40))), ((-1)), (0), (by first | rfl | (simp; done) | (simp [*]; done)), (by first | rfl | (simp; done) | (simp [*]; done)), H', ⟨Nat.le_refl _⟩, ⟨by first | exact Kd.R_nil _ _ _ _ _ | exact Kd.N_nil _ _ _ _ _ | exact Kd.V_nil _ _ _ _ _ | exact Kd.Q_nil _ _ _ _ _ | exact Kd.S_nil _ _ _ _ _⟩, ⟨by repeat (first | (with_reducible first | exact HB.out | apply below_alloc | apply pw_below_drewN | apply below_drew1) | exact HB.out)⟩⟩
  case round =>
    clear H'
    obtain ⟨x3_1, x4_1, x9_1, rfl, rfl, HA, HK1, HO_3, HB⟩ := hrel
    cases gk with
    | zero => exact absurd HA.out (by simp [strategy_spans_longest.l0])
    | succ k1 =>
      have H := HA.out
      clear HA
      simp only [strategy_spans_longest.l0] at H
      by_cases c2 : x9_1 < (l0.length : Int)
      ·rw [if_pos c2] at H
       have c2b0 : decide (x9_1 < (l0.length : Int)) = true := decide_eq_true c2
       clear c2
       by_cases c3 : 0 ≤ x9_1
       ·rw [if_pos c3] at H
        have c3b0 : decide (0 ≤ x9_1) = true := decide_eq_true c3
        clear c3
        by_cases c4 : x9_1 < (l0.length : Int)
        ·rw [if_pos c4] at H
         have c4b0 : decide (x9_1 < (l0.length : Int)) = true := decide_eq_true c4
         clear c4
         have HC5 := Aside0.mk H
         clear H
         have p163 : 0 ≤ (x9_1 : Int) := of_decide_eq_true (by first | (with_reducible assumption) | assumption)
         have q163 : x9_1 < (l0.length : Int) := of_decide_eq_true (by first | (with_reducible assumption) | assumption)
         obtain ⟨ad163, e163, hx163_0, hx163_1⟩ := at_T40 HR0.out x9_1 p163 q163
         cases e163
         replace hx163_0 := (HB.out.cell (World.block_lt_of_cell? w _ hx163_0)).trans hx163_0
         replace hx163_1 := (HB.out.cell (World.block_lt_of_cell? w _ hx163_1)).trans hx163_1
         replace p163 := eq_true p163
         replace q163 := eq_true q163
         go_upto_region 6 with (first | ((with_reducible refine gate_dst (N := 6) rfl ?_); refine box_event ?hg (N := 6) ?hd (cs := #[.int .i64 0, .int .i64 0]) (t := 40) ?hr ?_; (case hd => rfl); (case hg => rfl); (case hr => first | (go_simp; done) | (go_simp; rfl)); intro gb164 hg w6 hbox hb; have n0_ := Aside0.mk (Kd.R_below (Kd.R_elderB (by (with_reducible repeat (first | apply Kd.R_alloc | apply Kd.R_drewN | apply Kd.R_drew)); exact HO_3.out) gb164 (Nat.le_of_eq hg.symm)) hb); have n1_ := Aside0.mk (below_step (by repeat (first | (with_reducible first | exact HB.out | apply below_alloc | apply pw_below_drewN | apply below_drew1) | exact HB.out)) hb); have n2_ := Aside0.mk (hbox); have n3_ := Aside0.mk ((by rw [hg]; exact (below_size (by repeat (first | (with_reducible first | exact HB.out | apply below_alloc | apply pw_below_drewN | apply below_drew1) | exact HB.out))) : w.heap.size ≤ gb164)); have n4_ := Aside0.mk ((by rw [hg]; exact (below_size (by repeat (first | (with_reducible first | exact HB.out | apply below_alloc | apply pw_below_drewN | apply below_drew1) | exact HB.out))) : w.heap.size ≤ gb164)); clear HO_3; clear HB; have HO_3 := n0_; have HB := n1_; have BK164 := n2_; have GW164 := n3_; have GE164 := n4_; clear n0_ n1_ n2_ n3_ n4_; clear hb hbox hg; have hcz7_0 : w6.cell? ⟨gb164, 0, none⟩ = some (.int .i64 0) := (blk_cell BK164.out 0).trans rfl; have hcz7_1 : w6.cell? ⟨gb164, 1, none⟩ = some (.int .i64 0) := (blk_cell BK164.out 1).trans rfl; have hfz7_0 := blk_frozen BK164.out 0; have hfz7_1 := blk_frozen BK164.out 1))
         repeat (go_quiet (fail); try go_wp2)
         (try simp only [Act.put, List.setIfInBounds_toArray, List.set_cons_zero, List.set_cons_succ])
         go_cut [29] (fun v29 wc => ∃ (kq : Nat) (x29_4 : Bool), v29 = .bool x29_4 ∧ Aside0 (strategy_spans_longest.j1 kq l0 x3_1 x4_1 l0 (l0.length : Int) x9_1 x29_4 ((rd_T40 l0 x9_1).f0) ((rd_T40 l0 x9_1).f1) = some r) ∧ Aside0 (kq ≤ k1) ∧ Aside0 (Kd.R k40 40 wc w.heap.size (fun k_ => k_ ≠ gb164) u3 x3_1) ∧ Aside0 (wc.heap[gb164]? = some (.cells #[.int .i64 ((rd_T40 l0 x9_1).f0), .int .i64 ((rd_T40 l0 x9_1).f1)] 40 (0, 0))) ∧ Aside0 (Below w.heap.size w wc))
         case first =>
           have H := HC5.out
           clear HC5
           by_cases c8 : (wrap64 (x9_1 + 1)) < (l0.length : Int)
           ·rw [if_pos c8] at H
            have c8b0 : decide ((wrap64 (x9_1 + 1)) < (l0.length : Int)) = true := decide_eq_true c8
            clear c8
            (first | rw [c8b0] | (simp only [i64_w, i32_w]; rw [c8b0]) | skip)
            obtain ⟨ji9, hji9⟩ : ∃ j_ : Int, (wrap64 (x9_1 + 1)) = j_ := ⟨_, rfl⟩
            replace H : (if 0 ≤ (ji9) then (strategy_spans_longest.j1 k1 l0 x3_1 x4_1 l0 (l0.length : Int) x9_1 (((rd_T40 l0 (ji9)).f0) == ((rd_T40 l0 x9_1).f0)) ((rd_T40 l0 x9_1).f0) ((rd_T40 l0 x9_1).f1)) else (none)) = some r := by first | (rw [hji9] at H; exact H) | (simp only [hji9] at H ⊢; exact H)
            (try rw [hji9] at c8b0)
            have hji9w : (IntKind.i64.wrap (x9_1 + 1)) = ji9 := (i64_w _).trans hji9
            by_cases c10 : 0 ≤ (ji9)
            ·rw [if_pos c10] at H
             have c10b0 : decide (0 ≤ (ji9)) = true := decide_eq_true c10
             clear c10
             have H' := Aside0.mk H
             clear H
             have p165 : 0 ≤ ((ji9) : Int) := of_decide_eq_true (by first | (with_reducible assumption) | assumption)
             have q165 : (ji9) < (l0.length : Int) := of_decide_eq_true (by first | (with_reducible assumption) | assumption)
             obtain ⟨ad165, e165, hx165_0, hx165_1⟩ := at_T40 HR0.out (ji9) p165 q165
             obtain rfl : ad163 = ad165 := (by injection e165)
             have hn165_0 : ad163.block ≠ gb164 := Nat.ne_of_lt (Nat.lt_of_lt_of_le (by have := World.block_lt_of_cell? _ _ hx165_0; first | rwa [add_block] at this | exact this) GW164.out)
             have hn165_1 : ad163.block ≠ gb164 := Nat.ne_of_lt (Nat.lt_of_lt_of_le (by have := World.block_lt_of_cell? _ _ hx165_0; first | rwa [add_block] at this | exact this) GW164.out)
             replace hx165_0 := (HB.out.cell (World.block_lt_of_cell? w _ hx165_0)).trans hx165_0
             replace hx165_1 := (HB.out.cell (World.block_lt_of_cell? w _ hx165_1)).trans hx165_1
             replace hx165_0 := (cell_far (p := ⟨gb164, 0, none⟩) (by first | (rw [add_block]; exact hn165_0) | (show (Addr.add _ _).block ≠ _; rw [add_block]; exact hn165_0) | exact hn165_0) (.int .i64 ((rd_T40 l0 x9_1).f0))).trans hx165_0
             replace hx165_1 := (cell_far (p := ⟨gb164, 0, none⟩) (by first | (rw [add_block]; exact hn165_0) | (show (Addr.add _ _).block ≠ _; rw [add_block]; exact hn165_0) | exact hn165_0) (.int .i64 ((rd_T40 l0 x9_1).f0))).trans hx165_1
             replace hx165_0 := (cell_far (p := ⟨gb164, 1, none⟩) (by first | (rw [add_block]; exact hn165_1) | (show (Addr.add _ _).block ≠ _; rw [add_block]; exact hn165_1) | exact hn165_1) (.int .i64 ((rd_T40 l0 x9_1).f1))).trans hx165_0
             replace hx165_1 := (cell_far (p := ⟨gb164, 1, none⟩) (by first | (rw [add_block]; exact hn165_1) | (show (Addr.add _ _).block ≠ _; rw [add_block]; exact hn165_1) | exact hn165_1) (.int .i64 ((rd_T40 l0 x9_1).f1))).trans hx165_1
             (try have hy165_0 := fun (n_ : Nat) => (show ((((w6.drewN n_).setCell ⟨gb164, 0, none⟩ (.int .i64 ((rd_T40 l0 x9_1).f0))).setCell ⟨gb164, 1, none⟩ (.int .i64 ((rd_T40 l0 x9_1).f1)))).cell? _ = some _ from hx165_0))
             (try have hy165_1 := fun (n_ : Nat) => (show ((((w6.drewN n_).setCell ⟨gb164, 0, none⟩ (.int .i64 ((rd_T40 l0 x9_1).f0))).setCell ⟨gb164, 1, none⟩ (.int .i64 ((rd_T40 l0 x9_1).f1)))).cell? _ = some _ from hx165_1))
             clear hn165_0
             clear hn165_1
             replace p165 := eq_true p165
             replace q165 := eq_true q165
             have hcz11_0 : w6.cell? ⟨gb164, 0, none⟩ = some (.int .i64 0) := (blk_cell BK164.out 0).trans rfl
             have hcz11_1 : w6.cell? ⟨gb164, 1, none⟩ = some (.int .i64 0) := (blk_cell BK164.out 1).trans rfl
             have hfz11_0 := blk_frozen BK164.out 0
             have hfz11_1 := blk_frozen BK164.out 1
             go_wp2
             repeat (go_quiet (fail); try go_wp2)
             go_meet
             case rel => exact ⟨_, ((((rd_T40 l0 (ji9)).f0) == ((rd_T40 l0 x9_1).f0))), (by first | rfl | (simp; done) | (simp only [← hji9] <;> (first | rfl | simp)) | (simp [*]; done)), H', ⟨by have := HK1.out; first | omega | exact Nat.le_refl _⟩, ⟨by (with_reducible repeat (first | apply Kd.R_alloc | apply Kd.R_drewN | apply Kd.R_drew)); exact Kd.R_mono (Kd.R_far (p := ⟨gb164, 1, none⟩) (Kd.R_far (p := ⟨gb164, 0, none⟩) (Kd.R_mono HO_3.out (fun k_ hk => (⟨hk, hk.2⟩ : _ ∧ k_ ≠ gb164))) (fun _ hk => hk.2) (.int .i64 ((rd_T40 l0 x9_1).f0))) (fun _ hk => hk.2) (.int .i64 ((rd_T40 l0 x9_1).f1))) (fun _ hk => hk.1.2)⟩, ⟨by (with_reducible repeat (first | refine blk_drewN ?_ _ | refine blk_drew ?_ | refine blk_alloc ?_ _)); refine blk_put (cs := #[.int .i64 ((rd_T40 l0 x9_1).f0), .int .i64 0]) ?_ 1 _ rfl; (with_reducible repeat (first | refine blk_drewN ?_ _ | refine blk_drew ?_ | refine blk_alloc ?_ _)); refine blk_put (cs := #[.int .i64 0, .int .i64 0]) ?_ 0 _ rfl; (with_reducible repeat (first | refine blk_drewN ?_ _ | refine blk_drew ?_ | refine blk_alloc ?_ _)); exact BK164.out⟩, ⟨by repeat (first | (with_reducible first | exact HB.out | apply below_alloc | apply pw_below_drewN | apply below_drew1 | refine below_set ?_ GE164.out) | exact HB.out)⟩⟩
            rw [if_neg c10] at H
            exact absurd H (by simp)
           rw [if_neg c8] at H
           have c8b0 : decide ((wrap64 (x9_1 + 1)) < (l0.length : Int)) = false := decide_eq_false c8
           clear c8
           (first | rw [c8b0] | (simp only [i64_w, i32_w]; rw [c8b0]) | skip)
           have H' := Aside0.mk H
           clear H
           go_wp2
           repeat (go_quiet (fail); try go_wp2)
           go_meet
           case rel => exact ⟨_, (false), (by first | rfl | (simp; done) | (simp [*]; done)), H', ⟨by have := HK1.out; first | omega | exact Nat.le_refl _⟩, ⟨by (with_reducible repeat (first | apply Kd.R_alloc | apply Kd.R_drewN | apply Kd.R_drew)); exact Kd.R_mono (Kd.R_far (p := ⟨gb164, 1, none⟩) (Kd.R_far (p := ⟨gb164, 0, none⟩) (Kd.R_mono HO_3.out (fun k_ hk => (⟨hk, hk.2⟩ : _ ∧ k_ ≠ gb164))) (fun _ hk => hk.2) (.int .i64 ((rd_T40 l0 x9_1).f0))) (fun _ hk => hk.2) (.int .i64 ((rd_T40 l0 x9_1).f1))) (fun _ hk => hk.1.2)⟩, ⟨by (with_reducible repeat (first | refine blk_drewN ?_ _ | refine blk_drew ?_ | refine blk_alloc ?_ _)); refine blk_put (cs := #[.int .i64 ((rd_T40 l0 x9_1).f0), .int .i64 0]) ?_ 1 _ rfl; (with_reducible repeat (first | refine blk_drewN ?_ _ | refine blk_drew ?_ | refine blk_alloc ?_ _)); refine blk_put (cs := #[.int .i64 0, .int .i64 0]) ?_ 0 _ rfl; (with_reducible repeat (first | refine blk_drewN ?_ _ | refine blk_drew ?_ | refine blk_alloc ?_ _)); exact BK164.out⟩, ⟨by repeat (first | (with_reducible first | exact HB.out | apply below_alloc | apply pw_below_drewN | apply below_drew1 | refine below_set ?_ GE164.out) | exact HB.out)⟩⟩
         case rest =>
           clear HC5
           try clear c1
           try clear p1
           try clear q1
           try clear hx1
           try clear c2
           try clear c2b0
           try clear p2
           try clear c3
           try clear c3b0
           try clear c4
           try clear c4b0
           try clear p6
           try clear c8
           try clear c8b0
           try clear c10
           try clear c10b0
           try clear hcz11_0
           try clear hcz11_1
           try clear hcz7_0
           try clear hcz7_1
           try clear hfz11_0
           try clear hfz11_1
           try clear hfz7_0
           try clear hfz7_1
           try clear hx163_0
           try clear hx163_1
           try clear hx165_0
           try clear hx165_1
           try clear p163
           try clear p165
           try clear q163
           try clear q165
           obtain ⟨kq, x29_4, rfl, HA, HJ4, HO_3, BK164, HB⟩ := hcut
           cases kq with
           | zero => exact absurd HA.out (by simp [strategy_spans_longest.j1])
           | succ kj4 =>
             have H := HA.out
             clear HA
             simp only [strategy_spans_longest.j1] at H
             by_cases c12 : x29_4 = true
             ·subst c12
              have H1 : (strategy_spans_longest.l0 kj4 l0 x3_1 x4_1 l0 (l0.length : Int) (wrap64 (x9_1 + 1))) = some r := by rw [if_pos rfl] at H; exact H
              clear H
              have H := H1
              clear H1
              have H' := Aside0.mk H
              clear H
              go_wp2
              repeat (go_quiet (fail); try go_wp2)
              go_roundg kj4
              case measure => have := HK1.out; have := HJ4.out; omega
              case rel => exact ⟨(x3_1), (x4_1), (wrap64 (x9_1 + 1)), (by first | rfl | (simp; done) | (simp [*]; done)), (by first | rfl | (simp; done) | (simp [*]; done)), H', ⟨by have := HK1.out; have := HJ4.out; omega⟩, ⟨by (with_reducible repeat (first | apply Kd.R_alloc | apply Kd.R_drewN | apply Kd.R_drew)); exact Kd.R_mono HO_3.out (fun _ hk => trivial)⟩, ⟨by repeat (first | (with_reducible first | exact HB.out | apply below_alloc | apply pw_below_drewN | apply below_drew1 | refine below_set ?_ GE164.out) | exact HB.out)⟩⟩
             replace c12 := Bool.eq_false_iff.mpr c12
             subst c12
             have H1 : (if ((rd_T40 l0 x9_1).f1) > x4_1 then (if x3_1.length < 8796093022208 then (strategy_spans_longest.l0 kj4 l0 (x3_1 ++ [(⟨((rd_T40 l0 x9_1).f0), ((rd_T40 l0 x9_1).f1)⟩ : S40)]) ((rd_T40 l0 x9_1).f1) l0 (l0.length : Int) (wrap64 (x9_1 + 1))) else (none)) else (strategy_spans_longest.l0 kj4 l0 x3_1 x4_1 l0 (l0.length : Int) (wrap64 (x9_1 + 1)))) = some r := by rw [if_neg (show ¬ (false = true) by decide)] at H; exact H
             clear H
             have H := H1
             clear H1
             by_cases c13 : ((rd_T40 l0 x9_1).f1) > x4_1
             ·rw [if_pos c13] at H
              have c13b0 : decide (x4_1 < ((rd_T40 l0 x9_1).f1)) = true := decide_eq_true c13
              clear c13
              by_cases c14 : x3_1.length < 8796093022208
              ·rw [if_pos c14] at H
               have LMc14 := Aside0.mk c14
               clear c14
               obtain ⟨y166, hy166⟩ : ∃ y_ : List (S40), y_ = (x3_1 ++ [(⟨((rd_T40 l0 x9_1).f0), ((rd_T40 l0 x9_1).f1)⟩ : S40)]) := ⟨_, rfl⟩
               replace H : (strategy_spans_longest.l0 kj4 l0 y166 ((rd_T40 l0 x9_1).f1) l0 (l0.length : Int) (wrap64 (x9_1 + 1))) = some r := by first | (rw [hy166]; with_reducible exact H) | (have H2_ := (Option.bind_some _ _).symm.trans H; rw [hy166]; with_reducible exact H2_) | (have H2_ := (Option.bind_some _ _).symm.trans H; with_reducible exact H2_) | with_reducible exact H | (rw [hy166]; exact H) | exact H
               have Ny166 := Aside0.mk hy166
               clear hy166
               have H' := Aside0.mk H
               clear H
               have hcz15_0 : wc.cell? ⟨gb164, 0, none⟩ = some (.int .i64 ((rd_T40 l0 x9_1).f0)) := (blk_cell BK164.out 0).trans rfl
               have hcz15_1 : wc.cell? ⟨gb164, 1, none⟩ = some (.int .i64 ((rd_T40 l0 x9_1).f1)) := (blk_cell BK164.out 1).trans rfl
               have hfz15_0 := blk_frozen BK164.out 0
               have hfz15_1 := blk_frozen BK164.out 1
               go_wp2_with (first | ((with_reducible refine gate_builtin (b := .append) (xs := #[.tmp 34, .tmp 36]) rfl ?_); at_builtin; refine Kd.R_append k40 (w0 := w) w.heap.size rfl (.tmp 34) (.tmp 36) 31 40 (.agg #[(.int .i64 0), (.int .i64 0)]) 16 rfl Try.underlying31 info40 rfl (by decide) (by omega) u3 x3_1 (⟨((rd_T40 l0 x9_1).f0), ((rd_T40 l0 x9_1).f1)⟩ : S40) [.int .i64 ((rd_T40 l0 x9_1).f0), .int .i64 ((rd_T40 l0 x9_1).f1)] (fun k_ => k_ ≠ gb164) (fun _ => False) rfl rfl ?aP (fun _ hk => hk.elim) ?aF ?aO ?aB ?aS ?aL ?_; (case aP => exact k40_mkM _ _ _ (⟨((rd_T40 l0 x9_1).f0), ((rd_T40 l0 x9_1).f1)⟩ : S40)); (case aB => exact (by repeat (first | (with_reducible first | exact HB.out | apply below_alloc | apply pw_below_drewN | apply below_drew1 | refine below_set ?_ GE164.out) | exact HB.out))); (case aF => exact (fun k_ hk => Kd.freshB (g := gb164) (o := .cells #[.int .i64 ((rd_T40 l0 x9_1).f0), .int .i64 ((rd_T40 l0 x9_1).f1)] 40 (0, 0)) (by (with_reducible repeat (first | refine blk_drewN ?_ _ | refine blk_drew ?_ | refine blk_alloc ?_ _)); exact BK164.out) k_ hk)); (case aO => exact (by (with_reducible repeat (first | apply Kd.R_alloc | apply Kd.R_drewN | apply Kd.R_drew)); exact HO_3.out)); (case aS => exact (below_size (by repeat (first | (with_reducible first | exact HB.out | apply below_alloc | apply pw_below_drewN | apply below_drew1 | refine below_set ?_ GE164.out) | exact HB.out)))); (case aL => have := LMc14.out; omega); intro v167 w16 ho hb hg hat; rw [← Ny166.out] at ho; have n0_ := Aside0.mk (blk_grown (g := gb164) (o := .cells #[.int .i64 ((rd_T40 l0 x9_1).f0), .int .i64 ((rd_T40 l0 x9_1).f1)] 40 (0, 0)) (by (with_reducible repeat (first | refine blk_drewN ?_ _ | refine blk_drew ?_ | refine blk_alloc ?_ _)); exact BK164.out) hg (Kd.R_away HO_3.out (fun _ hk => hk))); have n1_ := Aside0.mk (hb); have n2_ := Aside0.mk (ho); clear BK164; clear HB; clear HO_3; have BK164 := n0_; have HB := n1_; have HO168 := n2_; clear n0_ n1_ n2_; clear ho hb hg hat; have hcz17_0 : w16.cell? ⟨gb164, 0, none⟩ = some (.int .i64 ((rd_T40 l0 x9_1).f0)) := (blk_cell BK164.out 0).trans rfl; have hcz17_1 : w16.cell? ⟨gb164, 1, none⟩ = some (.int .i64 ((rd_T40 l0 x9_1).f1)) := (blk_cell BK164.out 1).trans rfl; have hfz17_0 := blk_frozen BK164.out 0; have hfz17_1 := blk_frozen BK164.out 1))
               repeat (go_quiet (fail); try go_wp2)
               go_roundg kj4
               case measure => have := HK1.out; have := HJ4.out; omega
               case rel => exact ⟨(y166), (((rd_T40 l0 x9_1).f1)), (wrap64 (x9_1 + 1)), (by first | rfl | (simp; done) | (simp [*]; done)), (by first | rfl | (simp; done) | (simp [*]; done)), H', ⟨by have := HK1.out; have := HJ4.out; omega⟩, ⟨by (with_reducible repeat (first | apply Kd.R_alloc | apply Kd.R_drewN | apply Kd.R_drew)); exact Kd.R_mono HO168.out (fun _ hk => trivial)⟩, ⟨by repeat (first | (with_reducible first | exact HB.out | apply below_alloc | apply pw_below_drewN | apply below_drew1 | refine below_set ?_ GE164.out) | exact HB.out)⟩⟩
              rw [if_neg c14] at H
              exact absurd H (by simp)
             rw [if_neg c13] at H
             have c13b0 : decide (x4_1 < ((rd_T40 l0 x9_1).f1)) = false := decide_eq_false c13
             clear c13
             have H' := Aside0.mk H
             clear H
             have hcz18_0 : wc.cell? ⟨gb164, 0, none⟩ = some (.int .i64 ((rd_T40 l0 x9_1).f0)) := (blk_cell BK164.out 0).trans rfl
             have hcz18_1 : wc.cell? ⟨gb164, 1, none⟩ = some (.int .i64 ((rd_T40 l0 x9_1).f1)) := (blk_cell BK164.out 1).trans rfl
             have hfz18_0 := blk_frozen BK164.out 0
             have hfz18_1 := blk_frozen BK164.out 1
             go_wp2
             repeat (go_quiet (fail); try go_wp2)
             go_roundg kj4
             case measure => have := HK1.out; have := HJ4.out; omega
             case rel => exact ⟨(x3_1), (x4_1), (wrap64 (x9_1 + 1)), (by first | rfl | (simp; done) | (simp [*]; done)), (by first | rfl | (simp; done) | (simp [*]; done)), H', ⟨by have := HK1.out; have := HJ4.out; omega⟩, ⟨by (with_reducible repeat (first | apply Kd.R_alloc | apply Kd.R_drewN | apply Kd.R_drew)); exact Kd.R_mono HO_3.out (fun _ hk => trivial)⟩, ⟨by repeat (first | (with_reducible first | exact HB.out | apply below_alloc | apply pw_below_drewN | apply below_drew1 | refine below_set ?_ GE164.out) | exact HB.out)⟩⟩
        rw [if_neg c4] at H
        exact absurd H (by simp)
       rw [if_neg c3] at H
       exact absurd H (by simp)
      rw [if_neg c2] at H
      have c2b0 : decide (x9_1 < (l0.length : Int)) = false := decide_eq_false c2
      clear c2
      obtain rfl := Option.some.inj H
      go_wp2
      repeat (go_quiet (fail); try go_wp2)
      go_ret
      exact ⟨_, by first | rfl | (simp [errW_none, errW_some] <;> rfl) | (simp [*, errW_none, errW_some] <;> rfl), by (with_reducible repeat (first | apply Kd.R_alloc | apply Kd.R_drewN | apply Kd.R_drew)); exact HO_3.out, by repeat (first | (with_reducible first | exact HB.out | apply below_alloc | apply pw_below_drewN | apply below_drew1) | exact HB.out)⟩

end Go.Proofs.Ytmmdlkeemafanaa.Q
