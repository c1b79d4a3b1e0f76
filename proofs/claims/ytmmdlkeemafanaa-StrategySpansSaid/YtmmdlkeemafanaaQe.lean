import Derived.Test.YtmmdlkeemafanaaQx0
import Derived.Test.YtmmdlkeemafanaaQx1
import Derived.Test.YtmmdlkeemafanaaQd
namespace Go.Proofs.Ytmmdlkeemafanaa.Q
open Go.RowKit Go.Proofs.YtmmdlkeemafanaaW.PrintWords Go.Proofs.YtmmdlkeemafanaaW.PrintLast Go.Proofs.YtmmdlkeemafanaaW.PrintMore
attribute [local go_sem] max2_int min2_int max_two min_two max_three min_three max_four min_four   -- for this text's walks alone
set_option linter.unusedVariables false
set_option linter.unusedSimpArgs false

attribute [local go_sem high] eqA40

/-! ### strategy_spans_shortest: function 25 -/
mutual
def strategy_spans_shortest.l0 : Nat → List (S40) → List (S40) → Int → Int → Option ((List (S40)))
  | 0, _, _, _, _ => none
  | k + 1, x0, x3, x4, x5 => if x5 ≥ 0 then (if 0 ≤ x5 then (if x5 < (x0.length : Int) then (if x5 > 0 then (if 0 ≤ (wrap64 (x5 - 1)) then (if (wrap64 (x5 - 1)) < (x0.length : Int) then (strategy_spans_shortest.j1 k x0 x3 x4 x5 (((rd_T40 x0 (wrap64 (x5 - 1))).f0) == ((rd_T40 x0 x5).f0)) ((rd_T40 x0 x5).f0) ((rd_T40 x0 x5).f1)) else (none)) else (none)) else (strategy_spans_shortest.j1 k x0 x3 x4 x5 false ((rd_T40 x0 x5).f0) ((rd_T40 x0 x5).f1))) else (none)) else (none)) else ((api_Span_40.f k x3).bind fun t153 => (some t153))
def strategy_spans_shortest.j1 : Nat → List (S40) → List (S40) → Int → Int → Bool → Int → Int → Option ((List (S40)))
  | 0, _, _, _, _, _, _, _ => none
  | k + 1, x0, x3, x4, x5, x30, x156000, x156001 => if x30 = true then (strategy_spans_shortest.l0 k x0 x3 x4 (wrap64 (x5 - 1))) else (if x4 < 0 then (if x3.length < 8796093022208 then (strategy_spans_shortest.l0 k x0 (x3 ++ [(⟨x156000, x156001⟩ : S40)]) x156001 (wrap64 (x5 - 1))) else (none)) else (if x156001 < x4 then (if x3.length < 8796093022208 then (strategy_spans_shortest.l0 k x0 (x3 ++ [(⟨x156000, x156001⟩ : S40)]) x156001 (wrap64 (x5 - 1))) else (none)) else (strategy_spans_shortest.l0 k x0 x3 x4 (wrap64 (x5 - 1)))))
end
def strategy_spans_shortest.f (k : Nat) (l0 : List (S40)) : Option ((List (S40))) := strategy_spans_shortest.l0 k l0 ([] : List (S40)) (-1) (wrap64 ((l0.length : Int) - 1))
theorem strategy_spans_shortest.mono_l : ∀ k, (∀ y0 y1 y2 y3, LeO (strategy_spans_shortest.l0 k y0 y1 y2 y3) (strategy_spans_shortest.l0 (k + 1) y0 y1 y2 y3)) ∧ (∀ y0 y1 y2 y3 y4 y5 y6, LeO (strategy_spans_shortest.j1 k y0 y1 y2 y3 y4 y5 y6) (strategy_spans_shortest.j1 (k + 1) y0 y1 y2 y3 y4 y5 y6))
  | 0 => ⟨fun _ _ _ _ r h => by simp [strategy_spans_shortest.l0] at h, fun _ _ _ _ _ _ _ r h => by simp [strategy_spans_shortest.j1] at h⟩
  | k + 1 => by
    obtain ⟨ih0, ih1⟩ := strategy_spans_shortest.mono_l k
    refine ⟨?_, ?_⟩
    ·intro y0 y1 y2 y3
     unfold strategy_spans_shortest.l0
     repeat' first
     | (with_reducible exact ih0 _ _ _ _)
     | (with_reducible exact ih1 _ _ _ _ _ _ _)
     | (with_reducible exact api_Span_40.mono _ _)
     | (with_reducible exact LeO.refl _)
     | (with_reducible exact LeO.none _)
     | (with_reducible refine LeO.ite ?_ ?_)
     | (with_reducible refine LeO.bind ?_ (fun _ => ?_))
     | exact ih0 _ _ _ _
     | exact ih1 _ _ _ _ _ _ _
     | exact api_Span_40.mono _ _
     | exact LeO.none _
     | refine LeO.ite ?_ ?_
     | refine LeO.bind ?_ (fun _ => ?_)
    intro y0 y1 y2 y3 y4 y5 y6
    unfold strategy_spans_shortest.j1
    repeat' first
    | (with_reducible exact ih0 _ _ _ _)
    | (with_reducible exact ih1 _ _ _ _ _ _ _)
    | (with_reducible exact api_Span_40.mono _ _)
    | (with_reducible exact LeO.refl _)
    | (with_reducible exact LeO.none _)
    | (with_reducible refine LeO.ite ?_ ?_)
    | (with_reducible refine LeO.bind ?_ (fun _ => ?_))
    | exact ih0 _ _ _ _
    | exact ih1 _ _ _ _ _ _ _
    | exact api_Span_40.mono _ _
    | exact LeO.none _
    | refine LeO.ite ?_ ?_
    | refine LeO.bind ?_ (fun _ => ?_)
theorem strategy_spans_shortest.mono : ∀ a0 k, LeO (strategy_spans_shortest.f k a0) (strategy_spans_shortest.f (k + 1) a0) := by
  intro a0 k
  obtain ⟨ih0, ih1⟩ := strategy_spans_shortest.mono_l k
  unfold strategy_spans_shortest.f
  repeat' first
      | (with_reducible exact ih0 _ _ _ _)
      | (with_reducible exact ih1 _ _ _ _ _ _ _)
      | (with_reducible exact api_Span_40.mono _ _)
      | (with_reducible exact LeO.refl _)
      | (with_reducible exact LeO.none _)
      | (with_reducible refine LeO.ite ?_ ?_)
      | (with_reducible refine LeO.bind ?_ (fun _ => ?_))
      | exact ih0 _ _ _ _
      | exact ih1 _ _ _ _ _ _ _
      | exact api_Span_40.mono _ _
      | exact LeO.none _
      | refine LeO.ite ?_ ?_
      | refine LeO.bind ?_ (fun _ => ?_)
set_option maxHeartbeats 8000000 in
set_option maxRecDepth 100000 in
theorem strategy_spans_shortest.calls (k : Nat) (A0 : Option Addr) (c0 : Nat) (l0 : List (S40)) (r : List (S40)) (w : World) (hr0 : Kd.C k40 w A0 l0.length l0) (hc0 : l0.length ≤ c0) (h : strategy_spans_shortest.f k l0 = some r) :
    Calls Try.prog 25 #[.slice A0 l0.length c0] w fun e w' => ∃ v0_ : Value, e = .returned (v0_) ∧ Kd.R k40 40 w' w.heap.size (fun _ => True) v0_ r ∧ Below w.heap.size w w' := by
  have hu40 := Try.underlying40
  have HR0 := Aside0.mk hr0
  have HC0 := Aside0.mk hc0
  clear hr0 hc0
  have HB := Aside0.mk (Below.refl w.heap.size w)
  have H : (strategy_spans_shortest.l0 k l0 ([] : List (S40)) (-1) (wrap64 ((l0.length : Int) - 1))) = some r := h
  clear h
  have H' := Aside0.mk H
  clear H
  go_enter Try.func25, Try.ntmps25
  go_wp2
  repeat (go_quiet (fail); try go_wp2)
  go_loopg [3, 4, 5] k (fun kq v3 v4 v5 w' => ∃ (x3_1 : List (S40)) (x4_1 : Int) (x5_1 : Int), v4 = .int .i64 x4_1 ∧ v5 = .int .i64 x5_1 ∧ Aside0 (strategy_spans_shortest.l0 kq l0 x3_1 x4_1 x5_1 = some r) ∧ Aside0 (kq ≤ k) ∧ Aside0 (Kd.R k40 40 w' w.heap.size (fun _ => True) v3 x3_1) ∧ Aside0 (Below w.heap.size w w'))
  case atStart => exact ⟨(([] : List (S40))), ((-1)), (wrap64 ((l0.length : Int) - 1)), (by first | rfl | (simp; done) | (simp [*]; done)), (by first | rfl | (simp; done) | (simp [*]; done)), H', ⟨Nat.le_refl _⟩, ⟨by first | exact Kd.R_nil _ _ _ _ _ | exact Kd.N_nil _ _ _ _ _ | exact Kd.V_nil _ _ _ _ _ | exact Kd.Q_nil _ _ _ _ _ | exact Kd.S_nil _ _ _ _ _⟩, ⟨by repeat (first | (with_reducible first | exact HB.out | apply below_alloc | apply pw_below_drewN | apply below_drew1) | exact HB.out)⟩⟩
  case round =>
    clear H'
    obtain ⟨x3_1, x4_1, x5_1, rfl, rfl, HA, HK1, HO_3, HB⟩ := hrel
    cases gk with
    | zero => exact absurd HA.out (by simp [strategy_spans_shortest.l0])
    | succ k1 =>
      have H := HA.out
      clear HA
      simp only [strategy_spans_shortest.l0] at H
      by_cases c2 : x5_1 ≥ 0
      ·rw [if_pos c2] at H
       have c2b0 : decide (0 ≤ x5_1) = true := decide_eq_true c2
       clear c2
       by_cases c3 : 0 ≤ x5_1
       ·rw [if_pos c3] at H
        have c3b0 : decide (0 ≤ x5_1) = true := decide_eq_true c3
        clear c3
        by_cases c4 : x5_1 < (l0.length : Int)
        ·rw [if_pos c4] at H
         have c4b0 : decide (x5_1 < (l0.length : Int)) = true := decide_eq_true c4
         clear c4
         have HC5 := Aside0.mk H
         clear H
         have p154 : 0 ≤ (x5_1 : Int) := of_decide_eq_true (by first | (with_reducible assumption) | assumption)
         have q154 : x5_1 < (l0.length : Int) := of_decide_eq_true (by first | (with_reducible assumption) | assumption)
         obtain ⟨ad154, e154, hx154_0, hx154_1⟩ := at_T40 HR0.out x5_1 p154 q154
         cases e154
         replace hx154_0 := (HB.out.cell (World.block_lt_of_cell? w _ hx154_0)).trans hx154_0
         replace hx154_1 := (HB.out.cell (World.block_lt_of_cell? w _ hx154_1)).trans hx154_1
         replace p154 := eq_true p154
         replace q154 := eq_true q154
         go_upto_region 7 with (first | ((with_reducible refine gate_dst (N := 6) rfl ?_); refine box_event ?hg (N := 6) ?hd (cs := #[.int .i64 0, .int .i64 0]) (t := 40) ?hr ?_; (case hd => rfl); (case hg => rfl); (case hr => first | (go_simp; done) | (go_simp; rfl)); intro gb155 hg w6 hbox hb; have n0_ := Aside0.mk (Kd.R_below (Kd.R_elderB (by (with_reducible repeat (first | apply Kd.R_alloc | apply Kd.R_drewN | apply Kd.R_drew)); exact HO_3.out) gb155 (Nat.le_of_eq hg.symm)) hb); have n1_ := Aside0.mk (below_step (by repeat (first | (with_reducible first | exact HB.out | apply below_alloc | apply pw_below_drewN | apply below_drew1) | exact HB.out)) hb); have n2_ := Aside0.mk (hbox); have n3_ := Aside0.mk ((by rw [hg]; exact (below_size (by repeat (first | (with_reducible first | exact HB.out | apply below_alloc | apply pw_below_drewN | apply below_drew1) | exact HB.out))) : w.heap.size ≤ gb155)); have n4_ := Aside0.mk ((by rw [hg]; exact (below_size (by repeat (first | (with_reducible first | exact HB.out | apply below_alloc | apply pw_below_drewN | apply below_drew1) | exact HB.out))) : w.heap.size ≤ gb155)); clear HO_3; clear HB; have HO_3 := n0_; have HB := n1_; have BK155 := n2_; have GW155 := n3_; have GE155 := n4_; clear n0_ n1_ n2_ n3_ n4_; clear hb hbox hg; have hcz7_0 : w6.cell? ⟨gb155, 0, none⟩ = some (.int .i64 0) := (blk_cell BK155.out 0).trans rfl; have hcz7_1 : w6.cell? ⟨gb155, 1, none⟩ = some (.int .i64 0) := (blk_cell BK155.out 1).trans rfl; have hfz7_0 := blk_frozen BK155.out 0; have hfz7_1 := blk_frozen BK155.out 1))
         repeat (go_quiet (fail); try go_wp2)
         (try simp only [Act.put, List.setIfInBounds_toArray, List.set_cons_zero, List.set_cons_succ])
         go_cut [30] (fun v30 wc => ∃ (kq : Nat) (x30_4 : Bool), v30 = .bool x30_4 ∧ Aside0 (strategy_spans_shortest.j1 kq l0 x3_1 x4_1 x5_1 x30_4 ((rd_T40 l0 x5_1).f0) ((rd_T40 l0 x5_1).f1) = some r) ∧ Aside0 (kq ≤ k1) ∧ Aside0 (Kd.R k40 40 wc w.heap.size (fun k_ => k_ ≠ gb155) u3 x3_1) ∧ Aside0 (wc.heap[gb155]? = some (.cells #[.int .i64 ((rd_T40 l0 x5_1).f0), .int .i64 ((rd_T40 l0 x5_1).f1)] 40 (0, 0))) ∧ Aside0 (Below w.heap.size w wc))
         case first =>
           have H := HC5.out
           clear HC5
           by_cases c8 : x5_1 > 0
           ·rw [if_pos c8] at H
            have c8b0 : decide (0 < x5_1) = true := decide_eq_true c8
            clear c8
            (first | rw [c8b0] | (simp only [i64_w, i32_w]; rw [c8b0]) | skip)
            obtain ⟨ji9, hji9⟩ : ∃ j_ : Int, (wrap64 (x5_1 - 1)) = j_ := ⟨_, rfl⟩
            replace H : (if 0 ≤ (ji9) then (if (ji9) < (l0.length : Int) then (strategy_spans_shortest.j1 k1 l0 x3_1 x4_1 x5_1 (((rd_T40 l0 (ji9)).f0) == ((rd_T40 l0 x5_1).f0)) ((rd_T40 l0 x5_1).f0) ((rd_T40 l0 x5_1).f1)) else (none)) else (none)) = some r := by first | (rw [hji9] at H; exact H) | (simp only [hji9] at H ⊢; exact H)
            have hji9w : (IntKind.i64.wrap (x5_1 - 1)) = ji9 := (i64_w _).trans hji9
            by_cases c10 : 0 ≤ (ji9)
            ·rw [if_pos c10] at H
             have c10b0 : decide (0 ≤ (ji9)) = true := decide_eq_true c10
             clear c10
             by_cases c11 : (ji9) < (l0.length : Int)
             ·rw [if_pos c11] at H
              have c11b0 : decide ((ji9) < (l0.length : Int)) = true := decide_eq_true c11
              clear c11
              have H' := Aside0.mk H
              clear H
              have p156 : 0 ≤ ((ji9) : Int) := of_decide_eq_true (by first | (with_reducible assumption) | assumption)
              have q156 : (ji9) < (l0.length : Int) := of_decide_eq_true (by first | (with_reducible assumption) | assumption)
              obtain ⟨ad156, e156, hx156_0, hx156_1⟩ := at_T40 HR0.out (ji9) p156 q156
              obtain rfl : ad154 = ad156 := (by injection e156)
              have hn156_0 : ad154.block ≠ gb155 := Nat.ne_of_lt (Nat.lt_of_lt_of_le (by have := World.block_lt_of_cell? _ _ hx156_0; first | rwa [add_block] at this | exact this) GW155.out)
              have hn156_1 : ad154.block ≠ gb155 := Nat.ne_of_lt (Nat.lt_of_lt_of_le (by have := World.block_lt_of_cell? _ _ hx156_0; first | rwa [add_block] at this | exact this) GW155.out)
              replace hx156_0 := (HB.out.cell (World.block_lt_of_cell? w _ hx156_0)).trans hx156_0
              replace hx156_1 := (HB.out.cell (World.block_lt_of_cell? w _ hx156_1)).trans hx156_1
              replace hx156_0 := (cell_far (p := ⟨gb155, 0, none⟩) (by first | (rw [add_block]; exact hn156_0) | (show (Addr.add _ _).block ≠ _; rw [add_block]; exact hn156_0) | exact hn156_0) (.int .i64 ((rd_T40 l0 x5_1).f0))).trans hx156_0
              replace hx156_1 := (cell_far (p := ⟨gb155, 0, none⟩) (by first | (rw [add_block]; exact hn156_0) | (show (Addr.add _ _).block ≠ _; rw [add_block]; exact hn156_0) | exact hn156_0) (.int .i64 ((rd_T40 l0 x5_1).f0))).trans hx156_1
              replace hx156_0 := (cell_far (p := ⟨gb155, 1, none⟩) (by first | (rw [add_block]; exact hn156_1) | (show (Addr.add _ _).block ≠ _; rw [add_block]; exact hn156_1) | exact hn156_1) (.int .i64 ((rd_T40 l0 x5_1).f1))).trans hx156_0
              replace hx156_1 := (cell_far (p := ⟨gb155, 1, none⟩) (by first | (rw [add_block]; exact hn156_1) | (show (Addr.add _ _).block ≠ _; rw [add_block]; exact hn156_1) | exact hn156_1) (.int .i64 ((rd_T40 l0 x5_1).f1))).trans hx156_1
              (try have hy156_0 := fun (n_ : Nat) => (show ((((w6.drewN n_).setCell ⟨gb155, 0, none⟩ (.int .i64 ((rd_T40 l0 x5_1).f0))).setCell ⟨gb155, 1, none⟩ (.int .i64 ((rd_T40 l0 x5_1).f1)))).cell? _ = some _ from hx156_0))
              (try have hy156_1 := fun (n_ : Nat) => (show ((((w6.drewN n_).setCell ⟨gb155, 0, none⟩ (.int .i64 ((rd_T40 l0 x5_1).f0))).setCell ⟨gb155, 1, none⟩ (.int .i64 ((rd_T40 l0 x5_1).f1)))).cell? _ = some _ from hx156_1))
              clear hn156_0
              clear hn156_1
              replace p156 := eq_true p156
              replace q156 := eq_true q156
              have hcz12_0 : w6.cell? ⟨gb155, 0, none⟩ = some (.int .i64 0) := (blk_cell BK155.out 0).trans rfl
              have hcz12_1 : w6.cell? ⟨gb155, 1, none⟩ = some (.int .i64 0) := (blk_cell BK155.out 1).trans rfl
              have hfz12_0 := blk_frozen BK155.out 0
              have hfz12_1 := blk_frozen BK155.out 1
              go_wp2
              repeat (go_quiet (fail); try go_wp2)
              go_meet
              case rel => exact ⟨_, ((((rd_T40 l0 (ji9)).f0) == ((rd_T40 l0 x5_1).f0))), (by first | rfl | (simp; done) | (simp only [← hji9] <;> (first | rfl | simp)) | (simp [*]; done)), H', ⟨by have := HK1.out; first | omega | exact Nat.le_refl _⟩, ⟨by (with_reducible repeat (first | apply Kd.R_alloc | apply Kd.R_drewN | apply Kd.R_drew)); exact Kd.R_mono (Kd.R_far (p := ⟨gb155, 1, none⟩) (Kd.R_far (p := ⟨gb155, 0, none⟩) (Kd.R_mono HO_3.out (fun k_ hk => (⟨hk, hk.2⟩ : _ ∧ k_ ≠ gb155))) (fun _ hk => hk.2) (.int .i64 ((rd_T40 l0 x5_1).f0))) (fun _ hk => hk.2) (.int .i64 ((rd_T40 l0 x5_1).f1))) (fun _ hk => hk.1.2)⟩, ⟨by (with_reducible repeat (first | refine blk_drewN ?_ _ | refine blk_drew ?_ | refine blk_alloc ?_ _)); refine blk_put (cs := #[.int .i64 ((rd_T40 l0 x5_1).f0), .int .i64 0]) ?_ 1 _ rfl; (with_reducible repeat (first | refine blk_drewN ?_ _ | refine blk_drew ?_ | refine blk_alloc ?_ _)); refine blk_put (cs := #[.int .i64 0, .int .i64 0]) ?_ 0 _ rfl; (with_reducible repeat (first | refine blk_drewN ?_ _ | refine blk_drew ?_ | refine blk_alloc ?_ _)); exact BK155.out⟩, ⟨by repeat (first | (with_reducible first | exact HB.out | apply below_alloc | apply pw_below_drewN | apply below_drew1 | refine below_set ?_ GE155.out) | exact HB.out)⟩⟩
             rw [if_neg c11] at H
             exact absurd H (by simp)
            rw [if_neg c10] at H
            exact absurd H (by simp)
           rw [if_neg c8] at H
           have c8b0 : decide (0 < x5_1) = false := decide_eq_false c8
           clear c8
           (first | rw [c8b0] | (simp only [i64_w, i32_w]; rw [c8b0]) | skip)
           have H' := Aside0.mk H
           clear H
           go_wp2
           repeat (go_quiet (fail); try go_wp2)
           go_meet
           case rel => exact ⟨_, (false), (by first | rfl | (simp; done) | (simp [*]; done)), H', ⟨by have := HK1.out; first | omega | exact Nat.le_refl _⟩, ⟨by (with_reducible repeat (first | apply Kd.R_alloc | apply Kd.R_drewN | apply Kd.R_drew)); exact Kd.R_mono (Kd.R_far (p := ⟨gb155, 1, none⟩) (Kd.R_far (p := ⟨gb155, 0, none⟩) (Kd.R_mono HO_3.out (fun k_ hk => (⟨hk, hk.2⟩ : _ ∧ k_ ≠ gb155))) (fun _ hk => hk.2) (.int .i64 ((rd_T40 l0 x5_1).f0))) (fun _ hk => hk.2) (.int .i64 ((rd_T40 l0 x5_1).f1))) (fun _ hk => hk.1.2)⟩, ⟨by (with_reducible repeat (first | refine blk_drewN ?_ _ | refine blk_drew ?_ | refine blk_alloc ?_ _)); refine blk_put (cs := #[.int .i64 ((rd_T40 l0 x5_1).f0), .int .i64 0]) ?_ 1 _ rfl; (with_reducible repeat (first | refine blk_drewN ?_ _ | refine blk_drew ?_ | refine blk_alloc ?_ _)); refine blk_put (cs := #[.int .i64 0, .int .i64 0]) ?_ 0 _ rfl; (with_reducible repeat (first | refine blk_drewN ?_ _ | refine blk_drew ?_ | refine blk_alloc ?_ _)); exact BK155.out⟩, ⟨by repeat (first | (with_reducible first | exact HB.out | apply below_alloc | apply pw_below_drewN | apply below_drew1 | refine below_set ?_ GE155.out) | exact HB.out)⟩⟩
         case rest =>
           clear HC5
           try clear c1
           try clear p1
           try clear q1
           try clear hx1
           try clear c2
           try clear c2b0
           try clear p2
           try clear c3
           try clear c3b0
           try clear c4
           try clear c4b0
           try clear p6
           try clear c8
           try clear c8b0
           try clear c10
           try clear c10b0
           try clear c11
           try clear c11b0
           try clear hcz12_0
           try clear hcz12_1
           try clear hcz7_0
           try clear hcz7_1
           try clear hfz12_0
           try clear hfz12_1
           try clear hfz7_0
           try clear hfz7_1
           try clear hx154_0
           try clear hx154_1
           try clear hx156_0
           try clear hx156_1
           try clear p154
           try clear p156
           try clear q154
           try clear q156
           obtain ⟨kq, x30_4, rfl, HA, HJ4, HO_3, BK155, HB⟩ := hcut
           cases kq with
           | zero => exact absurd HA.out (by simp [strategy_spans_shortest.j1])
           | succ kj4 =>
             have H := HA.out
             clear HA
             simp only [strategy_spans_shortest.j1] at H
             by_cases c13 : x30_4 = true
             ·subst c13
              have H1 : (strategy_spans_shortest.l0 kj4 l0 x3_1 x4_1 (wrap64 (x5_1 - 1))) = some r := by rw [if_pos rfl] at H; exact H
              clear H
              have H := H1
              clear H1
              have H' := Aside0.mk H
              clear H
              go_wp2
              repeat (go_quiet (fail); try go_wp2)
              go_roundg kj4
              case measure => have := HK1.out; have := HJ4.out; omega
              case rel => exact ⟨(x3_1), (x4_1), (wrap64 (x5_1 - 1)), (by first | rfl | (simp; done) | (simp [*]; done)), (by first | rfl | (simp; done) | (simp [*]; done)), H', ⟨by have := HK1.out; have := HJ4.out; omega⟩, ⟨by (with_reducible repeat (first | apply Kd.R_alloc | apply Kd.R_drewN | apply Kd.R_drew)); exact Kd.R_mono HO_3.out (fun _ hk => trivial)⟩, ⟨by repeat (first | (with_reducible first | exact HB.out | apply below_alloc | apply pw_below_drewN | apply below_drew1 | refine below_set ?_ GE155.out) | exact HB.out)⟩⟩
             replace c13 := Bool.eq_false_iff.mpr c13
             subst c13
             have H1 : (if x4_1 < 0 then (if x3_1.length < 8796093022208 then (strategy_spans_shortest.l0 kj4 l0 (x3_1 ++ [(⟨((rd_T40 l0 x5_1).f0), ((rd_T40 l0 x5_1).f1)⟩ : S40)]) ((rd_T40 l0 x5_1).f1) (wrap64 (x5_1 - 1))) else (none)) else (if ((rd_T40 l0 x5_1).f1) < x4_1 then (if x3_1.length < 8796093022208 then (strategy_spans_shortest.l0 kj4 l0 (x3_1 ++ [(⟨((rd_T40 l0 x5_1).f0), ((rd_T40 l0 x5_1).f1)⟩ : S40)]) ((rd_T40 l0 x5_1).f1) (wrap64 (x5_1 - 1))) else (none)) else (strategy_spans_shortest.l0 kj4 l0 x3_1 x4_1 (wrap64 (x5_1 - 1))))) = some r := by rw [if_neg (show ¬ (false = true) by decide)] at H; exact H
             clear H
             have H := H1
             clear H1
             by_cases c14 : x4_1 < 0
             ·rw [if_pos c14] at H
              have c14b0 : decide (x4_1 < 0) = true := decide_eq_true c14
              clear c14
              by_cases c15 : x3_1.length < 8796093022208
              ·rw [if_pos c15] at H
               have LMc15 := Aside0.mk c15
               clear c15
               obtain ⟨y157, hy157⟩ : ∃ y_ : List (S40), y_ = (x3_1 ++ [(⟨((rd_T40 l0 x5_1).f0), ((rd_T40 l0 x5_1).f1)⟩ : S40)]) := ⟨_, rfl⟩
               replace H : (strategy_spans_shortest.l0 kj4 l0 y157 ((rd_T40 l0 x5_1).f1) (wrap64 (x5_1 - 1))) = some r := by first | (rw [hy157]; with_reducible exact H) | (have H2_ := (Option.bind_some _ _).symm.trans H; rw [hy157]; with_reducible exact H2_) | (have H2_ := (Option.bind_some _ _).symm.trans H; with_reducible exact H2_) | with_reducible exact H | (rw [hy157]; exact H) | exact H
               have Ny157 := Aside0.mk hy157
               clear hy157
               have H' := Aside0.mk H
               clear H
               have hcz16_0 : wc.cell? ⟨gb155, 0, none⟩ = some (.int .i64 ((rd_T40 l0 x5_1).f0)) := (blk_cell BK155.out 0).trans rfl
               have hcz16_1 : wc.cell? ⟨gb155, 1, none⟩ = some (.int .i64 ((rd_T40 l0 x5_1).f1)) := (blk_cell BK155.out 1).trans rfl
               have hfz16_0 := blk_frozen BK155.out 0
               have hfz16_1 := blk_frozen BK155.out 1
               go_wp2_with (first | ((with_reducible refine gate_builtin (b := .append) (xs := #[.tmp 39, .tmp 41]) rfl ?_); at_builtin; refine Kd.R_append k40 (w0 := w) w.heap.size rfl (.tmp 39) (.tmp 41) 31 40 (.agg #[(.int .i64 0), (.int .i64 0)]) 16 rfl Try.underlying31 info40 rfl (by decide) (by omega) u3 x3_1 (⟨((rd_T40 l0 x5_1).f0), ((rd_T40 l0 x5_1).f1)⟩ : S40) [.int .i64 ((rd_T40 l0 x5_1).f0), .int .i64 ((rd_T40 l0 x5_1).f1)] (fun k_ => k_ ≠ gb155) (fun _ => False) rfl rfl ?aP (fun _ hk => hk.elim) ?aF ?aO ?aB ?aS ?aL ?_; (case aP => exact k40_mkM _ _ _ (⟨((rd_T40 l0 x5_1).f0), ((rd_T40 l0 x5_1).f1)⟩ : S40)); (case aB => exact (by repeat (first | (with_reducible first | exact HB.out | apply below_alloc | apply pw_below_drewN | apply below_drew1 | refine below_set ?_ GE155.out) | exact HB.out))); (case aF => exact (fun k_ hk => Kd.freshB (g := gb155) (o := .cells #[.int .i64 ((rd_T40 l0 x5_1).f0), .int .i64 ((rd_T40 l0 x5_1).f1)] 40 (0, 0)) (by (with_reducible repeat (first | refine blk_drewN ?_ _ | refine blk_drew ?_ | refine blk_alloc ?_ _)); exact BK155.out) k_ hk)); (case aO => exact (by (with_reducible repeat (first | apply Kd.R_alloc | apply Kd.R_drewN | apply Kd.R_drew)); exact HO_3.out)); (case aS => exact (below_size (by repeat (first | (with_reducible first | exact HB.out | apply below_alloc | apply pw_below_drewN | apply below_drew1 | refine below_set ?_ GE155.out) | exact HB.out)))); (case aL => have := LMc15.out; omega); intro v158 w17 ho hb hg hat; rw [← Ny157.out] at ho; have n0_ := Aside0.mk (blk_grown (g := gb155) (o := .cells #[.int .i64 ((rd_T40 l0 x5_1).f0), .int .i64 ((rd_T40 l0 x5_1).f1)] 40 (0, 0)) (by (with_reducible repeat (first | refine blk_drewN ?_ _ | refine blk_drew ?_ | refine blk_alloc ?_ _)); exact BK155.out) hg (Kd.R_away HO_3.out (fun _ hk => hk))); have n1_ := Aside0.mk (hb); have n2_ := Aside0.mk (ho); clear BK155; clear HB; clear HO_3; have BK155 := n0_; have HB := n1_; have HO159 := n2_; clear n0_ n1_ n2_; clear ho hb hg hat; have hcz18_0 : w17.cell? ⟨gb155, 0, none⟩ = some (.int .i64 ((rd_T40 l0 x5_1).f0)) := (blk_cell BK155.out 0).trans rfl; have hcz18_1 : w17.cell? ⟨gb155, 1, none⟩ = some (.int .i64 ((rd_T40 l0 x5_1).f1)) := (blk_cell BK155.out 1).trans rfl; have hfz18_0 := blk_frozen BK155.out 0; have hfz18_1 := blk_frozen BK155.out 1))
               repeat (go_quiet (fail); try go_wp2)
               go_roundg kj4
               case measure => have := HK1.out; have := HJ4.out; omega
               case rel => exact ⟨(y157), (((rd_T40 l0 x5_1).f1)), (wrap64 (x5_1 - 1)), (by first | rfl | (simp; done) | (simp [*]; done)), (by first | rfl | (simp; done) | (simp [*]; done)), H', ⟨by have := HK1.out; have := HJ4.out; omega⟩, ⟨by (with_reducible repeat (first | apply Kd.R_alloc | apply Kd.R_drewN | apply Kd.R_drew)); exact Kd.R_mono HO159.out (fun _ hk => trivial)⟩, ⟨by repeat (first | (with_reducible first | exact HB.out | apply below_alloc | apply pw_below_drewN | apply below_drew1 | refine below_set ?_ GE155.out) | exact HB.out)⟩⟩
              rw [if_neg c15] at H
              exact absurd H (by simp)
             rw [if_neg c14] at H
             have c14b0 : decide (x4_1 < 0) = false := decide_eq_false c14
             clear c14
             by_cases c19 : ((rd_T40 l0 x5_1).f1) < x4_1
             ·rw [if_pos c19] at H
              have c19b0 : decide (((rd_T40 l0 x5_1).f1) < x4_1) = true := decide_eq_true c19
              clear c19
              by_cases c20 : x3_1.length < 8796093022208
              ·rw [if_pos c20] at H
               have LMc20 := Aside0.mk c20
               clear c20
               obtain ⟨y160, hy160⟩ : ∃ y_ : List (S40), y_ = (x3_1 ++ [(⟨((rd_T40 l0 x5_1).f0), ((rd_T40 l0 x5_1).f1)⟩ : S40)]) := ⟨_, rfl⟩
               replace H : (strategy_spans_shortest.l0 kj4 l0 y160 ((rd_T40 l0 x5_1).f1) (wrap64 (x5_1 - 1))) = some r := by first | (rw [hy160]; with_reducible exact H) | (have H2_ := (Option.bind_some _ _).symm.trans H; rw [hy160]; with_reducible exact H2_) | (have H2_ := (Option.bind_some _ _).symm.trans H; with_reducible exact H2_) | with_reducible exact H | (rw [hy160]; exact H) | exact H
               have Ny160 := Aside0.mk hy160
               clear hy160
               have H' := Aside0.mk H
               clear H
               have hcz21_0 : wc.cell? ⟨gb155, 0, none⟩ = some (.int .i64 ((rd_T40 l0 x5_1).f0)) := (blk_cell BK155.out 0).trans rfl
               have hcz21_1 : wc.cell? ⟨gb155, 1, none⟩ = some (.int .i64 ((rd_T40 l0 x5_1).f1)) := (blk_cell BK155.out 1).trans rfl
               have hfz21_0 := blk_frozen BK155.out 0
               have hfz21_1 := blk_frozen BK155.out 1
               go_wp2_with (first | ((with_reducible refine gate_builtin (b := .append) (xs := #[.tmp 39, .tmp 41]) rfl ?_); at_builtin; refine Kd.R_append k40 (w0 := w) w.heap.size rfl (.tmp 39) (.tmp 41) 31 40 (.agg #[(.int .i64 0), (.int .i64 0)]) 16 rfl Try.underlying31 info40 rfl (by decide) (by omega) u3 x3_1 (⟨((rd_T40 l0 x5_1).f0), ((rd_T40 l0 x5_1).f1)⟩ : S40) [.int .i64 ((rd_T40 l0 x5_1).f0), .int .i64 ((rd_T40 l0 x5_1).f1)] (fun k_ => k_ ≠ gb155) (fun _ => False) rfl rfl ?aP (fun _ hk => hk.elim) ?aF ?aO ?aB ?aS ?aL ?_; (case aP => exact k40_mkM _ _ _ (⟨((rd_T40 l0 x5_1).f0), ((rd_T40 l0 x5_1).f1)⟩ : S40)); (case aB => exact (by repeat (first | (with_reducible first | exact HB.out | apply below_alloc | apply pw_below_drewN | apply below_drew1 | refine below_set ?_ GE155.out) | exact HB.out))); (case aF => exact (fun k_ hk => Kd.freshB (g := gb155) (o := .cells #[.int .i64 ((rd_T40 l0 x5_1).f0), .int .i64 ((rd_T40 l0 x5_1).f1)] 40 (0, 0)) (by (with_reducible repeat (first | refine blk_drewN ?_ _ | refine blk_drew ?_ | refine blk_alloc ?_ _)); exact BK155.out) k_ hk)); (case aO => exact (by (with_reducible repeat (first | apply Kd.R_alloc | apply Kd.R_drewN | apply Kd.R_drew)); exact HO_3.out)); (case aS => exact (below_size (by repeat (first | (with_reducible first | exact HB.out | apply below_alloc | apply pw_below_drewN | apply below_drew1 | refine below_set ?_ GE155.out) | exact HB.out)))); (case aL => have := LMc20.out; omega); intro v161 w22 ho hb hg hat; rw [← Ny160.out] at ho; have n0_ := Aside0.mk (blk_grown (g := gb155) (o := .cells #[.int .i64 ((rd_T40 l0 x5_1).f0), .int .i64 ((rd_T40 l0 x5_1).f1)] 40 (0, 0)) (by (with_reducible repeat (first | refine blk_drewN ?_ _ | refine blk_drew ?_ | refine blk_alloc ?_ _)); exact BK155.out) hg (Kd.R_away HO_3.out (fun _ hk => hk))); have n1_ := Aside0.mk (hb); have n2_ := Aside0.mk (ho); clear BK155; clear HB; clear HO_3; have BK155 := n0_; have HB := n1_; have HO162 := n2_; clear n0_ n1_ n2_; clear ho hb hg hat; have hcz23_0 : w22.cell? ⟨gb155, 0, none⟩ = some (.int .i64 ((rd_T40 l0 x5_1).f0)) := (blk_cell BK155.out 0).trans rfl; have hcz23_1 : w22.cell? ⟨gb155, 1, none⟩ = some (.int .i64 ((rd_T40 l0 x5_1).f1)) := (blk_cell BK155.out 1).trans rfl; have hfz23_0 := blk_frozen BK155.out 0; have hfz23_1 := blk_frozen BK155.out 1))
               repeat (go_quiet (fail); try go_wp2)
               go_roundg kj4
               case measure => have := HK1.out; have := HJ4.out; omega
               case rel => exact ⟨(y160), (((rd_T40 l0 x5_1).f1)), (wrap64 (x5_1 - 1)), (by first | rfl | (simp; done) | (simp [*]; done)), (by first | rfl | (simp; done) | (simp [*]; done)), H', ⟨by have := HK1.out; have := HJ4.out; omega⟩, ⟨by (with_reducible repeat (first | apply Kd.R_alloc | apply Kd.R_drewN | apply Kd.R_drew)); exact Kd.R_mono HO162.out (fun _ hk => trivial)⟩, ⟨by repeat (first | (with_reducible first | exact HB.out | apply below_alloc | apply pw_below_drewN | apply below_drew1 | refine below_set ?_ GE155.out) | exact HB.out)⟩⟩
              rw [if_neg c20] at H
              exact absurd H (by simp)
             rw [if_neg c19] at H
             have c19b0 : decide (((rd_T40 l0 x5_1).f1) < x4_1) = false := decide_eq_false c19
             clear c19
             have H' := Aside0.mk H
             clear H
             have hcz24_0 : wc.cell? ⟨gb155, 0, none⟩ = some (.int .i64 ((rd_T40 l0 x5_1).f0)) := (blk_cell BK155.out 0).trans rfl
             have hcz24_1 : wc.cell? ⟨gb155, 1, none⟩ = some (.int .i64 ((rd_T40 l0 x5_1).f1)) := (blk_cell BK155.out 1).trans rfl
             have hfz24_0 := blk_frozen BK155.out 0
             have hfz24_1 := blk_frozen BK155.out 1
             go_wp2
             repeat (go_quiet (fail); try go_wp2)
             go_roundg kj4
             case measure => have := HK1.out; have := HJ4.out; omega
             case rel => exact ⟨(x3_1), (x4_1), (wrap64 (x5_1 - 1)), (by first | rfl | (simp; done) | (simp [*]; done)), (by first | rfl | (simp; done) | (simp [*]; done)), H', ⟨by have := HK1.out; have := HJ4.out; omega⟩, ⟨by (with_reducible repeat (first | apply Kd.R_alloc | apply Kd.R_drewN | apply Kd.R_drew)); exact Kd.R_mono HO_3.out (fun _ hk => trivial)⟩, ⟨by repeat (first | (with_reducible first | exact HB.out | apply below_alloc | apply pw_below_drewN | apply below_drew1 | refine below_set ?_ GE155.out) | exact HB.out)⟩⟩
        rw [if_neg c4] at H
        exact absurd H (by simp)
       rw [if_neg c3] at H
       exact absurd H (by simp)
      rw [if_neg c2] at H
      have c2b0 : decide (0 ≤ x5_1) = false := decide_eq_false c2
      clear c2
      replace H := Option.bind_eq_some_iff.mp H
      obtain ⟨t153, A250, H⟩ := H
      replace H : (some t153) = some r := H
      have A25 := Aside0.mk A250
      clear A250
      obtain rfl := Option.some.inj H
      obtain ⟨Ao26, co26, eo26⟩ := Kd.R_slice HO_3.out
      subst eo26
      go_wp2_with (first | (go_at_call 40; (with_reducible refine (api_Span_40.calls k1 (fun k_ => some k_ = (.slice Ao26 x3_1.length co26 : Value).ownBlock) (.slice Ao26 x3_1.length co26) x3_1 t153 w _ ?side1 ?side2 A25.out).mono ?_); (case side1 => repeat (first | (with_reducible first | exact HB.out | apply below_alloc | apply pw_below_drewN | apply below_drew1) | exact HB.out)); (case side2 => exact Kd.R_tight rfl HO_3.out); rintro e w27 ⟨rfl, hy0, hb, hkp⟩; have n0_ := Aside0.mk (Kd.R_reok rfl hy0 (fun k_ e_ => HO_3.out.1 k_ e_)); have n1_ := Aside0.mk (hb); clear HO_3; clear HB; have HO_3 := n0_; have HB := n1_; clear n0_ n1_; (try clear hb); (try clear hkp); (try clear hy0)))
      repeat (go_quiet (fail); try go_wp2)
      go_ret
      exact ⟨_, by first | rfl | (simp [errW_none, errW_some] <;> rfl) | (simp [*, errW_none, errW_some] <;> rfl), by (with_reducible repeat (first | apply Kd.R_alloc | apply Kd.R_drewN | apply Kd.R_drew)); exact HO_3.out, by repeat (first | (with_reducible first | exact HB.out | apply below_alloc | apply pw_below_drewN | apply below_drew1) | exact HB.out)⟩

end Go.Proofs.Ytmmdlkeemafanaa.Q
