import Derived.Test.YtbecgpjdeophmaaQx0
import Derived.Test.YtbecgpjdeophmaaQx1
namespace Go.Proofs.Ytbecgpjdeophmaa.Q
open Go.RowKit Go.Proofs.YtbecgpjdeophmaaW.PrintWords Go.Proofs.YtbecgpjdeophmaaW.PrintLast Go.Proofs.YtbecgpjdeophmaaW.PrintMore
attribute [local go_sem] max2_int min2_int max_two min_two max_three min_three max_four min_four   -- for this text's walks alone
set_option linter.unusedVariables false
set_option linter.unusedSimpArgs false

attribute [local go_sem high] eqA23

/-! ### corporalaw11_has: function 26 -/
def corporalaw11_has.l0 : Nat → List (S23) → Int → Int → Int → Int → Option (Bool)
  | 0, _, _, _, _, _ => none
  | k + 1, x7, x8, x9, x359000, x359001 => if x9 < x8 then (if 0 ≤ x9 then (if x9 < (x7.length : Int) then (if (((rd_T23 x7 x9).f0) == x359000 && (((rd_T23 x7 x9).f1) == x359001)) = true then (some true) else (corporalaw11_has.l0 k x7 x8 (wrap64 (x9 + 1)) x359000 x359001)) else (none)) else (none)) else (some false)
def corporalaw11_has.f (k : Nat) (l0 : List (S23)) (a1_0 : Int) (a1_1 : Int) : Option (Bool) := corporalaw11_has.l0 k l0 (l0.length : Int) 0 a1_0 a1_1
theorem corporalaw11_has.mono_l : ∀ k, (∀ y0 y1 y2 y3 y4, LeO (corporalaw11_has.l0 k y0 y1 y2 y3 y4) (corporalaw11_has.l0 (k + 1) y0 y1 y2 y3 y4))
  | 0 => fun _ _ _ _ _ r h => by simp [corporalaw11_has.l0] at h
  | k + 1 => by
    have ih0 := corporalaw11_has.mono_l k
    · intro y0 y1 y2 y3 y4
      unfold corporalaw11_has.l0
      repeat' first
      | (with_reducible exact ih0 _ _ _ _ _)
      | (with_reducible exact LeO.refl _)
      | (with_reducible exact LeO.none _)
      | (with_reducible refine LeO.ite ?_ ?_)
      | (with_reducible refine LeO.bind ?_ (fun _ => ?_))
      | exact ih0 _ _ _ _ _
      | exact LeO.none _
      | refine LeO.ite ?_ ?_
      | refine LeO.bind ?_ (fun _ => ?_)
theorem corporalaw11_has.mono : ∀ a0 a1 a2 k, LeO (corporalaw11_has.f k a0 a1 a2) (corporalaw11_has.f (k + 1) a0 a1 a2) := by
  intro a0 a1 a2 k
  have ih0 := corporalaw11_has.mono_l k
  unfold corporalaw11_has.f
  repeat' first
      | (with_reducible exact ih0 _ _ _ _ _)
      | (with_reducible exact LeO.refl _)
      | (with_reducible exact LeO.none _)
      | (with_reducible refine LeO.ite ?_ ?_)
      | (with_reducible refine LeO.bind ?_ (fun _ => ?_))
      | exact ih0 _ _ _ _ _
      | exact LeO.none _
      | refine LeO.ite ?_ ?_
      | refine LeO.bind ?_ (fun _ => ?_)
set_option maxHeartbeats 8000000 in
set_option maxRecDepth 100000 in
theorem corporalaw11_has.calls (k : Nat) (A0 : Option Addr) (c0 : Nat) (l0 : List (S23)) (a1_0 : Int) (a1_1 : Int) (r : Bool) (w : World) (hr0 : Kd.C k23 w A0 l0.length l0) (hc0 : l0.length ≤ c0) (h : corporalaw11_has.f k l0 a1_0 a1_1 = some r) :
    Calls Try.prog 26 #[.slice A0 l0.length c0, .agg #[.int .i64 a1_0, .int .i64 a1_1]] w fun e w' => e = .returned (.bool r) ∧ Below w.heap.size w w' := by
  have hu23 := Try.underlying23
  have HR0 := Aside0.mk hr0
  have HC0 := Aside0.mk hc0
  clear hr0 hc0
  have HB := Aside0.mk (Below.refl w.heap.size w)
  have H : (corporalaw11_has.l0 k l0 (l0.length : Int) 0 a1_0 a1_1) = some r := h
  clear h
  have H' := Aside0.mk H
  clear H
  go_enter Try.func26, Try.ntmps26
  go_wp2_with (first | ((with_reducible refine gate_dst (N := 3) rfl ?_); refine box_event ?hg (N := 3) ?hd (cs := #[.int .i64 a1_0, .int .i64 a1_1]) (t := 23) ?hr ?_; (case hd => rfl); (case hg => rfl); (case hr => first | (go_simp; done) | (go_simp; rfl)); intro gb358 hg w3 hbox hb; have n0_ := Aside0.mk (below_step (by repeat (first | (with_reducible first | exact HB.out | apply below_alloc | apply pw_below_drewN | apply below_drew1) | exact HB.out)) hb); have n1_ := Aside0.mk (hbox); have n2_ := Aside0.mk ((by rw [hg]; exact (below_size (by repeat (first | (with_reducible first | exact HB.out | apply below_alloc | apply pw_below_drewN | apply below_drew1) | exact HB.out))) : w.heap.size ≤ gb358)); have n3_ := Aside0.mk ((by rw [hg]; exact (below_size (by repeat (first | (with_reducible first | exact HB.out | apply below_alloc | apply pw_below_drewN | apply below_drew1) | exact HB.out))) : w.heap.size ≤ gb358)); clear HB; have HB := n0_; have BK358 := n1_; have GW358 := n2_; have GE358 := n3_; clear n0_ n1_ n2_ n3_; clear hb hbox hg))
  go_loopg [9] k (fun kq v9 w' => ∃ (x9_1 : Int), v9 = .int .i64 x9_1 ∧ Aside0 (corporalaw11_has.l0 kq l0 (l0.length : Int) x9_1 a1_0 a1_1 = some r) ∧ Aside0 (kq ≤ k) ∧ Aside0 (w'.heap[gb358]? = some (.cells #[.int .i64 a1_0, .int .i64 a1_1] 23 (0, 0))) ∧ Aside0 (Below w.heap.size w w'))
  case atStart => exact ⟨(0), (by first | rfl | (simp; done) | (simp [*]; done)), H', ⟨Nat.le_refl _⟩, ⟨by (with_reducible repeat (first | refine blk_drewN ?_ _ | refine blk_drew ?_ | refine blk_alloc ?_ _)); exact BK358.out⟩, ⟨by repeat (first | (with_reducible first | exact HB.out | apply below_alloc | apply pw_below_drewN | apply below_drew1 | refine below_set ?_ GE358.out) | exact HB.out)⟩⟩
  case round =>
    clear H'
    try clear c2
    try clear p2
    obtain ⟨x9_1, rfl, HA, HK1, BK358, HB⟩ := hrel
    cases gk with
    | zero => exact absurd HA.out (by simp [corporalaw11_has.l0])
    | succ k1 =>
      have H := HA.out
      clear HA
      simp only [corporalaw11_has.l0] at H
      by_cases c4 : x9_1 < (l0.length : Int)
      · rw [if_pos c4] at H
        have c4b0 : decide (x9_1 < (l0.length : Int)) = true := decide_eq_true c4
        clear c4
        by_cases c5 : 0 ≤ x9_1
        · rw [if_pos c5] at H
          have c5b0 : decide (0 ≤ x9_1) = true := decide_eq_true c5
          clear c5
          by_cases c6 : x9_1 < (l0.length : Int)
          · rw [if_pos c6] at H
            have c6b0 : decide (x9_1 < (l0.length : Int)) = true := decide_eq_true c6
            clear c6
            by_cases c7 : (((rd_T23 l0 x9_1).f0) == a1_0 && (((rd_T23 l0 x9_1).f1) == a1_1)) = true
            · rw [if_pos c7] at H
              have c7b0 : (((rd_T23 l0 x9_1).f0) == a1_0 && (((rd_T23 l0 x9_1).f1) == a1_1)) = true := c7
              (try (have c7b1 : decide (((rd_T23 l0 x9_1).f0) = a1_0 && (((rd_T23 l0 x9_1).f1) == a1_1)) = true := by simpa using c7))
              (try (have c7b2 : (((rd_T23 l0 x9_1).f0) == a1_0 && (((rd_T23 l0 x9_1).f1) == a1_1)) = true := by simpa using c7))
              clear c7
              obtain rfl := Option.some.inj H
              have p359 : 0 ≤ (x9_1 : Int) := of_decide_eq_true (by first | (with_reducible assumption) | assumption)
              have q359 : x9_1 < (l0.length : Int) := of_decide_eq_true (by first | (with_reducible assumption) | assumption)
              obtain ⟨ad359, e359, hx359_0, hx359_1⟩ := at_T23 HR0.out x9_1 p359 q359
              cases e359
              replace hx359_0 := (HB.out.cell (World.block_lt_of_cell? w _ hx359_0)).trans hx359_0
              replace hx359_1 := (HB.out.cell (World.block_lt_of_cell? w _ hx359_1)).trans hx359_1
              replace p359 := eq_true p359
              replace q359 := eq_true q359
              go_wp2_with (first | ((with_reducible refine gate_dst (N := 6) rfl ?_); refine box_event ?hg (N := 6) ?hd (cs := #[.int .i64 0, .int .i64 0]) (t := 23) ?hr ?_; (case hd => rfl); (case hg => rfl); (case hr => first | (go_simp; done) | (go_simp; rfl)); intro gb360 hg w8 hbox hb; have n0_ := Aside0.mk (blk_below (g := gb358) (o := .cells #[.int .i64 a1_0, .int .i64 a1_1] 23 (0, 0)) (by (with_reducible repeat (first | refine blk_drewN ?_ _ | refine blk_drew ?_ | refine blk_alloc ?_ _)); exact BK358.out) hb); have n1_ := Aside0.mk (below_step (by repeat (first | (with_reducible first | exact HB.out | apply below_alloc | apply pw_below_drewN | apply below_drew1 | refine below_set ?_ GE358.out) | exact HB.out)) hb); have n2_ := Aside0.mk (hbox); have n3_ := Aside0.mk ((by rw [hg]; exact (below_size (by repeat (first | (with_reducible first | exact HB.out | apply below_alloc | apply pw_below_drewN | apply below_drew1 | refine below_set ?_ GE358.out) | exact HB.out))) : w.heap.size ≤ gb360)); have n4_ := Aside0.mk ((by rw [hg]; exact (below_size (by repeat (first | (with_reducible first | exact HB.out | apply below_alloc | apply pw_below_drewN | apply below_drew1 | refine below_set ?_ GE358.out) | exact HB.out))) : w.heap.size ≤ gb360)); have n5_ := Aside0.mk ((by rw [hg]; exact Nat.ne_of_lt (blk_lt (g := gb358) (o := .cells #[.int .i64 a1_0, .int .i64 a1_1] 23 (0, 0)) (by (with_reducible repeat (first | refine blk_drewN ?_ _ | refine blk_drew ?_ | refine blk_alloc ?_ _)); exact BK358.out)) : gb358 ≠ gb360)); have n6_ := Aside0.mk ((by rw [hg]; exact Nat.ne_of_gt (blk_lt (g := gb358) (o := .cells #[.int .i64 a1_0, .int .i64 a1_1] 23 (0, 0)) (by (with_reducible repeat (first | refine blk_drewN ?_ _ | refine blk_drew ?_ | refine blk_alloc ?_ _)); exact BK358.out)) : gb360 ≠ gb358)); clear BK358; clear HB; have BK358 := n0_; have HB := n1_; have BK360 := n2_; have GW360 := n3_; have GE360 := n4_; have NB358_360 := n5_; have NB360_358 := n6_; clear n0_ n1_ n2_ n3_ n4_ n5_ n6_; clear hb hbox hg; have hnb9 := NB360_358.out; have hnc9 := NB358_360.out; have hcz10_0 : w8.cell? ⟨gb360, 0, none⟩ = some (.int .i64 0) := (blk_cell BK360.out 0).trans rfl; have hcz10_1 : w8.cell? ⟨gb360, 1, none⟩ = some (.int .i64 0) := (blk_cell BK360.out 1).trans rfl; have hfz10_0 := blk_frozen BK360.out 0; have hfz10_1 := blk_frozen BK360.out 1; have hcz11_0 : w8.cell? ⟨gb358, 0, none⟩ = some (.int .i64 a1_0) := (blk_cell BK358.out 0).trans rfl; have hcz11_1 : w8.cell? ⟨gb358, 1, none⟩ = some (.int .i64 a1_1) := (blk_cell BK358.out 1).trans rfl; have hfz11_0 := blk_frozen BK358.out 0; have hfz11_1 := blk_frozen BK358.out 1))
              go_ret
              exact ⟨by first | rfl | (simp [errW_none, errW_some] <;> rfl) | (simp [*, errW_none, errW_some] <;> rfl), by repeat (first | (with_reducible first | exact HB.out | apply below_alloc | apply pw_below_drewN | apply below_drew1 | refine below_set ?_ GE358.out | refine below_set ?_ GE360.out) | exact HB.out)⟩
            · rw [if_neg c7] at H
              have c7b0 : (((rd_T23 l0 x9_1).f0) == a1_0 && (((rd_T23 l0 x9_1).f1) == a1_1)) = false := by simpa using c7
              (try (have c7b1 : decide (((rd_T23 l0 x9_1).f0) = a1_0 && (((rd_T23 l0 x9_1).f1) == a1_1)) = false := by simpa using c7))
              (try (have c7b2 : (((rd_T23 l0 x9_1).f0) == a1_0 && (((rd_T23 l0 x9_1).f1) == a1_1)) = false := by simpa using c7))
              (try (have c7b3 : ¬ (((rd_T23 l0 x9_1).f0) = a1_0 && (((rd_T23 l0 x9_1).f1) == a1_1)) := by simpa using c7))
              clear c7
              have H' := Aside0.mk H
              clear H
              have p359 : 0 ≤ (x9_1 : Int) := of_decide_eq_true (by first | (with_reducible assumption) | assumption)
              have q359 : x9_1 < (l0.length : Int) := of_decide_eq_true (by first | (with_reducible assumption) | assumption)
              obtain ⟨ad359, e359, hx359_0, hx359_1⟩ := at_T23 HR0.out x9_1 p359 q359
              cases e359
              replace hx359_0 := (HB.out.cell (World.block_lt_of_cell? w _ hx359_0)).trans hx359_0
              replace hx359_1 := (HB.out.cell (World.block_lt_of_cell? w _ hx359_1)).trans hx359_1
              replace p359 := eq_true p359
              replace q359 := eq_true q359
              go_wp2_with (first | ((with_reducible refine gate_dst (N := 6) rfl ?_); refine box_event ?hg (N := 6) ?hd (cs := #[.int .i64 0, .int .i64 0]) (t := 23) ?hr ?_; (case hd => rfl); (case hg => rfl); (case hr => first | (go_simp; done) | (go_simp; rfl)); intro gb360 hg w12 hbox hb; have n0_ := Aside0.mk (blk_below (g := gb358) (o := .cells #[.int .i64 a1_0, .int .i64 a1_1] 23 (0, 0)) (by (with_reducible repeat (first | refine blk_drewN ?_ _ | refine blk_drew ?_ | refine blk_alloc ?_ _)); exact BK358.out) hb); have n1_ := Aside0.mk (below_step (by repeat (first | (with_reducible first | exact HB.out | apply below_alloc | apply pw_below_drewN | apply below_drew1 | refine below_set ?_ GE358.out) | exact HB.out)) hb); have n2_ := Aside0.mk (hbox); have n3_ := Aside0.mk ((by rw [hg]; exact (below_size (by repeat (first | (with_reducible first | exact HB.out | apply below_alloc | apply pw_below_drewN | apply below_drew1 | refine below_set ?_ GE358.out) | exact HB.out))) : w.heap.size ≤ gb360)); have n4_ := Aside0.mk ((by rw [hg]; exact (below_size (by repeat (first | (with_reducible first | exact HB.out | apply below_alloc | apply pw_below_drewN | apply below_drew1 | refine below_set ?_ GE358.out) | exact HB.out))) : w.heap.size ≤ gb360)); have n5_ := Aside0.mk ((by rw [hg]; exact Nat.ne_of_lt (blk_lt (g := gb358) (o := .cells #[.int .i64 a1_0, .int .i64 a1_1] 23 (0, 0)) (by (with_reducible repeat (first | refine blk_drewN ?_ _ | refine blk_drew ?_ | refine blk_alloc ?_ _)); exact BK358.out)) : gb358 ≠ gb360)); have n6_ := Aside0.mk ((by rw [hg]; exact Nat.ne_of_gt (blk_lt (g := gb358) (o := .cells #[.int .i64 a1_0, .int .i64 a1_1] 23 (0, 0)) (by (with_reducible repeat (first | refine blk_drewN ?_ _ | refine blk_drew ?_ | refine blk_alloc ?_ _)); exact BK358.out)) : gb360 ≠ gb358)); clear BK358; clear HB; have BK358 := n0_; have HB := n1_; have BK360 := n2_; have GW360 := n3_; have GE360 := n4_; have NB358_360 := n5_; have NB360_358 := n6_; clear n0_ n1_ n2_ n3_ n4_ n5_ n6_; clear hb hbox hg; have hnb13 := NB360_358.out; have hnc13 := NB358_360.out; have hcz14_0 : w12.cell? ⟨gb360, 0, none⟩ = some (.int .i64 0) := (blk_cell BK360.out 0).trans rfl; have hcz14_1 : w12.cell? ⟨gb360, 1, none⟩ = some (.int .i64 0) := (blk_cell BK360.out 1).trans rfl; have hfz14_0 := blk_frozen BK360.out 0; have hfz14_1 := blk_frozen BK360.out 1; have hcz15_0 : w12.cell? ⟨gb358, 0, none⟩ = some (.int .i64 a1_0) := (blk_cell BK358.out 0).trans rfl; have hcz15_1 : w12.cell? ⟨gb358, 1, none⟩ = some (.int .i64 a1_1) := (blk_cell BK358.out 1).trans rfl; have hfz15_0 := blk_frozen BK358.out 0; have hfz15_1 := blk_frozen BK358.out 1))
              go_roundg k1
              case measure => have := HK1.out; omega
              case rel => exact ⟨(wrap64 (x9_1 + 1)), (by first | rfl | (simp; done) | (simp [*]; done)), H', ⟨by have := HK1.out; omega⟩, ⟨by (with_reducible repeat (first | refine blk_drewN ?_ _ | refine blk_drew ?_ | refine blk_alloc ?_ _)); refine blk_far ?_ NB358_360.out _; (with_reducible repeat (first | refine blk_drewN ?_ _ | refine blk_drew ?_ | refine blk_alloc ?_ _)); refine blk_far ?_ NB358_360.out _; (with_reducible repeat (first | refine blk_drewN ?_ _ | refine blk_drew ?_ | refine blk_alloc ?_ _)); exact BK358.out⟩, ⟨by repeat (first | (with_reducible first | exact HB.out | apply below_alloc | apply pw_below_drewN | apply below_drew1 | refine below_set ?_ GE358.out | refine below_set ?_ GE360.out) | exact HB.out)⟩⟩
          · rw [if_neg c6] at H
            exact absurd H (by simp)
        · rw [if_neg c5] at H
          exact absurd H (by simp)
      · rw [if_neg c4] at H
        have c4b0 : decide (x9_1 < (l0.length : Int)) = false := decide_eq_false c4
        clear c4
        obtain rfl := Option.some.inj H
        go_wp2
        go_ret
        exact ⟨by first | rfl | (simp [errW_none, errW_some] <;> rfl) | (simp [*, errW_none, errW_some] <;> rfl), by repeat (first | (with_reducible first | exact HB.out | apply below_alloc | apply pw_below_drewN | apply below_drew1 | refine below_set ?_ GE358.out) | exact HB.out)⟩

end Go.Proofs.Ytbecgpjdeophmaa.Q
