import Derived.Test.YtbecgpjdeophmaaQx0
import Derived.Test.YtbecgpjdeophmaaQx1
import Derived.Test.YtbecgpjdeophmaaQj
import Derived.Test.YtbecgpjdeophmaaQk
namespace Go.Proofs.Ytbecgpjdeophmaa.Q
open Go.RowKit Go.Proofs.YtbecgpjdeophmaaW.PrintWords Go.Proofs.YtbecgpjdeophmaaW.PrintLast Go.Proofs.YtbecgpjdeophmaaW.PrintMore
attribute [local go_sem] max2_int min2_int max_two min_two max_three min_three max_four min_four   -- for this text's walks alone
set_option linter.unusedVariables false
set_option linter.unusedSimpArgs false

attribute [local go_sem high] eqA23

/-! ### corporaref11_Contains: function 33 -/
def corporaref11_Contains.f (a0_0 : Int) (a0_1 : Int) (a1_0 : Int) (a1_1 : Int) : Option (Bool) := if a0_0 ≤ a1_0 then (some (decide (a1_1 ≤ a0_1))) else (some false)
set_option maxHeartbeats 8000000 in
set_option maxRecDepth 100000 in
theorem corporaref11_Contains.calls (a0_0 : Int) (a0_1 : Int) (a1_0 : Int) (a1_1 : Int) (r : Bool) (w : World) (h : corporaref11_Contains.f a0_0 a0_1 a1_0 a1_1 = some r) :
    Calls Try.prog 33 #[.agg #[.int .i64 a0_0, .int .i64 a0_1], .agg #[.int .i64 a1_0, .int .i64 a1_1]] w fun e w' => e = .returned (.bool r) ∧ Below w.heap.size w w' := by
  have hu23 := Try.underlying23
  have HB := Aside0.mk (Below.refl w.heap.size w)
  have H : (if a0_0 ≤ a1_0 then (some (decide (a1_1 ≤ a0_1))) else (some false)) = some r := h
  clear h
  by_cases c3 : a0_0 ≤ a1_0
  · rw [if_pos c3] at H
    have c3b0 : decide (a0_0 ≤ a1_0) = true := decide_eq_true c3
    clear c3
    obtain rfl := Option.some.inj H
    go_enter Try.func33, Try.ntmps33
    go_wp2_with (first | ((with_reducible refine gate_dst (N := 2) rfl ?_); refine box_event ?hg (N := 2) ?hd (cs := #[.int .i64 a0_0, .int .i64 a0_1]) (t := 23) ?hr ?_; (case hd => rfl); (case hg => rfl); (case hr => first | (go_simp; done) | (go_simp; rfl)); intro gb325 hg w4 hbox hb; have n0_ := Aside0.mk (below_step (by repeat (first | (with_reducible first | exact HB.out | apply below_alloc | apply pw_below_drewN | apply below_drew1) | exact HB.out)) hb); have n1_ := Aside0.mk (hbox); have n2_ := Aside0.mk ((by rw [hg]; exact (below_size (by repeat (first | (with_reducible first | exact HB.out | apply below_alloc | apply pw_below_drewN | apply below_drew1) | exact HB.out))) : w.heap.size ≤ gb325)); have n3_ := Aside0.mk ((by rw [hg]; exact (below_size (by repeat (first | (with_reducible first | exact HB.out | apply below_alloc | apply pw_below_drewN | apply below_drew1) | exact HB.out))) : w.heap.size ≤ gb325)); clear HB; have HB := n0_; have BK325 := n1_; have GW325 := n2_; have GE325 := n3_; clear n0_ n1_ n2_ n3_; clear hb hbox hg) | ((with_reducible refine gate_dst (N := 3) rfl ?_); refine box_event ?hg (N := 3) ?hd (cs := #[.int .i64 a1_0, .int .i64 a1_1]) (t := 23) ?hr ?_; (case hd => rfl); (case hg => rfl); (case hr => first | (go_simp; done) | (go_simp; rfl)); intro gb326 hg w5 hbox hb; have n0_ := Aside0.mk (blk_below (g := gb325) (o := .cells #[.int .i64 a0_0, .int .i64 a0_1] 23 (0, 0)) (by (with_reducible repeat (first | refine blk_drewN ?_ _ | refine blk_drew ?_ | refine blk_alloc ?_ _)); exact BK325.out) hb); have n1_ := Aside0.mk (below_step (by repeat (first | (with_reducible first | exact HB.out | apply below_alloc | apply pw_below_drewN | apply below_drew1 | refine below_set ?_ GE325.out) | exact HB.out)) hb); have n2_ := Aside0.mk (hbox); have n3_ := Aside0.mk ((by rw [hg]; exact (below_size (by repeat (first | (with_reducible first | exact HB.out | apply below_alloc | apply pw_below_drewN | apply below_drew1 | refine below_set ?_ GE325.out) | exact HB.out))) : w.heap.size ≤ gb326)); have n4_ := Aside0.mk ((by rw [hg]; exact (below_size (by repeat (first | (with_reducible first | exact HB.out | apply below_alloc | apply pw_below_drewN | apply below_drew1 | refine below_set ?_ GE325.out) | exact HB.out))) : w.heap.size ≤ gb326)); have n5_ := Aside0.mk ((by rw [hg]; exact Nat.ne_of_lt (blk_lt (g := gb325) (o := .cells #[.int .i64 a0_0, .int .i64 a0_1] 23 (0, 0)) (by (with_reducible repeat (first | refine blk_drewN ?_ _ | refine blk_drew ?_ | refine blk_alloc ?_ _)); exact BK325.out)) : gb325 ≠ gb326)); have n6_ := Aside0.mk ((by rw [hg]; exact Nat.ne_of_gt (blk_lt (g := gb325) (o := .cells #[.int .i64 a0_0, .int .i64 a0_1] 23 (0, 0)) (by (with_reducible repeat (first | refine blk_drewN ?_ _ | refine blk_drew ?_ | refine blk_alloc ?_ _)); exact BK325.out)) : gb326 ≠ gb325)); clear BK325; clear HB; have BK325 := n0_; have HB := n1_; have BK326 := n2_; have GW326 := n3_; have GE326 := n4_; have NB325_326 := n5_; have NB326_325 := n6_; clear n0_ n1_ n2_ n3_ n4_ n5_ n6_; clear hb hbox hg; have hnb6 := NB325_326.out; have hnc6 := NB326_325.out; have hcz7_0 : w5.cell? ⟨gb325, 0, none⟩ = some (.int .i64 a0_0) := (blk_cell BK325.out 0).trans rfl; have hcz7_1 : w5.cell? ⟨gb325, 1, none⟩ = some (.int .i64 a0_1) := (blk_cell BK325.out 1).trans rfl; have hfz7_0 := blk_frozen BK325.out 0; have hfz7_1 := blk_frozen BK325.out 1; have hcz8_0 : w5.cell? ⟨gb326, 0, none⟩ = some (.int .i64 a1_0) := (blk_cell BK326.out 0).trans rfl; have hcz8_1 : w5.cell? ⟨gb326, 1, none⟩ = some (.int .i64 a1_1) := (blk_cell BK326.out 1).trans rfl; have hfz8_0 := blk_frozen BK326.out 0; have hfz8_1 := blk_frozen BK326.out 1))
    go_ret
    exact ⟨by first | rfl | (simp [errW_none, errW_some] <;> rfl) | (simp [*, errW_none, errW_some] <;> rfl), by repeat (first | (with_reducible first | exact HB.out | apply below_alloc | apply pw_below_drewN | apply below_drew1 | refine below_set ?_ GE325.out | refine below_set ?_ GE326.out) | exact HB.out)⟩
  rw [if_neg c3] at H
  have c3b0 : decide (a0_0 ≤ a1_0) = false := decide_eq_false c3
  clear c3
  obtain rfl := Option.some.inj H
  go_enter Try.func33, Try.ntmps33
  go_wp2_with (first | ((with_reducible refine gate_dst (N := 2) rfl ?_); refine box_event ?hg (N := 2) ?hd (cs := #[.int .i64 a0_0, .int .i64 a0_1]) (t := 23) ?hr ?_; (case hd => rfl); (case hg => rfl); (case hr => first | (go_simp; done) | (go_simp; rfl)); intro gb325 hg w9 hbox hb; have n0_ := Aside0.mk (below_step (by repeat (first | (with_reducible first | exact HB.out | apply below_alloc | apply pw_below_drewN | apply below_drew1) | exact HB.out)) hb); have n1_ := Aside0.mk (hbox); have n2_ := Aside0.mk ((by rw [hg]; exact (below_size (by repeat (first | (with_reducible first | exact HB.out | apply below_alloc | apply pw_below_drewN | apply below_drew1) | exact HB.out))) : w.heap.size ≤ gb325)); have n3_ := Aside0.mk ((by rw [hg]; exact (below_size (by repeat (first | (with_reducible first | exact HB.out | apply below_alloc | apply pw_below_drewN | apply below_drew1) | exact HB.out))) : w.heap.size ≤ gb325)); clear HB; have HB := n0_; have BK325 := n1_; have GW325 := n2_; have GE325 := n3_; clear n0_ n1_ n2_ n3_; clear hb hbox hg) | ((with_reducible refine gate_dst (N := 3) rfl ?_); refine box_event ?hg (N := 3) ?hd (cs := #[.int .i64 a1_0, .int .i64 a1_1]) (t := 23) ?hr ?_; (case hd => rfl); (case hg => rfl); (case hr => first | (go_simp; done) | (go_simp; rfl)); intro gb326 hg w10 hbox hb; have n0_ := Aside0.mk (blk_below (g := gb325) (o := .cells #[.int .i64 a0_0, .int .i64 a0_1] 23 (0, 0)) (by (with_reducible repeat (first | refine blk_drewN ?_ _ | refine blk_drew ?_ | refine blk_alloc ?_ _)); exact BK325.out) hb); have n1_ := Aside0.mk (below_step (by repeat (first | (with_reducible first | exact HB.out | apply below_alloc | apply pw_below_drewN | apply below_drew1 | refine below_set ?_ GE325.out) | exact HB.out)) hb); have n2_ := Aside0.mk (hbox); have n3_ := Aside0.mk ((by rw [hg]; exact (below_size (by repeat (first | (with_reducible first | exact HB.out | apply below_alloc | apply pw_below_drewN | apply below_drew1 | refine below_set ?_ GE325.out) | exact HB.out))) : w.heap.size ≤ gb326)); have n4_ := Aside0.mk ((by rw [hg]; exact (below_size (by repeat (first | (with_reducible first | exact HB.out | apply below_alloc | apply pw_below_drewN | apply below_drew1 | refine below_set ?_ GE325.out) | exact HB.out))) : w.heap.size ≤ gb326)); have n5_ := Aside0.mk ((by rw [hg]; exact Nat.ne_of_lt (blk_lt (g := gb325) (o := .cells #[.int .i64 a0_0, .int .i64 a0_1] 23 (0, 0)) (by (with_reducible repeat (first | refine blk_drewN ?_ _ | refine blk_drew ?_ | refine blk_alloc ?_ _)); exact BK325.out)) : gb325 ≠ gb326)); have n6_ := Aside0.mk ((by rw [hg]; exact Nat.ne_of_gt (blk_lt (g := gb325) (o := .cells #[.int .i64 a0_0, .int .i64 a0_1] 23 (0, 0)) (by (with_reducible repeat (first | refine blk_drewN ?_ _ | refine blk_drew ?_ | refine blk_alloc ?_ _)); exact BK325.out)) : gb326 ≠ gb325)); clear BK325; clear HB; have BK325 := n0_; have HB := n1_; have BK326 := n2_; have GW326 := n3_; have GE326 := n4_; have NB325_326 := n5_; have NB326_325 := n6_; clear n0_ n1_ n2_ n3_ n4_ n5_ n6_; clear hb hbox hg; have hnb11 := NB325_326.out; have hnc11 := NB326_325.out; have hcz12_0 : w10.cell? ⟨gb325, 0, none⟩ = some (.int .i64 a0_0) := (blk_cell BK325.out 0).trans rfl; have hcz12_1 : w10.cell? ⟨gb325, 1, none⟩ = some (.int .i64 a0_1) := (blk_cell BK325.out 1).trans rfl; have hfz12_0 := blk_frozen BK325.out 0; have hfz12_1 := blk_frozen BK325.out 1; have hcz13_0 : w10.cell? ⟨gb326, 0, none⟩ = some (.int .i64 a1_0) := (blk_cell BK326.out 0).trans rfl; have hcz13_1 : w10.cell? ⟨gb326, 1, none⟩ = some (.int .i64 a1_1) := (blk_cell BK326.out 1).trans rfl; have hfz13_0 := blk_frozen BK326.out 0; have hfz13_1 := blk_frozen BK326.out 1))
  go_ret
  exact ⟨by first | rfl | (simp [errW_none, errW_some] <;> rfl) | (simp [*, errW_none, errW_some] <;> rfl), by repeat (first | (with_reducible first | exact HB.out | apply below_alloc | apply pw_below_drewN | apply below_drew1 | refine below_set ?_ GE325.out | refine below_set ?_ GE326.out) | exact HB.out)⟩

/-! ### corporaref11_Overlap: function 34 -/
def corporaref11_Overlap.f (a0_0 : Int) (a0_1 : Int) (a1_0 : Int) (a1_1 : Int) : Option (Bool) := if a0_0 < a1_1 then (some (decide (a1_0 < a0_1))) else (some false)
set_option maxHeartbeats 8000000 in
set_option maxRecDepth 100000 in
theorem corporaref11_Overlap.calls (a0_0 : Int) (a0_1 : Int) (a1_0 : Int) (a1_1 : Int) (r : Bool) (w : World) (h : corporaref11_Overlap.f a0_0 a0_1 a1_0 a1_1 = some r) :
    Calls Try.prog 34 #[.agg #[.int .i64 a0_0, .int .i64 a0_1], .agg #[.int .i64 a1_0, .int .i64 a1_1]] w fun e w' => e = .returned (.bool r) ∧ Below w.heap.size w w' := by
  have hu23 := Try.underlying23
  have HB := Aside0.mk (Below.refl w.heap.size w)
  have H : (if a0_0 < a1_1 then (some (decide (a1_0 < a0_1))) else (some false)) = some r := h
  clear h
  by_cases c3 : a0_0 < a1_1
  · rw [if_pos c3] at H
    have c3b0 : decide (a0_0 < a1_1) = true := decide_eq_true c3
    clear c3
    obtain rfl := Option.some.inj H
    go_enter Try.func34, Try.ntmps34
    go_wp2_with (first | ((with_reducible refine gate_dst (N := 2) rfl ?_); refine box_event ?hg (N := 2) ?hd (cs := #[.int .i64 a0_0, .int .i64 a0_1]) (t := 23) ?hr ?_; (case hd => rfl); (case hg => rfl); (case hr => first | (go_simp; done) | (go_simp; rfl)); intro gb327 hg w4 hbox hb; have n0_ := Aside0.mk (below_step (by repeat (first | (with_reducible first | exact HB.out | apply below_alloc | apply pw_below_drewN | apply below_drew1) | exact HB.out)) hb); have n1_ := Aside0.mk (hbox); have n2_ := Aside0.mk ((by rw [hg]; exact (below_size (by repeat (first | (with_reducible first | exact HB.out | apply below_alloc | apply pw_below_drewN | apply below_drew1) | exact HB.out))) : w.heap.size ≤ gb327)); have n3_ := Aside0.mk ((by rw [hg]; exact (below_size (by repeat (first | (with_reducible first | exact HB.out | apply below_alloc | apply pw_below_drewN | apply below_drew1) | exact HB.out))) : w.heap.size ≤ gb327)); clear HB; have HB := n0_; have BK327 := n1_; have GW327 := n2_; have GE327 := n3_; clear n0_ n1_ n2_ n3_; clear hb hbox hg) | ((with_reducible refine gate_dst (N := 3) rfl ?_); refine box_event ?hg (N := 3) ?hd (cs := #[.int .i64 a1_0, .int .i64 a1_1]) (t := 23) ?hr ?_; (case hd => rfl); (case hg => rfl); (case hr => first | (go_simp; done) | (go_simp; rfl)); intro gb328 hg w5 hbox hb; have n0_ := Aside0.mk (blk_below (g := gb327) (o := .cells #[.int .i64 a0_0, .int .i64 a0_1] 23 (0, 0)) (by (with_reducible repeat (first | refine blk_drewN ?_ _ | refine blk_drew ?_ | refine blk_alloc ?_ _)); exact BK327.out) hb); have n1_ := Aside0.mk (below_step (by repeat (first | (with_reducible first | exact HB.out | apply below_alloc | apply pw_below_drewN | apply below_drew1 | refine below_set ?_ GE327.out) | exact HB.out)) hb); have n2_ := Aside0.mk (hbox); have n3_ := Aside0.mk ((by rw [hg]; exact (below_size (by repeat (first | (with_reducible first | exact HB.out | apply below_alloc | apply pw_below_drewN | apply below_drew1 | refine below_set ?_ GE327.out) | exact HB.out))) : w.heap.size ≤ gb328)); have n4_ := Aside0.mk ((by rw [hg]; exact (below_size (by repeat (first | (with_reducible first | exact HB.out | apply below_alloc | apply pw_below_drewN | apply below_drew1 | refine below_set ?_ GE327.out) | exact HB.out))) : w.heap.size ≤ gb328)); have n5_ := Aside0.mk ((by rw [hg]; exact Nat.ne_of_lt (blk_lt (g := gb327) (o := .cells #[.int .i64 a0_0, .int .i64 a0_1] 23 (0, 0)) (by (with_reducible repeat (first | refine blk_drewN ?_ _ | refine blk_drew ?_ | refine blk_alloc ?_ _)); exact BK327.out)) : gb327 ≠ gb328)); have n6_ := Aside0.mk ((by rw [hg]; exact Nat.ne_of_gt (blk_lt (g := gb327) (o := .cells #[.int .i64 a0_0, .int .i64 a0_1] 23 (0, 0)) (by (with_reducible repeat (first | refine blk_drewN ?_ _ | refine blk_drew ?_ | refine blk_alloc ?_ _)); exact BK327.out)) : gb328 ≠ gb327)); clear BK327; clear HB; have BK327 := n0_; have HB := n1_; have BK328 := n2_; have GW328 := n3_; have GE328 := n4_; have NB327_328 := n5_; have NB328_327 := n6_; clear n0_ n1_ n2_ n3_ n4_ n5_ n6_; clear hb hbox hg; have hnb6 := NB327_328.out; have hnc6 := NB328_327.out; have hcz7_0 : w5.cell? ⟨gb327, 0, none⟩ = some (.int .i64 a0_0) := (blk_cell BK327.out 0).trans rfl; have hcz7_1 : w5.cell? ⟨gb327, 1, none⟩ = some (.int .i64 a0_1) := (blk_cell BK327.out 1).trans rfl; have hfz7_0 := blk_frozen BK327.out 0; have hfz7_1 := blk_frozen BK327.out 1; have hcz8_0 : w5.cell? ⟨gb328, 0, none⟩ = some (.int .i64 a1_0) := (blk_cell BK328.out 0).trans rfl; have hcz8_1 : w5.cell? ⟨gb328, 1, none⟩ = some (.int .i64 a1_1) := (blk_cell BK328.out 1).trans rfl; have hfz8_0 := blk_frozen BK328.out 0; have hfz8_1 := blk_frozen BK328.out 1))
    go_ret
    exact ⟨by first | rfl | (simp [errW_none, errW_some] <;> rfl) | (simp [*, errW_none, errW_some] <;> rfl), by repeat (first | (with_reducible first | exact HB.out | apply below_alloc | apply pw_below_drewN | apply below_drew1 | refine below_set ?_ GE327.out | refine below_set ?_ GE328.out) | exact HB.out)⟩
  rw [if_neg c3] at H
  have c3b0 : decide (a0_0 < a1_1) = false := decide_eq_false c3
  clear c3
  obtain rfl := Option.some.inj H
  go_enter Try.func34, Try.ntmps34
  go_wp2_with (first | ((with_reducible refine gate_dst (N := 2) rfl ?_); refine box_event ?hg (N := 2) ?hd (cs := #[.int .i64 a0_0, .int .i64 a0_1]) (t := 23) ?hr ?_; (case hd => rfl); (case hg => rfl); (case hr => first | (go_simp; done) | (go_simp; rfl)); intro gb327 hg w9 hbox hb; have n0_ := Aside0.mk (below_step (by repeat (first | (with_reducible first | exact HB.out | apply below_alloc | apply pw_below_drewN | apply below_drew1) | exact HB.out)) hb); have n1_ := Aside0.mk (hbox); have n2_ := Aside0.mk ((by rw [hg]; exact (below_size (by repeat (first | (with_reducible first | exact HB.out | apply below_alloc | apply pw_below_drewN | apply below_drew1) | exact HB.out))) : w.heap.size ≤ gb327)); have n3_ := Aside0.mk ((by rw [hg]; exact (below_size (by repeat (first | (with_reducible first | exact HB.out | apply below_alloc | apply pw_below_drewN | apply below_drew1) | exact HB.out))) : w.heap.size ≤ gb327)); clear HB; have HB := n0_; have BK327 := n1_; have GW327 := n2_; have GE327 := n3_; clear n0_ n1_ n2_ n3_; clear hb hbox hg) | ((with_reducible refine gate_dst (N := 3) rfl ?_); refine box_event ?hg (N := 3) ?hd (cs := #[.int .i64 a1_0, .int .i64 a1_1]) (t := 23) ?hr ?_; (case hd => rfl); (case hg => rfl); (case hr => first | (go_simp; done) | (go_simp; rfl)); intro gb328 hg w10 hbox hb; have n0_ := Aside0.mk (blk_below (g := gb327) (o := .cells #[.int .i64 a0_0, .int .i64 a0_1] 23 (0, 0)) (by (with_reducible repeat (first | refine blk_drewN ?_ _ | refine blk_drew ?_ | refine blk_alloc ?_ _)); exact BK327.out) hb); have n1_ := Aside0.mk (below_step (by repeat (first | (with_reducible first | exact HB.out | apply below_alloc | apply pw_below_drewN | apply below_drew1 | refine below_set ?_ GE327.out) | exact HB.out)) hb); have n2_ := Aside0.mk (hbox); have n3_ := Aside0.mk ((by rw [hg]; exact (below_size (by repeat (first | (with_reducible first | exact HB.out | apply below_alloc | apply pw_below_drewN | apply below_drew1 | refine below_set ?_ GE327.out) | exact HB.out))) : w.heap.size ≤ gb328)); have n4_ := Aside0.mk ((by rw [hg]; exact (below_size (by repeat (first | (with_reducible first | exact HB.out | apply below_alloc | apply pw_below_drewN | apply below_drew1 | refine below_set ?_ GE327.out) | exact HB.out))) : w.heap.size ≤ gb328)); have n5_ := Aside0.mk ((by rw [hg]; exact Nat.ne_of_lt (blk_lt (g := gb327) (o := .cells #[.int .i64 a0_0, .int .i64 a0_1] 23 (0, 0)) (by (with_reducible repeat (first | refine blk_drewN ?_ _ | refine blk_drew ?_ | refine blk_alloc ?_ _)); exact BK327.out)) : gb327 ≠ gb328)); have n6_ := Aside0.mk ((by rw [hg]; exact Nat.ne_of_gt (blk_lt (g := gb327) (o := .cells #[.int .i64 a0_0, .int .i64 a0_1] 23 (0, 0)) (by (with_reducible repeat (first | refine blk_drewN ?_ _ | refine blk_drew ?_ | refine blk_alloc ?_ _)); exact BK327.out)) : gb328 ≠ gb327)); clear BK327; clear HB; have BK327 := n0_; have HB := n1_; have BK328 := n2_; have GW328 := n3_; have GE328 := n4_; have NB327_328 := n5_; have NB328_327 := n6_; clear n0_ n1_ n2_ n3_ n4_ n5_ n6_; clear hb hbox hg; have hnb11 := NB327_328.out; have hnc11 := NB328_327.out; have hcz12_0 : w10.cell? ⟨gb327, 0, none⟩ = some (.int .i64 a0_0) := (blk_cell BK327.out 0).trans rfl; have hcz12_1 : w10.cell? ⟨gb327, 1, none⟩ = some (.int .i64 a0_1) := (blk_cell BK327.out 1).trans rfl; have hfz12_0 := blk_frozen BK327.out 0; have hfz12_1 := blk_frozen BK327.out 1; have hcz13_0 : w10.cell? ⟨gb328, 0, none⟩ = some (.int .i64 a1_0) := (blk_cell BK328.out 0).trans rfl; have hcz13_1 : w10.cell? ⟨gb328, 1, none⟩ = some (.int .i64 a1_1) := (blk_cell BK328.out 1).trans rfl; have hfz13_0 := blk_frozen BK328.out 0; have hfz13_1 := blk_frozen BK328.out 1))
  go_ret
  exact ⟨by first | rfl | (simp [errW_none, errW_some] <;> rfl) | (simp [*, errW_none, errW_some] <;> rfl), by repeat (first | (with_reducible first | exact HB.out | apply below_alloc | apply pw_below_drewN | apply below_drew1 | refine below_set ?_ GE327.out | refine below_set ?_ GE328.out) | exact HB.out)⟩

/-! ### corporaref11_Choose: function 24 -/
mutual
def corporaref11_Choose.l0 : Nat → List (S23) → Int → List (S23) → List (S23) → Int → Int → Option ((List (S23)) × Int)
  | 0, _, _, _, _, _, _ => none
  | k + 1, x1, x2, x10, x26, x27, x28 => if x28 < x27 then (if 0 ≤ x28 then (if x28 < (x26.length : Int) then (corporaref11_Choose.l1 k x1 x2 x10 false x26 x27 x28 x1 (x1.length : Int) 0 ((rd_T23 x26 x28).f0) ((rd_T23 x26 x28).f1)) else (none)) else (none)) else (some (x10, 0))
def corporaref11_Choose.l1 : Nat → List (S23) → Int → List (S23) → Bool → List (S23) → Int → Int → List (S23) → Int → Int → Int → Int → Option ((List (S23)) × Int)
  | 0, _, _, _, _, _, _, _, _, _, _, _, _ => none
  | k + 1, x1, x2, x10, x13, x26, x27, x28, x32, x33, x34, x333000, x333001 => if x34 < x33 then (if 0 ≤ x34 then (if x34 < (x32.length : Int) then (if x2 = 1 then (if x13 = true then (corporaref11_Choose.l1 k x1 x2 x10 true x26 x27 x28 x32 x33 (wrap64 (x34 + 1)) x333000 x333001) else ((corporaref11_Contains.f ((rd_T23 x32 x34).f0) ((rd_T23 x32 x34).f1) x333000 x333001).bind fun t338 => (corporaref11_Choose.l1 k x1 x2 x10 t338 x26 x27 x28 x32 x33 (wrap64 (x34 + 1)) x333000 x333001))) else (if x2 = 2 then (if x13 = true then (corporaref11_Choose.l1 k x1 x2 x10 true x26 x27 x28 x32 x33 (wrap64 (x34 + 1)) x333000 x333001) else ((corporaref11_Contains.f x333000 x333001 ((rd_T23 x32 x34).f0) ((rd_T23 x32 x34).f1)).bind fun t339 => (corporaref11_Choose.l1 k x1 x2 x10 t339 x26 x27 x28 x32 x33 (wrap64 (x34 + 1)) x333000 x333001))) else (if x13 = true then (corporaref11_Choose.l1 k x1 x2 x10 true x26 x27 x28 x32 x33 (wrap64 (x34 + 1)) x333000 x333001) else ((corporaref11_Overlap.f x333000 x333001 ((rd_T23 x32 x34).f0) ((rd_T23 x32 x34).f1)).bind fun t340 => (corporaref11_Choose.l1 k x1 x2 x10 t340 x26 x27 x28 x32 x33 (wrap64 (x34 + 1)) x333000 x333001))))) else (none)) else (none)) else (if x13 = true then ((corporaref11_insert.f k x10 x333000 x333001).bind fun t333 => (corporaref11_Choose.l0 k x1 x2 t333 x26 x27 (wrap64 (x28 + 1)))) else (corporaref11_Choose.l0 k x1 x2 x10 x26 x27 (wrap64 (x28 + 1))))
end
def corporaref11_Choose.f (k : Nat) (l0 : List (S23)) (l1 : List (S23)) (a2 : Int) : Option ((List (S23)) × Int) := (corporaref11_Check.f k l0).bind fun t329 => (if t329 = 0 then ((corporaref11_Check.f k l1).bind fun t330 => (if t330 = 0 then (corporaref11_Choose.l0 k l1 a2 ([] : List (S23)) l0 (l0.length : Int) 0) else (some (([] : List (S23)), t330)))) else (some (([] : List (S23)), t329)))
theorem corporaref11_Choose.mono_l : ∀ k, (∀ y0 y1 y2 y3 y4 y5, LeO (corporaref11_Choose.l0 k y0 y1 y2 y3 y4 y5) (corporaref11_Choose.l0 (k + 1) y0 y1 y2 y3 y4 y5)) ∧ (∀ y0 y1 y2 y3 y4 y5 y6 y7 y8 y9 y10 y11, LeO (corporaref11_Choose.l1 k y0 y1 y2 y3 y4 y5 y6 y7 y8 y9 y10 y11) (corporaref11_Choose.l1 (k + 1) y0 y1 y2 y3 y4 y5 y6 y7 y8 y9 y10 y11))
  | 0 => ⟨fun _ _ _ _ _ _ r h => by simp [corporaref11_Choose.l0] at h, fun _ _ _ _ _ _ _ _ _ _ _ _ r h => by simp [corporaref11_Choose.l1] at h⟩
  | k + 1 => by
    obtain ⟨ih0, ih1⟩ := corporaref11_Choose.mono_l k
    refine ⟨?_, ?_⟩
    · intro y0 y1 y2 y3 y4 y5
      unfold corporaref11_Choose.l0
      repeat' first
      | (with_reducible exact ih0 _ _ _ _ _ _)
      | (with_reducible exact ih1 _ _ _ _ _ _ _ _ _ _ _ _)
      | (with_reducible exact corporaref11_Check.mono _ _)
      | (with_reducible exact corporaref11_insert.mono _ _ _ _)
      | (with_reducible exact LeO.refl _)
      | (with_reducible exact LeO.none _)
      | (with_reducible refine LeO.ite ?_ ?_)
      | (with_reducible refine LeO.bind ?_ (fun _ => ?_))
      | exact ih0 _ _ _ _ _ _
      | exact ih1 _ _ _ _ _ _ _ _ _ _ _ _
      | exact corporaref11_Check.mono _ _
      | exact corporaref11_insert.mono _ _ _ _
      | exact LeO.none _
      | refine LeO.ite ?_ ?_
      | refine LeO.bind ?_ (fun _ => ?_)
    intro y0 y1 y2 y3 y4 y5 y6 y7 y8 y9 y10 y11
    unfold corporaref11_Choose.l1
    repeat' first
    | (with_reducible exact ih0 _ _ _ _ _ _)
    | (with_reducible exact ih1 _ _ _ _ _ _ _ _ _ _ _ _)
    | (with_reducible exact corporaref11_Check.mono _ _)
    | (with_reducible exact corporaref11_insert.mono _ _ _ _)
    | (with_reducible exact LeO.refl _)
    | (with_reducible exact LeO.none _)
    | (with_reducible refine LeO.ite ?_ ?_)
    | (with_reducible refine LeO.bind ?_ (fun _ => ?_))
    | exact ih0 _ _ _ _ _ _
    | exact ih1 _ _ _ _ _ _ _ _ _ _ _ _
    | exact corporaref11_Check.mono _ _
    | exact corporaref11_insert.mono _ _ _ _
    | exact LeO.none _
    | refine LeO.ite ?_ ?_
    | refine LeO.bind ?_ (fun _ => ?_)
theorem corporaref11_Choose.mono : ∀ a0 a1 a2 k, LeO (corporaref11_Choose.f k a0 a1 a2) (corporaref11_Choose.f (k + 1) a0 a1 a2) := by
  intro a0 a1 a2 k
  obtain ⟨ih0, ih1⟩ := corporaref11_Choose.mono_l k
  unfold corporaref11_Choose.f
  repeat' first
      | (with_reducible exact ih0 _ _ _ _ _ _)
      | (with_reducible exact ih1 _ _ _ _ _ _ _ _ _ _ _ _)
      | (with_reducible exact corporaref11_Check.mono _ _)
      | (with_reducible exact corporaref11_insert.mono _ _ _ _)
      | (with_reducible exact LeO.refl _)
      | (with_reducible exact LeO.none _)
      | (with_reducible refine LeO.ite ?_ ?_)
      | (with_reducible refine LeO.bind ?_ (fun _ => ?_))
      | exact ih0 _ _ _ _ _ _
      | exact ih1 _ _ _ _ _ _ _ _ _ _ _ _
      | exact corporaref11_Check.mono _ _
      | exact corporaref11_insert.mono _ _ _ _
      | exact LeO.none _
      | refine LeO.ite ?_ ?_
      | refine LeO.bind ?_ (fun _ => ?_)
set_option maxHeartbeats 8000000 in
set_option maxRecDepth 100000 in
theorem corporaref11_Choose.calls (k : Nat) (A0 : Option Addr) (c0 : Nat) (l0 : List (S23)) (A1 : Option Addr) (c1 : Nat) (l1 : List (S23)) (a2 : Int) (r1 : List (S23)) (r2 : Int) (w : World) (hr0 : Kd.C k23 w A0 l0.length l0) (hc0 : l0.length ≤ c0) (hr1 : Kd.C k23 w A1 l1.length l1) (hc1 : l1.length ≤ c1) (h : corporaref11_Choose.f k l0 l1 a2 = some (r1, r2)) :
    Calls Try.prog 24 #[.slice A0 l0.length c0, .slice A1 l1.length c1, .int .i64 a2] w fun e w' => ∃ v0_ : Value, e = .returned (.tuple #[v0_, .int .i64 r2]) ∧ Kd.R k23 23 w' w.heap.size (fun _ => True) v0_ r1 ∧ Below w.heap.size w w' := by
  have hu23 := Try.underlying23
  have HR0 := Aside0.mk hr0
  have HC0 := Aside0.mk hc0
  clear hr0 hc0
  have HR1 := Aside0.mk hr1
  have HC1 := Aside0.mk hc1
  clear hr1 hc1
  have HB := Aside0.mk (Below.refl w.heap.size w)
  have H : ((corporaref11_Check.f k l0).bind fun t329 => (if t329 = 0 then ((corporaref11_Check.f k l1).bind fun t330 => (if t330 = 0 then (corporaref11_Choose.l0 k l1 a2 ([] : List (S23)) l0 (l0.length : Int) 0) else (some (([] : List (S23)), t330)))) else (some (([] : List (S23)), t329)))) = some (r1, r2) := h
  clear h
  replace H := Option.bind_eq_some_iff.mp H
  obtain ⟨t329, A40, H⟩ := H
  replace H : (if t329 = 0 then ((corporaref11_Check.f k l1).bind fun t330 => (if t330 = 0 then (corporaref11_Choose.l0 k l1 a2 ([] : List (S23)) l0 (l0.length : Int) 0) else (some (([] : List (S23)), t330)))) else (some (([] : List (S23)), t329))) = some (r1, r2) := H
  have A4 := Aside0.mk A40
  clear A40
  by_cases c5 : t329 = 0
  · rw [if_pos c5] at H
    have c5b0 : (t329 == 0) = true := beq_iff_eq.mpr c5
    have c5b1 : (t329 != 0) = false := bne_eq_false_iff_eq.mpr c5
    clear c5
    replace H := Option.bind_eq_some_iff.mp H
    obtain ⟨t330, A60, H⟩ := H
    replace H : (if t330 = 0 then (corporaref11_Choose.l0 k l1 a2 ([] : List (S23)) l0 (l0.length : Int) 0) else (some (([] : List (S23)), t330))) = some (r1, r2) := H
    have A6 := Aside0.mk A60
    clear A60
    by_cases c7 : t330 = 0
    · rw [if_pos c7] at H
      have c7b0 : (t330 == 0) = true := beq_iff_eq.mpr c7
      have c7b1 : (t330 != 0) = false := bne_eq_false_iff_eq.mpr c7
      clear c7
      have H' := Aside0.mk H
      clear H
      go_enter Try.func24, Try.ntmps24
      go_wp2_with (first | ((with_reducible refine gate_callee (f := 30) rfl ?_); refine goesL_ (some 17) rfl rfl Try.func30 (by kernel_rfl) rfl #[.slice A0 l0.length c0] rfl (by (try simp only [List.map_toArray, List.map_cons, List.map_nil]); first | done | rfl | (simp only [List.length_drop, List.length_take]; rfl)) ?_; (with_reducible refine (corporaref11_Check.calls k _ _ l0 t329 _ ?side1 ?side2 A4.out).mono ?_); (case side1 => repeat (first | exact HR0.out | (with_reducible refine Kd.C_alloc ?_ _) | (with_reducible refine Kd.C_drewN ?_ _) | (with_reducible refine Kd.C_drew ?_))); (case side2 => exact HC0.out); rintro e w8 ⟨rfl, hb⟩; refine ⟨_, rfl, ?_⟩; have n0_ := Aside0.mk (below_step (by repeat (first | (with_reducible first | exact HB.out | apply below_alloc | apply pw_below_drewN | apply below_drew1) | exact HB.out)) hb); clear HB; have HB := n0_; clear n0_; (try clear hb); (try clear hb2); (try clear hk); (try clear hi)) | ((with_reducible refine gate_callee (f := 30) rfl ?_); refine goesL_ (some 22) rfl rfl Try.func30 (by kernel_rfl) rfl #[.slice A1 l1.length c1] rfl (by (try simp only [List.map_toArray, List.map_cons, List.map_nil]); first | done | rfl | (simp only [List.length_drop, List.length_take]; rfl)) ?_; (with_reducible refine (corporaref11_Check.calls k _ _ l1 t330 _ ?side1 ?side2 A6.out).mono ?_); (case side1 => repeat (first | exact (Kd.C_below HR1.out HB.out) | (with_reducible refine Kd.C_alloc ?_ _) | (with_reducible refine Kd.C_drewN ?_ _) | (with_reducible refine Kd.C_drew ?_))); (case side2 => exact HC1.out); rintro e w9 ⟨rfl, hb⟩; refine ⟨_, rfl, ?_⟩; have n0_ := Aside0.mk (below_step (by repeat (first | (with_reducible first | exact HB.out | apply below_alloc | apply pw_below_drewN | apply below_drew1) | exact HB.out)) hb); clear HB; have HB := n0_; clear n0_; (try clear hb); (try clear hb2); (try clear hk); (try clear hi)))
      go_loopg [10, 28] k (fun kq v10 v28 w' => ∃ (x10_1 : List (S23)) (x28_1 : Int), v28 = .int .i64 x28_1 ∧ Aside0 (corporaref11_Choose.l0 kq l1 a2 x10_1 l0 (l0.length : Int) x28_1 = some (r1, r2)) ∧ Aside0 (kq ≤ k) ∧ Aside0 (Kd.R k23 23 w' w.heap.size (fun _ => True) v10 x10_1) ∧ Aside0 (Below w.heap.size w w'))
      case atStart => exact ⟨(([] : List (S23))), (0), (by first | rfl | (simp; done) | (simp [*]; done)), H', ⟨Nat.le_refl _⟩, ⟨by first | exact Kd.R_nil _ _ _ _ _ | exact Kd.N_nil _ _ _ _ _ | exact Kd.V_nil _ _ _ _ _ | exact Kd.Q_nil _ _ _ _ _ | exact Kd.S_nil _ _ _ _ _⟩, ⟨by repeat (first | (with_reducible first | exact HB.out | apply below_alloc | apply pw_below_drewN | apply below_drew1) | exact HB.out)⟩⟩
      case round =>
        clear H'
        try clear c1
        try clear c2
        try clear p2
        try clear c3
        try clear c5
        try clear c5b0
        try clear c5b1
        try clear c7
        try clear c7b0
        try clear c7b1
        obtain ⟨x10_1, x28_1, rfl, HA, HK1, HO_10, HB⟩ := hrel
        cases gk with
        | zero => exact absurd HA.out (by simp [corporaref11_Choose.l0])
        | succ k1 =>
          have H := HA.out
          clear HA
          simp only [corporaref11_Choose.l0] at H
          by_cases c10 : x28_1 < (l0.length : Int)
          · rw [if_pos c10] at H
            have c10b0 : decide (x28_1 < (l0.length : Int)) = true := decide_eq_true c10
            clear c10
            by_cases c11 : 0 ≤ x28_1
            · rw [if_pos c11] at H
              have c11b0 : decide (0 ≤ x28_1) = true := decide_eq_true c11
              clear c11
              by_cases c12 : x28_1 < (l0.length : Int)
              · rw [if_pos c12] at H
                have c12b0 : decide (x28_1 < (l0.length : Int)) = true := decide_eq_true c12
                clear c12
                have H' := Aside0.mk H
                clear H
                have p331 : 0 ≤ (x28_1 : Int) := of_decide_eq_true (by first | (with_reducible assumption) | assumption)
                have q331 : x28_1 < (l0.length : Int) := of_decide_eq_true (by first | (with_reducible assumption) | assumption)
                obtain ⟨ad331, e331, hx331_0, hx331_1⟩ := at_T23 HR0.out x28_1 p331 q331
                cases e331
                replace hx331_0 := (HB.out.cell (World.block_lt_of_cell? w _ hx331_0)).trans hx331_0
                replace hx331_1 := (HB.out.cell (World.block_lt_of_cell? w _ hx331_1)).trans hx331_1
                replace p331 := eq_true p331
                replace q331 := eq_true q331
                go_wp2_with (first | ((with_reducible refine gate_dst (N := 12) rfl ?_); refine box_event ?hg (N := 12) ?hd (cs := #[.int .i64 0, .int .i64 0]) (t := 23) ?hr ?_; (case hd => rfl); (case hg => rfl); (case hr => first | (go_simp; done) | (go_simp; rfl)); intro gb332 hg w13 hbox hb; have n0_ := Aside0.mk (Kd.R_below (Kd.R_elderB (by (with_reducible repeat (first | apply Kd.R_alloc | apply Kd.R_drewN | apply Kd.R_drew)); exact HO_10.out) gb332 (Nat.le_of_eq hg.symm)) hb); have n1_ := Aside0.mk (below_step (by repeat (first | (with_reducible first | exact HB.out | apply below_alloc | apply pw_below_drewN | apply below_drew1) | exact HB.out)) hb); have n2_ := Aside0.mk (hbox); have n3_ := Aside0.mk ((by rw [hg]; exact (below_size (by repeat (first | (with_reducible first | exact HB.out | apply below_alloc | apply pw_below_drewN | apply below_drew1) | exact HB.out))) : w.heap.size ≤ gb332)); have n4_ := Aside0.mk ((by rw [hg]; exact (below_size (by repeat (first | (with_reducible first | exact HB.out | apply below_alloc | apply pw_below_drewN | apply below_drew1) | exact HB.out))) : w.heap.size ≤ gb332)); clear HO_10; clear HB; have HO_10 := n0_; have HB := n1_; have BK332 := n2_; have GW332 := n3_; have GE332 := n4_; clear n0_ n1_ n2_ n3_ n4_; clear hb hbox hg; have hcz14_0 : w13.cell? ⟨gb332, 0, none⟩ = some (.int .i64 0) := (blk_cell BK332.out 0).trans rfl; have hcz14_1 : w13.cell? ⟨gb332, 1, none⟩ = some (.int .i64 0) := (blk_cell BK332.out 1).trans rfl; have hfz14_0 := blk_frozen BK332.out 0; have hfz14_1 := blk_frozen BK332.out 1))
                go_loopg [13, 34] k1 (fun kq v13 v34 w' => ∃ (x13_2 : Bool) (x34_2 : Int), v13 = .bool x13_2 ∧ v34 = .int .i64 x34_2 ∧ Aside0 (corporaref11_Choose.l1 kq l1 a2 x10_1 x13_2 l0 (l0.length : Int) x28_1 l1 (l1.length : Int) x34_2 ((rd_T23 l0 x28_1).f0) ((rd_T23 l0 x28_1).f1) = some (r1, r2)) ∧ Aside0 (kq ≤ k1) ∧ Aside0 (Kd.R k23 23 w' w.heap.size (fun k_ => k_ ≠ gb332) u10 x10_1) ∧ Aside0 (w'.heap[gb332]? = some (.cells #[.int .i64 ((rd_T23 l0 x28_1).f0), .int .i64 ((rd_T23 l0 x28_1).f1)] 23 (0, 0))) ∧ Aside0 (Below w.heap.size w w'))
                case atStart => exact ⟨(false), (0), (by first | rfl | (simp; done) | (simp [*]; done)), (by first | rfl | (simp; done) | (simp [*]; done)), H', ⟨Nat.le_refl _⟩, ⟨by (with_reducible repeat (first | apply Kd.R_alloc | apply Kd.R_drewN | apply Kd.R_drew)); exact Kd.R_mono (Kd.R_far (p := ⟨gb332, 1, none⟩) (Kd.R_far (p := ⟨gb332, 0, none⟩) (Kd.R_mono HO_10.out (fun k_ hk => (⟨hk, hk.2⟩ : _ ∧ k_ ≠ gb332))) (fun _ hk => hk.2) (.int .i64 ((rd_T23 l0 x28_1).f0))) (fun _ hk => hk.2) (.int .i64 ((rd_T23 l0 x28_1).f1))) (fun _ hk => hk.1.2)⟩, ⟨by (with_reducible repeat (first | refine blk_drewN ?_ _ | refine blk_drew ?_ | refine blk_alloc ?_ _)); refine blk_put (cs := #[.int .i64 ((rd_T23 l0 x28_1).f0), .int .i64 0]) ?_ 1 _ rfl; (with_reducible repeat (first | refine blk_drewN ?_ _ | refine blk_drew ?_ | refine blk_alloc ?_ _)); refine blk_put (cs := #[.int .i64 0, .int .i64 0]) ?_ 0 _ rfl; (with_reducible repeat (first | refine blk_drewN ?_ _ | refine blk_drew ?_ | refine blk_alloc ?_ _)); exact BK332.out⟩, ⟨by repeat (first | (with_reducible first | exact HB.out | apply below_alloc | apply pw_below_drewN | apply below_drew1 | refine below_set ?_ GE332.out) | exact HB.out)⟩⟩
                case round =>
                  clear H'
                  try clear c1
                  try clear c2
                  try clear p2
                  try clear c3
                  try clear p3
                  try clear q3
                  try clear hx3
                  try clear c5
                  try clear c5b0
                  try clear c5b1
                  try clear c7
                  try clear c7b0
                  try clear c7b1
                  try clear c10
                  try clear c10b0
                  try clear c11
                  try clear c11b0
                  try clear c12
                  try clear c12b0
                  try clear hcz14_0
                  try clear hcz14_1
                  try clear hfz14_0
                  try clear hfz14_1
                  try clear hx331_0
                  try clear hx331_1
                  try clear p2
                  try clear p331
                  try clear q331
                  obtain ⟨x13_2, x34_2, rfl, rfl, HA, HK2, HO_10, BK332, HB⟩ := hrel
                  cases gk with
                  | zero => exact absurd HA.out (by simp [corporaref11_Choose.l1])
                  | succ k2 =>
                    have H := HA.out
                    clear HA
                    simp only [corporaref11_Choose.l1] at H
                    by_cases c15 : x34_2 < (l1.length : Int)
                    · rw [if_pos c15] at H
                      have c15b0 : decide (x34_2 < (l1.length : Int)) = true := decide_eq_true c15
                      clear c15
                      by_cases c16 : 0 ≤ x34_2
                      · rw [if_pos c16] at H
                        have c16b0 : decide (0 ≤ x34_2) = true := decide_eq_true c16
                        clear c16
                        by_cases c17 : x34_2 < (l1.length : Int)
                        · rw [if_pos c17] at H
                          have c17b0 : decide (x34_2 < (l1.length : Int)) = true := decide_eq_true c17
                          clear c17
                          by_cases c18 : a2 = 1
                          · rw [if_pos c18] at H
                            have c18b0 : (a2 == 1) = true := beq_iff_eq.mpr c18
                            have c18b1 : (a2 != 1) = false := bne_eq_false_iff_eq.mpr c18
                            clear c18
                            by_cases c19 : x13_2 = true
                            · subst c19
                              have H1 : (corporaref11_Choose.l1 k2 l1 a2 x10_1 true l0 (l0.length : Int) x28_1 l1 (l1.length : Int) (wrap64 (x34_2 + 1)) ((rd_T23 l0 x28_1).f0) ((rd_T23 l0 x28_1).f1)) = some (r1, r2) := by rw [if_pos rfl] at H; exact H
                              clear H
                              have H := H1
                              clear H1
                              have H' := Aside0.mk H
                              clear H
                              have p336 : 0 ≤ (x34_2 : Int) := of_decide_eq_true (by first | (with_reducible assumption) | assumption)
                              have q336 : x34_2 < (l1.length : Int) := of_decide_eq_true (by first | (with_reducible assumption) | assumption)
                              obtain ⟨ad336, e336, hx336_0, hx336_1⟩ := at_T23 HR1.out x34_2 p336 q336
                              cases e336
                              replace hx336_0 := (HB.out.cell (World.block_lt_of_cell? w _ hx336_0)).trans hx336_0
                              replace hx336_1 := (HB.out.cell (World.block_lt_of_cell? w _ hx336_1)).trans hx336_1
                              replace p336 := eq_true p336
                              replace q336 := eq_true q336
                              go_wp2_with (first | ((with_reducible refine gate_dst (N := 15) rfl ?_); refine box_event ?hg (N := 15) ?hd (cs := #[.int .i64 0, .int .i64 0]) (t := 23) ?hr ?_; (case hd => rfl); (case hg => rfl); (case hr => first | (go_simp; done) | (go_simp; rfl)); intro gb337 hg w20 hbox hb; have n0_ := Aside0.mk (Kd.R_below (Kd.R_elderB (by (with_reducible repeat (first | apply Kd.R_alloc | apply Kd.R_drewN | apply Kd.R_drew)); exact HO_10.out) gb337 (Nat.le_of_eq hg.symm)) hb); have n1_ := Aside0.mk (blk_below (g := gb332) (o := .cells #[.int .i64 ((rd_T23 l0 x28_1).f0), .int .i64 ((rd_T23 l0 x28_1).f1)] 23 (0, 0)) (by (with_reducible repeat (first | refine blk_drewN ?_ _ | refine blk_drew ?_ | refine blk_alloc ?_ _)); exact BK332.out) hb); have n2_ := Aside0.mk (below_step (by repeat (first | (with_reducible first | exact HB.out | apply below_alloc | apply pw_below_drewN | apply below_drew1 | refine below_set ?_ GE332.out) | exact HB.out)) hb); have n3_ := Aside0.mk (hbox); have n4_ := Aside0.mk ((by rw [hg]; exact (below_size (by repeat (first | (with_reducible first | exact HB.out | apply below_alloc | apply pw_below_drewN | apply below_drew1 | refine below_set ?_ GE332.out) | exact HB.out))) : w.heap.size ≤ gb337)); have n5_ := Aside0.mk ((by rw [hg]; exact (below_size (by repeat (first | (with_reducible first | exact HB.out | apply below_alloc | apply pw_below_drewN | apply below_drew1 | refine below_set ?_ GE332.out) | exact HB.out))) : w.heap.size ≤ gb337)); have n6_ := Aside0.mk ((by rw [hg]; exact Nat.ne_of_lt (blk_lt (g := gb332) (o := .cells #[.int .i64 ((rd_T23 l0 x28_1).f0), .int .i64 ((rd_T23 l0 x28_1).f1)] 23 (0, 0)) (by (with_reducible repeat (first | refine blk_drewN ?_ _ | refine blk_drew ?_ | refine blk_alloc ?_ _)); exact BK332.out)) : gb332 ≠ gb337)); have n7_ := Aside0.mk ((by rw [hg]; exact Nat.ne_of_gt (blk_lt (g := gb332) (o := .cells #[.int .i64 ((rd_T23 l0 x28_1).f0), .int .i64 ((rd_T23 l0 x28_1).f1)] 23 (0, 0)) (by (with_reducible repeat (first | refine blk_drewN ?_ _ | refine blk_drew ?_ | refine blk_alloc ?_ _)); exact BK332.out)) : gb337 ≠ gb332)); clear HO_10; clear BK332; clear HB; have HO_10 := n0_; have BK332 := n1_; have HB := n2_; have BK337 := n3_; have GW337 := n4_; have GE337 := n5_; have NB332_337 := n6_; have NB337_332 := n7_; clear n0_ n1_ n2_ n3_ n4_ n5_ n6_ n7_; clear hb hbox hg; have hnb21 := NB337_332.out; have hnc21 := NB332_337.out; have hcz22_0 : w20.cell? ⟨gb337, 0, none⟩ = some (.int .i64 0) := (blk_cell BK337.out 0).trans rfl; have hcz22_1 : w20.cell? ⟨gb337, 1, none⟩ = some (.int .i64 0) := (blk_cell BK337.out 1).trans rfl; have hfz22_0 := blk_frozen BK337.out 0; have hfz22_1 := blk_frozen BK337.out 1))
                              go_roundg k2
                              case measure => have := HK1.out; have := HK2.out; omega
                              case rel => exact ⟨(true), (wrap64 (x34_2 + 1)), (by first | rfl | (simp; done) | (simp [*]; done)), (by first | rfl | (simp; done) | (simp [*]; done)), H', ⟨by have := HK1.out; have := HK2.out; omega⟩, ⟨by (with_reducible repeat (first | apply Kd.R_alloc | apply Kd.R_drewN | apply Kd.R_drew)); exact Kd.R_mono (Kd.R_far (p := ⟨gb337, 1, none⟩) (Kd.R_far (p := ⟨gb337, 0, none⟩) (Kd.R_mono HO_10.out (fun k_ hk => (⟨hk, hk.2⟩ : _ ∧ k_ ≠ gb337))) (fun _ hk => hk.2) (.int .i64 ((rd_T23 l1 x34_2).f0))) (fun _ hk => hk.2) (.int .i64 ((rd_T23 l1 x34_2).f1))) (fun _ hk => hk.1.1)⟩, ⟨by (with_reducible repeat (first | refine blk_drewN ?_ _ | refine blk_drew ?_ | refine blk_alloc ?_ _)); refine blk_far ?_ NB332_337.out _; (with_reducible repeat (first | refine blk_drewN ?_ _ | refine blk_drew ?_ | refine blk_alloc ?_ _)); refine blk_far ?_ NB332_337.out _; (with_reducible repeat (first | refine blk_drewN ?_ _ | refine blk_drew ?_ | refine blk_alloc ?_ _)); exact BK332.out⟩, ⟨by repeat (first | (with_reducible first | exact HB.out | apply below_alloc | apply pw_below_drewN | apply below_drew1 | refine below_set ?_ GE332.out | refine below_set ?_ GE337.out) | exact HB.out)⟩⟩
                            replace c19 := Bool.eq_false_iff.mpr c19
                            subst c19
                            have H1 : ((corporaref11_Contains.f ((rd_T23 l1 x34_2).f0) ((rd_T23 l1 x34_2).f1) ((rd_T23 l0 x28_1).f0) ((rd_T23 l0 x28_1).f1)).bind fun t338 => (corporaref11_Choose.l1 k2 l1 a2 x10_1 t338 l0 (l0.length : Int) x28_1 l1 (l1.length : Int) (wrap64 (x34_2 + 1)) ((rd_T23 l0 x28_1).f0) ((rd_T23 l0 x28_1).f1))) = some (r1, r2) := by rw [if_neg (show ¬ (false = true) by decide)] at H; exact H
                            clear H
                            have H := H1
                            clear H1
                            replace H := Option.bind_eq_some_iff.mp H
                            obtain ⟨t338, A230, H⟩ := H
                            replace H : (corporaref11_Choose.l1 k2 l1 a2 x10_1 t338 l0 (l0.length : Int) x28_1 l1 (l1.length : Int) (wrap64 (x34_2 + 1)) ((rd_T23 l0 x28_1).f0) ((rd_T23 l0 x28_1).f1)) = some (r1, r2) := H
                            have A23 := Aside0.mk A230
                            clear A230
                            have H' := Aside0.mk H
                            clear H
                            have p336 : 0 ≤ (x34_2 : Int) := of_decide_eq_true (by first | (with_reducible assumption) | assumption)
                            have q336 : x34_2 < (l1.length : Int) := of_decide_eq_true (by first | (with_reducible assumption) | assumption)
                            obtain ⟨ad336, e336, hx336_0, hx336_1⟩ := at_T23 HR1.out x34_2 p336 q336
                            cases e336
                            replace hx336_0 := (HB.out.cell (World.block_lt_of_cell? w _ hx336_0)).trans hx336_0
                            replace hx336_1 := (HB.out.cell (World.block_lt_of_cell? w _ hx336_1)).trans hx336_1
                            replace p336 := eq_true p336
                            replace q336 := eq_true q336
                            go_wp2_with (first | ((with_reducible refine gate_dst (N := 15) rfl ?_); refine box_event ?hg (N := 15) ?hd (cs := #[.int .i64 0, .int .i64 0]) (t := 23) ?hr ?_; (case hd => rfl); (case hg => rfl); (case hr => first | (go_simp; done) | (go_simp; rfl)); intro gb337 hg w24 hbox hb; have n0_ := Aside0.mk (Kd.R_below (Kd.R_elderB (by (with_reducible repeat (first | apply Kd.R_alloc | apply Kd.R_drewN | apply Kd.R_drew)); exact HO_10.out) gb337 (Nat.le_of_eq hg.symm)) hb); have n1_ := Aside0.mk (blk_below (g := gb332) (o := .cells #[.int .i64 ((rd_T23 l0 x28_1).f0), .int .i64 ((rd_T23 l0 x28_1).f1)] 23 (0, 0)) (by (with_reducible repeat (first | refine blk_drewN ?_ _ | refine blk_drew ?_ | refine blk_alloc ?_ _)); exact BK332.out) hb); have n2_ := Aside0.mk (below_step (by repeat (first | (with_reducible first | exact HB.out | apply below_alloc | apply pw_below_drewN | apply below_drew1 | refine below_set ?_ GE332.out) | exact HB.out)) hb); have n3_ := Aside0.mk (hbox); have n4_ := Aside0.mk ((by rw [hg]; exact (below_size (by repeat (first | (with_reducible first | exact HB.out | apply below_alloc | apply pw_below_drewN | apply below_drew1 | refine below_set ?_ GE332.out) | exact HB.out))) : w.heap.size ≤ gb337)); have n5_ := Aside0.mk ((by rw [hg]; exact (below_size (by repeat (first | (with_reducible first | exact HB.out | apply below_alloc | apply pw_below_drewN | apply below_drew1 | refine below_set ?_ GE332.out) | exact HB.out))) : w.heap.size ≤ gb337)); have n6_ := Aside0.mk ((by rw [hg]; exact Nat.ne_of_lt (blk_lt (g := gb332) (o := .cells #[.int .i64 ((rd_T23 l0 x28_1).f0), .int .i64 ((rd_T23 l0 x28_1).f1)] 23 (0, 0)) (by (with_reducible repeat (first | refine blk_drewN ?_ _ | refine blk_drew ?_ | refine blk_alloc ?_ _)); exact BK332.out)) : gb332 ≠ gb337)); have n7_ := Aside0.mk ((by rw [hg]; exact Nat.ne_of_gt (blk_lt (g := gb332) (o := .cells #[.int .i64 ((rd_T23 l0 x28_1).f0), .int .i64 ((rd_T23 l0 x28_1).f1)] 23 (0, 0)) (by (with_reducible repeat (first | refine blk_drewN ?_ _ | refine blk_drew ?_ | refine blk_alloc ?_ _)); exact BK332.out)) : gb337 ≠ gb332)); clear HO_10; clear BK332; clear HB; have HO_10 := n0_; have BK332 := n1_; have HB := n2_; have BK337 := n3_; have GW337 := n4_; have GE337 := n5_; have NB332_337 := n6_; have NB337_332 := n7_; clear n0_ n1_ n2_ n3_ n4_ n5_ n6_ n7_; clear hb hbox hg; have hnb25 := NB337_332.out; have hnc25 := NB332_337.out; have hcz26_0 : w24.cell? ⟨gb337, 0, none⟩ = some (.int .i64 0) := (blk_cell BK337.out 0).trans rfl; have hcz26_1 : w24.cell? ⟨gb337, 1, none⟩ = some (.int .i64 0) := (blk_cell BK337.out 1).trans rfl; have hfz26_0 := blk_frozen BK337.out 0; have hfz26_1 := blk_frozen BK337.out 1; have hcz27_0 : w24.cell? ⟨gb332, 0, none⟩ = some (.int .i64 ((rd_T23 l0 x28_1).f0)) := (blk_cell BK332.out 0).trans rfl; have hcz27_1 : w24.cell? ⟨gb332, 1, none⟩ = some (.int .i64 ((rd_T23 l0 x28_1).f1)) := (blk_cell BK332.out 1).trans rfl; have hfz27_0 := blk_frozen BK332.out 0; have hfz27_1 := blk_frozen BK332.out 1) | (go_at_call 33; (with_reducible refine (corporaref11_Contains.calls ((rd_T23 l1 x34_2).f0) ((rd_T23 l1 x34_2).f1) ((rd_T23 l0 x28_1).f0) ((rd_T23 l0 x28_1).f1) t338 _ A23.out).mono ?_); rintro e w28 ⟨rfl, hb⟩; have n0_ := Aside0.mk (Kd.R_below (by (with_reducible repeat (first | apply Kd.R_alloc | apply Kd.R_drewN | apply Kd.R_drew)); exact (Kd.R_mono (Kd.R_far (p := ⟨gb337, 1, none⟩) (Kd.R_far (p := ⟨gb337, 0, none⟩) (Kd.R_mono HO_10.out (fun k_ hk => (⟨hk, hk.2⟩ : _ ∧ k_ ≠ gb337))) (fun _ hk => hk.2) (.int .i64 ((rd_T23 l1 x34_2).f0))) (fun _ hk => hk.2) (.int .i64 ((rd_T23 l1 x34_2).f1))) (fun _ h_ => h_.1))) hb); have n1_ := Aside0.mk (blk_below (g := gb332) (o := .cells #[.int .i64 ((rd_T23 l0 x28_1).f0), .int .i64 ((rd_T23 l0 x28_1).f1)] 23 (0, 0)) (by (with_reducible repeat (first | refine blk_drewN ?_ _ | refine blk_drew ?_ | refine blk_alloc ?_ _)); refine blk_far ?_ NB332_337.out _; (with_reducible repeat (first | refine blk_drewN ?_ _ | refine blk_drew ?_ | refine blk_alloc ?_ _)); refine blk_far ?_ NB332_337.out _; (with_reducible repeat (first | refine blk_drewN ?_ _ | refine blk_drew ?_ | refine blk_alloc ?_ _)); exact BK332.out) hb); have n2_ := Aside0.mk (blk_below (g := gb337) (o := .cells #[.int .i64 ((rd_T23 l1 x34_2).f0), .int .i64 ((rd_T23 l1 x34_2).f1)] 23 (0, 0)) (by (with_reducible repeat (first | refine blk_drewN ?_ _ | refine blk_drew ?_ | refine blk_alloc ?_ _)); refine blk_put (cs := #[.int .i64 ((rd_T23 l1 x34_2).f0), .int .i64 0]) ?_ 1 _ rfl; (with_reducible repeat (first | refine blk_drewN ?_ _ | refine blk_drew ?_ | refine blk_alloc ?_ _)); refine blk_put (cs := #[.int .i64 0, .int .i64 0]) ?_ 0 _ rfl; (with_reducible repeat (first | refine blk_drewN ?_ _ | refine blk_drew ?_ | refine blk_alloc ?_ _)); exact BK337.out) hb); have n3_ := Aside0.mk (below_step (by repeat (first | (with_reducible first | exact HB.out | apply below_alloc | apply pw_below_drewN | apply below_drew1 | refine below_set ?_ GE332.out | refine below_set ?_ GE337.out) | exact HB.out)) hb); clear HO_10; clear BK332; clear BK337; clear HB; have HO_10 := n0_; have BK332 := n1_; have BK337 := n2_; have HB := n3_; clear n0_ n1_ n2_ n3_; (try clear hb); (try clear hb2); (try clear hk); (try clear hi)))
                            go_roundg k2
                            case measure => have := HK1.out; have := HK2.out; omega
                            case rel => exact ⟨(t338), (wrap64 (x34_2 + 1)), (by first | rfl | (simp; done) | (simp [*]; done)), (by first | rfl | (simp; done) | (simp [*]; done)), H', ⟨by have := HK1.out; have := HK2.out; omega⟩, ⟨by (with_reducible repeat (first | apply Kd.R_alloc | apply Kd.R_drewN | apply Kd.R_drew)); exact Kd.R_mono HO_10.out (fun _ hk => hk.1)⟩, ⟨by (with_reducible repeat (first | refine blk_drewN ?_ _ | refine blk_drew ?_ | refine blk_alloc ?_ _)); exact BK332.out⟩, ⟨by repeat (first | (with_reducible first | exact HB.out | apply below_alloc | apply pw_below_drewN | apply below_drew1 | refine below_set ?_ GE332.out | refine below_set ?_ GE337.out) | exact HB.out)⟩⟩
                          rw [if_neg c18] at H
                          have c18b0 : (a2 == 1) = false := beq_eq_false_iff_ne.mpr c18
                          have c18b1 : (a2 != 1) = true := bne_iff_ne.mpr c18
                          by_cases c29 : a2 = 2
                          · rw [if_pos c29] at H
                            have c29b0 : (a2 == 2) = true := beq_iff_eq.mpr c29
                            have c29b1 : (a2 != 2) = false := bne_eq_false_iff_eq.mpr c29
                            clear c29
                            by_cases c30 : x13_2 = true
                            · subst c30
                              have H1 : (corporaref11_Choose.l1 k2 l1 a2 x10_1 true l0 (l0.length : Int) x28_1 l1 (l1.length : Int) (wrap64 (x34_2 + 1)) ((rd_T23 l0 x28_1).f0) ((rd_T23 l0 x28_1).f1)) = some (r1, r2) := by rw [if_pos rfl] at H; exact H
                              clear H
                              have H := H1
                              clear H1
                              have H' := Aside0.mk H
                              clear H
                              have p336 : 0 ≤ (x34_2 : Int) := of_decide_eq_true (by first | (with_reducible assumption) | assumption)
                              have q336 : x34_2 < (l1.length : Int) := of_decide_eq_true (by first | (with_reducible assumption) | assumption)
                              obtain ⟨ad336, e336, hx336_0, hx336_1⟩ := at_T23 HR1.out x34_2 p336 q336
                              cases e336
                              replace hx336_0 := (HB.out.cell (World.block_lt_of_cell? w _ hx336_0)).trans hx336_0
                              replace hx336_1 := (HB.out.cell (World.block_lt_of_cell? w _ hx336_1)).trans hx336_1
                              replace p336 := eq_true p336
                              replace q336 := eq_true q336
                              go_wp2_with (first | ((with_reducible refine gate_dst (N := 15) rfl ?_); refine box_event ?hg (N := 15) ?hd (cs := #[.int .i64 0, .int .i64 0]) (t := 23) ?hr ?_; (case hd => rfl); (case hg => rfl); (case hr => first | (go_simp; done) | (go_simp; rfl)); intro gb337 hg w31 hbox hb; have n0_ := Aside0.mk (Kd.R_below (Kd.R_elderB (by (with_reducible repeat (first | apply Kd.R_alloc | apply Kd.R_drewN | apply Kd.R_drew)); exact HO_10.out) gb337 (Nat.le_of_eq hg.symm)) hb); have n1_ := Aside0.mk (blk_below (g := gb332) (o := .cells #[.int .i64 ((rd_T23 l0 x28_1).f0), .int .i64 ((rd_T23 l0 x28_1).f1)] 23 (0, 0)) (by (with_reducible repeat (first | refine blk_drewN ?_ _ | refine blk_drew ?_ | refine blk_alloc ?_ _)); exact BK332.out) hb); have n2_ := Aside0.mk (below_step (by repeat (first | (with_reducible first | exact HB.out | apply below_alloc | apply pw_below_drewN | apply below_drew1 | refine below_set ?_ GE332.out) | exact HB.out)) hb); have n3_ := Aside0.mk (hbox); have n4_ := Aside0.mk ((by rw [hg]; exact (below_size (by repeat (first | (with_reducible first | exact HB.out | apply below_alloc | apply pw_below_drewN | apply below_drew1 | refine below_set ?_ GE332.out) | exact HB.out))) : w.heap.size ≤ gb337)); have n5_ := Aside0.mk ((by rw [hg]; exact (below_size (by repeat (first | (with_reducible first | exact HB.out | apply below_alloc | apply pw_below_drewN | apply below_drew1 | refine below_set ?_ GE332.out) | exact HB.out))) : w.heap.size ≤ gb337)); have n6_ := Aside0.mk ((by rw [hg]; exact Nat.ne_of_lt (blk_lt (g := gb332) (o := .cells #[.int .i64 ((rd_T23 l0 x28_1).f0), .int .i64 ((rd_T23 l0 x28_1).f1)] 23 (0, 0)) (by (with_reducible repeat (first | refine blk_drewN ?_ _ | refine blk_drew ?_ | refine blk_alloc ?_ _)); exact BK332.out)) : gb332 ≠ gb337)); have n7_ := Aside0.mk ((by rw [hg]; exact Nat.ne_of_gt (blk_lt (g := gb332) (o := .cells #[.int .i64 ((rd_T23 l0 x28_1).f0), .int .i64 ((rd_T23 l0 x28_1).f1)] 23 (0, 0)) (by (with_reducible repeat (first | refine blk_drewN ?_ _ | refine blk_drew ?_ | refine blk_alloc ?_ _)); exact BK332.out)) : gb337 ≠ gb332)); clear HO_10; clear BK332; clear HB; have HO_10 := n0_; have BK332 := n1_; have HB := n2_; have BK337 := n3_; have GW337 := n4_; have GE337 := n5_; have NB332_337 := n6_; have NB337_332 := n7_; clear n0_ n1_ n2_ n3_ n4_ n5_ n6_ n7_; clear hb hbox hg; have hnb32 := NB337_332.out; have hnc32 := NB332_337.out; have hcz33_0 : w31.cell? ⟨gb337, 0, none⟩ = some (.int .i64 0) := (blk_cell BK337.out 0).trans rfl; have hcz33_1 : w31.cell? ⟨gb337, 1, none⟩ = some (.int .i64 0) := (blk_cell BK337.out 1).trans rfl; have hfz33_0 := blk_frozen BK337.out 0; have hfz33_1 := blk_frozen BK337.out 1))
                              go_roundg k2
                              case measure => have := HK1.out; have := HK2.out; omega
                              case rel => exact ⟨(true), (wrap64 (x34_2 + 1)), (by first | rfl | (simp; done) | (simp [*]; done)), (by first | rfl | (simp; done) | (simp [*]; done)), H', ⟨by have := HK1.out; have := HK2.out; omega⟩, ⟨by (with_reducible repeat (first | apply Kd.R_alloc | apply Kd.R_drewN | apply Kd.R_drew)); exact Kd.R_mono (Kd.R_far (p := ⟨gb337, 1, none⟩) (Kd.R_far (p := ⟨gb337, 0, none⟩) (Kd.R_mono HO_10.out (fun k_ hk => (⟨hk, hk.2⟩ : _ ∧ k_ ≠ gb337))) (fun _ hk => hk.2) (.int .i64 ((rd_T23 l1 x34_2).f0))) (fun _ hk => hk.2) (.int .i64 ((rd_T23 l1 x34_2).f1))) (fun _ hk => hk.1.1)⟩, ⟨by (with_reducible repeat (first | refine blk_drewN ?_ _ | refine blk_drew ?_ | refine blk_alloc ?_ _)); refine blk_far ?_ NB332_337.out _; (with_reducible repeat (first | refine blk_drewN ?_ _ | refine blk_drew ?_ | refine blk_alloc ?_ _)); refine blk_far ?_ NB332_337.out _; (with_reducible repeat (first | refine blk_drewN ?_ _ | refine blk_drew ?_ | refine blk_alloc ?_ _)); exact BK332.out⟩, ⟨by repeat (first | (with_reducible first | exact HB.out | apply below_alloc | apply pw_below_drewN | apply below_drew1 | refine below_set ?_ GE332.out | refine below_set ?_ GE337.out) | exact HB.out)⟩⟩
                            replace c30 := Bool.eq_false_iff.mpr c30
                            subst c30
                            have H1 : ((corporaref11_Contains.f ((rd_T23 l0 x28_1).f0) ((rd_T23 l0 x28_1).f1) ((rd_T23 l1 x34_2).f0) ((rd_T23 l1 x34_2).f1)).bind fun t339 => (corporaref11_Choose.l1 k2 l1 a2 x10_1 t339 l0 (l0.length : Int) x28_1 l1 (l1.length : Int) (wrap64 (x34_2 + 1)) ((rd_T23 l0 x28_1).f0) ((rd_T23 l0 x28_1).f1))) = some (r1, r2) := by rw [if_neg (show ¬ (false = true) by decide)] at H; exact H
                            clear H
                            have H := H1
                            clear H1
                            replace H := Option.bind_eq_some_iff.mp H
                            obtain ⟨t339, A340, H⟩ := H
                            replace H : (corporaref11_Choose.l1 k2 l1 a2 x10_1 t339 l0 (l0.length : Int) x28_1 l1 (l1.length : Int) (wrap64 (x34_2 + 1)) ((rd_T23 l0 x28_1).f0) ((rd_T23 l0 x28_1).f1)) = some (r1, r2) := H
                            have A34 := Aside0.mk A340
                            clear A340
                            have H' := Aside0.mk H
                            clear H
                            have p336 : 0 ≤ (x34_2 : Int) := of_decide_eq_true (by first | (with_reducible assumption) | assumption)
                            have q336 : x34_2 < (l1.length : Int) := of_decide_eq_true (by first | (with_reducible assumption) | assumption)
                            obtain ⟨ad336, e336, hx336_0, hx336_1⟩ := at_T23 HR1.out x34_2 p336 q336
                            cases e336
                            replace hx336_0 := (HB.out.cell (World.block_lt_of_cell? w _ hx336_0)).trans hx336_0
                            replace hx336_1 := (HB.out.cell (World.block_lt_of_cell? w _ hx336_1)).trans hx336_1
                            replace p336 := eq_true p336
                            replace q336 := eq_true q336
                            go_wp2_with (first | ((with_reducible refine gate_dst (N := 15) rfl ?_); refine box_event ?hg (N := 15) ?hd (cs := #[.int .i64 0, .int .i64 0]) (t := 23) ?hr ?_; (case hd => rfl); (case hg => rfl); (case hr => first | (go_simp; done) | (go_simp; rfl)); intro gb337 hg w35 hbox hb; have n0_ := Aside0.mk (Kd.R_below (Kd.R_elderB (by (with_reducible repeat (first | apply Kd.R_alloc | apply Kd.R_drewN | apply Kd.R_drew)); exact HO_10.out) gb337 (Nat.le_of_eq hg.symm)) hb); have n1_ := Aside0.mk (blk_below (g := gb332) (o := .cells #[.int .i64 ((rd_T23 l0 x28_1).f0), .int .i64 ((rd_T23 l0 x28_1).f1)] 23 (0, 0)) (by (with_reducible repeat (first | refine blk_drewN ?_ _ | refine blk_drew ?_ | refine blk_alloc ?_ _)); exact BK332.out) hb); have n2_ := Aside0.mk (below_step (by repeat (first | (with_reducible first | exact HB.out | apply below_alloc | apply pw_below_drewN | apply below_drew1 | refine below_set ?_ GE332.out) | exact HB.out)) hb); have n3_ := Aside0.mk (hbox); have n4_ := Aside0.mk ((by rw [hg]; exact (below_size (by repeat (first | (with_reducible first | exact HB.out | apply below_alloc | apply pw_below_drewN | apply below_drew1 | refine below_set ?_ GE332.out) | exact HB.out))) : w.heap.size ≤ gb337)); have n5_ := Aside0.mk ((by rw [hg]; exact (below_size (by repeat (first | (with_reducible first | exact HB.out | apply below_alloc | apply pw_below_drewN | apply below_drew1 | refine below_set ?_ GE332.out) | exact HB.out))) : w.heap.size ≤ gb337)); have n6_ := Aside0.mk ((by rw [hg]; exact Nat.ne_of_lt (blk_lt (g := gb332) (o := .cells #[.int .i64 ((rd_T23 l0 x28_1).f0), .int .i64 ((rd_T23 l0 x28_1).f1)] 23 (0, 0)) (by (with_reducible repeat (first | refine blk_drewN ?_ _ | refine blk_drew ?_ | refine blk_alloc ?_ _)); exact BK332.out)) : gb332 ≠ gb337)); have n7_ := Aside0.mk ((by rw [hg]; exact Nat.ne_of_gt (blk_lt (g := gb332) (o := .cells #[.int .i64 ((rd_T23 l0 x28_1).f0), .int .i64 ((rd_T23 l0 x28_1).f1)] 23 (0, 0)) (by (with_reducible repeat (first | refine blk_drewN ?_ _ | refine blk_drew ?_ | refine blk_alloc ?_ _)); exact BK332.out)) : gb337 ≠ gb332)); clear HO_10; clear BK332; clear HB; have HO_10 := n0_; have BK332 := n1_; have HB := n2_; have BK337 := n3_; have GW337 := n4_; have GE337 := n5_; have NB332_337 := n6_; have NB337_332 := n7_; clear n0_ n1_ n2_ n3_ n4_ n5_ n6_ n7_; clear hb hbox hg; have hnb36 := NB337_332.out; have hnc36 := NB332_337.out; have hcz37_0 : w35.cell? ⟨gb337, 0, none⟩ = some (.int .i64 0) := (blk_cell BK337.out 0).trans rfl; have hcz37_1 : w35.cell? ⟨gb337, 1, none⟩ = some (.int .i64 0) := (blk_cell BK337.out 1).trans rfl; have hfz37_0 := blk_frozen BK337.out 0; have hfz37_1 := blk_frozen BK337.out 1; have hcz38_0 : w35.cell? ⟨gb332, 0, none⟩ = some (.int .i64 ((rd_T23 l0 x28_1).f0)) := (blk_cell BK332.out 0).trans rfl; have hcz38_1 : w35.cell? ⟨gb332, 1, none⟩ = some (.int .i64 ((rd_T23 l0 x28_1).f1)) := (blk_cell BK332.out 1).trans rfl; have hfz38_0 := blk_frozen BK332.out 0; have hfz38_1 := blk_frozen BK332.out 1) | (go_at_call 33; (with_reducible refine (corporaref11_Contains.calls ((rd_T23 l0 x28_1).f0) ((rd_T23 l0 x28_1).f1) ((rd_T23 l1 x34_2).f0) ((rd_T23 l1 x34_2).f1) t339 _ A34.out).mono ?_); rintro e w39 ⟨rfl, hb⟩; have n0_ := Aside0.mk (Kd.R_below (by (with_reducible repeat (first | apply Kd.R_alloc | apply Kd.R_drewN | apply Kd.R_drew)); exact (Kd.R_mono (Kd.R_far (p := ⟨gb337, 1, none⟩) (Kd.R_far (p := ⟨gb337, 0, none⟩) (Kd.R_mono HO_10.out (fun k_ hk => (⟨hk, hk.2⟩ : _ ∧ k_ ≠ gb337))) (fun _ hk => hk.2) (.int .i64 ((rd_T23 l1 x34_2).f0))) (fun _ hk => hk.2) (.int .i64 ((rd_T23 l1 x34_2).f1))) (fun _ h_ => h_.1))) hb); have n1_ := Aside0.mk (blk_below (g := gb332) (o := .cells #[.int .i64 ((rd_T23 l0 x28_1).f0), .int .i64 ((rd_T23 l0 x28_1).f1)] 23 (0, 0)) (by (with_reducible repeat (first | refine blk_drewN ?_ _ | refine blk_drew ?_ | refine blk_alloc ?_ _)); refine blk_far ?_ NB332_337.out _; (with_reducible repeat (first | refine blk_drewN ?_ _ | refine blk_drew ?_ | refine blk_alloc ?_ _)); refine blk_far ?_ NB332_337.out _; (with_reducible repeat (first | refine blk_drewN ?_ _ | refine blk_drew ?_ | refine blk_alloc ?_ _)); exact BK332.out) hb); have n2_ := Aside0.mk (blk_below (g := gb337) (o := .cells #[.int .i64 ((rd_T23 l1 x34_2).f0), .int .i64 ((rd_T23 l1 x34_2).f1)] 23 (0, 0)) (by (with_reducible repeat (first | refine blk_drewN ?_ _ | refine blk_drew ?_ | refine blk_alloc ?_ _)); refine blk_put (cs := #[.int .i64 ((rd_T23 l1 x34_2).f0), .int .i64 0]) ?_ 1 _ rfl; (with_reducible repeat (first | refine blk_drewN ?_ _ | refine blk_drew ?_ | refine blk_alloc ?_ _)); refine blk_put (cs := #[.int .i64 0, .int .i64 0]) ?_ 0 _ rfl; (with_reducible repeat (first | refine blk_drewN ?_ _ | refine blk_drew ?_ | refine blk_alloc ?_ _)); exact BK337.out) hb); have n3_ := Aside0.mk (below_step (by repeat (first | (with_reducible first | exact HB.out | apply below_alloc | apply pw_below_drewN | apply below_drew1 | refine below_set ?_ GE332.out | refine below_set ?_ GE337.out) | exact HB.out)) hb); clear HO_10; clear BK332; clear BK337; clear HB; have HO_10 := n0_; have BK332 := n1_; have BK337 := n2_; have HB := n3_; clear n0_ n1_ n2_ n3_; (try clear hb); (try clear hb2); (try clear hk); (try clear hi)))
                            go_roundg k2
                            case measure => have := HK1.out; have := HK2.out; omega
                            case rel => exact ⟨(t339), (wrap64 (x34_2 + 1)), (by first | rfl | (simp; done) | (simp [*]; done)), (by first | rfl | (simp; done) | (simp [*]; done)), H', ⟨by have := HK1.out; have := HK2.out; omega⟩, ⟨by (with_reducible repeat (first | apply Kd.R_alloc | apply Kd.R_drewN | apply Kd.R_drew)); exact Kd.R_mono HO_10.out (fun _ hk => hk.1)⟩, ⟨by (with_reducible repeat (first | refine blk_drewN ?_ _ | refine blk_drew ?_ | refine blk_alloc ?_ _)); exact BK332.out⟩, ⟨by repeat (first | (with_reducible first | exact HB.out | apply below_alloc | apply pw_below_drewN | apply below_drew1 | refine below_set ?_ GE332.out | refine below_set ?_ GE337.out) | exact HB.out)⟩⟩
                          rw [if_neg c29] at H
                          have c29b0 : (a2 == 2) = false := beq_eq_false_iff_ne.mpr c29
                          have c29b1 : (a2 != 2) = true := bne_iff_ne.mpr c29
                          by_cases c40 : x13_2 = true
                          · subst c40
                            have H1 : (corporaref11_Choose.l1 k2 l1 a2 x10_1 true l0 (l0.length : Int) x28_1 l1 (l1.length : Int) (wrap64 (x34_2 + 1)) ((rd_T23 l0 x28_1).f0) ((rd_T23 l0 x28_1).f1)) = some (r1, r2) := by rw [if_pos rfl] at H; exact H
                            clear H
                            have H := H1
                            clear H1
                            have H' := Aside0.mk H
                            clear H
                            have p336 : 0 ≤ (x34_2 : Int) := of_decide_eq_true (by first | (with_reducible assumption) | assumption)
                            have q336 : x34_2 < (l1.length : Int) := of_decide_eq_true (by first | (with_reducible assumption) | assumption)
                            obtain ⟨ad336, e336, hx336_0, hx336_1⟩ := at_T23 HR1.out x34_2 p336 q336
                            cases e336
                            replace hx336_0 := (HB.out.cell (World.block_lt_of_cell? w _ hx336_0)).trans hx336_0
                            replace hx336_1 := (HB.out.cell (World.block_lt_of_cell? w _ hx336_1)).trans hx336_1
                            replace p336 := eq_true p336
                            replace q336 := eq_true q336
                            go_wp2_with (first | ((with_reducible refine gate_dst (N := 15) rfl ?_); refine box_event ?hg (N := 15) ?hd (cs := #[.int .i64 0, .int .i64 0]) (t := 23) ?hr ?_; (case hd => rfl); (case hg => rfl); (case hr => first | (go_simp; done) | (go_simp; rfl)); intro gb337 hg w41 hbox hb; have n0_ := Aside0.mk (Kd.R_below (Kd.R_elderB (by (with_reducible repeat (first | apply Kd.R_alloc | apply Kd.R_drewN | apply Kd.R_drew)); exact HO_10.out) gb337 (Nat.le_of_eq hg.symm)) hb); have n1_ := Aside0.mk (blk_below (g := gb332) (o := .cells #[.int .i64 ((rd_T23 l0 x28_1).f0), .int .i64 ((rd_T23 l0 x28_1).f1)] 23 (0, 0)) (by (with_reducible repeat (first | refine blk_drewN ?_ _ | refine blk_drew ?_ | refine blk_alloc ?_ _)); exact BK332.out) hb); have n2_ := Aside0.mk (below_step (by repeat (first | (with_reducible first | exact HB.out | apply below_alloc | apply pw_below_drewN | apply below_drew1 | refine below_set ?_ GE332.out) | exact HB.out)) hb); have n3_ := Aside0.mk (hbox); have n4_ := Aside0.mk ((by rw [hg]; exact (below_size (by repeat (first | (with_reducible first | exact HB.out | apply below_alloc | apply pw_below_drewN | apply below_drew1 | refine below_set ?_ GE332.out) | exact HB.out))) : w.heap.size ≤ gb337)); have n5_ := Aside0.mk ((by rw [hg]; exact (below_size (by repeat (first | (with_reducible first | exact HB.out | apply below_alloc | apply pw_below_drewN | apply below_drew1 | refine below_set ?_ GE332.out) | exact HB.out))) : w.heap.size ≤ gb337)); have n6_ := Aside0.mk ((by rw [hg]; exact Nat.ne_of_lt (blk_lt (g := gb332) (o := .cells #[.int .i64 ((rd_T23 l0 x28_1).f0), .int .i64 ((rd_T23 l0 x28_1).f1)] 23 (0, 0)) (by (with_reducible repeat (first | refine blk_drewN ?_ _ | refine blk_drew ?_ | refine blk_alloc ?_ _)); exact BK332.out)) : gb332 ≠ gb337)); have n7_ := Aside0.mk ((by rw [hg]; exact Nat.ne_of_gt (blk_lt (g := gb332) (o := .cells #[.int .i64 ((rd_T23 l0 x28_1).f0), .int .i64 ((rd_T23 l0 x28_1).f1)] 23 (0, 0)) (by (with_reducible repeat (first | refine blk_drewN ?_ _ | refine blk_drew ?_ | refine blk_alloc ?_ _)); exact BK332.out)) : gb337 ≠ gb332)); clear HO_10; clear BK332; clear HB; have HO_10 := n0_; have BK332 := n1_; have HB := n2_; have BK337 := n3_; have GW337 := n4_; have GE337 := n5_; have NB332_337 := n6_; have NB337_332 := n7_; clear n0_ n1_ n2_ n3_ n4_ n5_ n6_ n7_; clear hb hbox hg; have hnb42 := NB337_332.out; have hnc42 := NB332_337.out; have hcz43_0 : w41.cell? ⟨gb337, 0, none⟩ = some (.int .i64 0) := (blk_cell BK337.out 0).trans rfl; have hcz43_1 : w41.cell? ⟨gb337, 1, none⟩ = some (.int .i64 0) := (blk_cell BK337.out 1).trans rfl; have hfz43_0 := blk_frozen BK337.out 0; have hfz43_1 := blk_frozen BK337.out 1))
                            go_roundg k2
                            case measure => have := HK1.out; have := HK2.out; omega
                            case rel => exact ⟨(true), (wrap64 (x34_2 + 1)), (by first | rfl | (simp; done) | (simp [*]; done)), (by first | rfl | (simp; done) | (simp [*]; done)), H', ⟨by have := HK1.out; have := HK2.out; omega⟩, ⟨by (with_reducible repeat (first | apply Kd.R_alloc | apply Kd.R_drewN | apply Kd.R_drew)); exact Kd.R_mono (Kd.R_far (p := ⟨gb337, 1, none⟩) (Kd.R_far (p := ⟨gb337, 0, none⟩) (Kd.R_mono HO_10.out (fun k_ hk => (⟨hk, hk.2⟩ : _ ∧ k_ ≠ gb337))) (fun _ hk => hk.2) (.int .i64 ((rd_T23 l1 x34_2).f0))) (fun _ hk => hk.2) (.int .i64 ((rd_T23 l1 x34_2).f1))) (fun _ hk => hk.1.1)⟩, ⟨by (with_reducible repeat (first | refine blk_drewN ?_ _ | refine blk_drew ?_ | refine blk_alloc ?_ _)); refine blk_far ?_ NB332_337.out _; (with_reducible repeat (first | refine blk_drewN ?_ _ | refine blk_drew ?_ | refine blk_alloc ?_ _)); refine blk_far ?_ NB332_337.out _; (with_reducible repeat (first | refine blk_drewN ?_ _ | refine blk_drew ?_ | refine blk_alloc ?_ _)); exact BK332.out⟩, ⟨by repeat (first | (with_reducible first | exact HB.out | apply below_alloc | apply pw_below_drewN | apply below_drew1 | refine below_set ?_ GE332.out | refine below_set ?_ GE337.out) | exact HB.out)⟩⟩
                          replace c40 := Bool.eq_false_iff.mpr c40
                          subst c40
                          have H1 : ((corporaref11_Overlap.f ((rd_T23 l0 x28_1).f0) ((rd_T23 l0 x28_1).f1) ((rd_T23 l1 x34_2).f0) ((rd_T23 l1 x34_2).f1)).bind fun t340 => (corporaref11_Choose.l1 k2 l1 a2 x10_1 t340 l0 (l0.length : Int) x28_1 l1 (l1.length : Int) (wrap64 (x34_2 + 1)) ((rd_T23 l0 x28_1).f0) ((rd_T23 l0 x28_1).f1))) = some (r1, r2) := by rw [if_neg (show ¬ (false = true) by decide)] at H; exact H
                          clear H
                          have H := H1
                          clear H1
                          replace H := Option.bind_eq_some_iff.mp H
                          obtain ⟨t340, A440, H⟩ := H
                          replace H : (corporaref11_Choose.l1 k2 l1 a2 x10_1 t340 l0 (l0.length : Int) x28_1 l1 (l1.length : Int) (wrap64 (x34_2 + 1)) ((rd_T23 l0 x28_1).f0) ((rd_T23 l0 x28_1).f1)) = some (r1, r2) := H
                          have A44 := Aside0.mk A440
                          clear A440
                          have H' := Aside0.mk H
                          clear H
                          have p336 : 0 ≤ (x34_2 : Int) := of_decide_eq_true (by first | (with_reducible assumption) | assumption)
                          have q336 : x34_2 < (l1.length : Int) := of_decide_eq_true (by first | (with_reducible assumption) | assumption)
                          obtain ⟨ad336, e336, hx336_0, hx336_1⟩ := at_T23 HR1.out x34_2 p336 q336
                          cases e336
                          replace hx336_0 := (HB.out.cell (World.block_lt_of_cell? w _ hx336_0)).trans hx336_0
                          replace hx336_1 := (HB.out.cell (World.block_lt_of_cell? w _ hx336_1)).trans hx336_1
                          replace p336 := eq_true p336
                          replace q336 := eq_true q336
                          go_wp2_with (first | ((with_reducible refine gate_dst (N := 15) rfl ?_); refine box_event ?hg (N := 15) ?hd (cs := #[.int .i64 0, .int .i64 0]) (t := 23) ?hr ?_; (case hd => rfl); (case hg => rfl); (case hr => first | (go_simp; done) | (go_simp; rfl)); intro gb337 hg w45 hbox hb; have n0_ := Aside0.mk (Kd.R_below (Kd.R_elderB (by (with_reducible repeat (first | apply Kd.R_alloc | apply Kd.R_drewN | apply Kd.R_drew)); exact HO_10.out) gb337 (Nat.le_of_eq hg.symm)) hb); have n1_ := Aside0.mk (blk_below (g := gb332) (o := .cells #[.int .i64 ((rd_T23 l0 x28_1).f0), .int .i64 ((rd_T23 l0 x28_1).f1)] 23 (0, 0)) (by (with_reducible repeat (first | refine blk_drewN ?_ _ | refine blk_drew ?_ | refine blk_alloc ?_ _)); exact BK332.out) hb); have n2_ := Aside0.mk (below_step (by repeat (first | (with_reducible first | exact HB.out | apply below_alloc | apply pw_below_drewN | apply below_drew1 | refine below_set ?_ GE332.out) | exact HB.out)) hb); have n3_ := Aside0.mk (hbox); have n4_ := Aside0.mk ((by rw [hg]; exact (below_size (by repeat (first | (with_reducible first | exact HB.out | apply below_alloc | apply pw_below_drewN | apply below_drew1 | refine below_set ?_ GE332.out) | exact HB.out))) : w.heap.size ≤ gb337)); have n5_ := Aside0.mk ((by rw [hg]; exact (below_size (by repeat (first | (with_reducible first | exact HB.out | apply below_alloc | apply pw_below_drewN | apply below_drew1 | refine below_set ?_ GE332.out) | exact HB.out))) : w.heap.size ≤ gb337)); have n6_ := Aside0.mk ((by rw [hg]; exact Nat.ne_of_lt (blk_lt (g := gb332) (o := .cells #[.int .i64 ((rd_T23 l0 x28_1).f0), .int .i64 ((rd_T23 l0 x28_1).f1)] 23 (0, 0)) (by (with_reducible repeat (first | refine blk_drewN ?_ _ | refine blk_drew ?_ | refine blk_alloc ?_ _)); exact BK332.out)) : gb332 ≠ gb337)); have n7_ := Aside0.mk ((by rw [hg]; exact Nat.ne_of_gt (blk_lt (g := gb332) (o := .cells #[.int .i64 ((rd_T23 l0 x28_1).f0), .int .i64 ((rd_T23 l0 x28_1).f1)] 23 (0, 0)) (by (with_reducible repeat (first | refine blk_drewN ?_ _ | refine blk_drew ?_ | refine blk_alloc ?_ _)); exact BK332.out)) : gb337 ≠ gb332)); clear HO_10; clear BK332; clear HB; have HO_10 := n0_; have BK332 := n1_; have HB := n2_; have BK337 := n3_; have GW337 := n4_; have GE337 := n5_; have NB332_337 := n6_; have NB337_332 := n7_; clear n0_ n1_ n2_ n3_ n4_ n5_ n6_ n7_; clear hb hbox hg; have hnb46 := NB337_332.out; have hnc46 := NB332_337.out; have hcz47_0 : w45.cell? ⟨gb337, 0, none⟩ = some (.int .i64 0) := (blk_cell BK337.out 0).trans rfl; have hcz47_1 : w45.cell? ⟨gb337, 1, none⟩ = some (.int .i64 0) := (blk_cell BK337.out 1).trans rfl; have hfz47_0 := blk_frozen BK337.out 0; have hfz47_1 := blk_frozen BK337.out 1; have hcz48_0 : w45.cell? ⟨gb332, 0, none⟩ = some (.int .i64 ((rd_T23 l0 x28_1).f0)) := (blk_cell BK332.out 0).trans rfl; have hcz48_1 : w45.cell? ⟨gb332, 1, none⟩ = some (.int .i64 ((rd_T23 l0 x28_1).f1)) := (blk_cell BK332.out 1).trans rfl; have hfz48_0 := blk_frozen BK332.out 0; have hfz48_1 := blk_frozen BK332.out 1) | (go_at_call 34; (with_reducible refine (corporaref11_Overlap.calls ((rd_T23 l0 x28_1).f0) ((rd_T23 l0 x28_1).f1) ((rd_T23 l1 x34_2).f0) ((rd_T23 l1 x34_2).f1) t340 _ A44.out).mono ?_); rintro e w49 ⟨rfl, hb⟩; have n0_ := Aside0.mk (Kd.R_below (by (with_reducible repeat (first | apply Kd.R_alloc | apply Kd.R_drewN | apply Kd.R_drew)); exact (Kd.R_mono (Kd.R_far (p := ⟨gb337, 1, none⟩) (Kd.R_far (p := ⟨gb337, 0, none⟩) (Kd.R_mono HO_10.out (fun k_ hk => (⟨hk, hk.2⟩ : _ ∧ k_ ≠ gb337))) (fun _ hk => hk.2) (.int .i64 ((rd_T23 l1 x34_2).f0))) (fun _ hk => hk.2) (.int .i64 ((rd_T23 l1 x34_2).f1))) (fun _ h_ => h_.1))) hb); have n1_ := Aside0.mk (blk_below (g := gb332) (o := .cells #[.int .i64 ((rd_T23 l0 x28_1).f0), .int .i64 ((rd_T23 l0 x28_1).f1)] 23 (0, 0)) (by (with_reducible repeat (first | refine blk_drewN ?_ _ | refine blk_drew ?_ | refine blk_alloc ?_ _)); refine blk_far ?_ NB332_337.out _; (with_reducible repeat (first | refine blk_drewN ?_ _ | refine blk_drew ?_ | refine blk_alloc ?_ _)); refine blk_far ?_ NB332_337.out _; (with_reducible repeat (first | refine blk_drewN ?_ _ | refine blk_drew ?_ | refine blk_alloc ?_ _)); exact BK332.out) hb); have n2_ := Aside0.mk (blk_below (g := gb337) (o := .cells #[.int .i64 ((rd_T23 l1 x34_2).f0), .int .i64 ((rd_T23 l1 x34_2).f1)] 23 (0, 0)) (by (with_reducible repeat (first | refine blk_drewN ?_ _ | refine blk_drew ?_ | refine blk_alloc ?_ _)); refine blk_put (cs := #[.int .i64 ((rd_T23 l1 x34_2).f0), .int .i64 0]) ?_ 1 _ rfl; (with_reducible repeat (first | refine blk_drewN ?_ _ | refine blk_drew ?_ | refine blk_alloc ?_ _)); refine blk_put (cs := #[.int .i64 0, .int .i64 0]) ?_ 0 _ rfl; (with_reducible repeat (first | refine blk_drewN ?_ _ | refine blk_drew ?_ | refine blk_alloc ?_ _)); exact BK337.out) hb); have n3_ := Aside0.mk (below_step (by repeat (first | (with_reducible first | exact HB.out | apply below_alloc | apply pw_below_drewN | apply below_drew1 | refine below_set ?_ GE332.out | refine below_set ?_ GE337.out) | exact HB.out)) hb); clear HO_10; clear BK332; clear BK337; clear HB; have HO_10 := n0_; have BK332 := n1_; have BK337 := n2_; have HB := n3_; clear n0_ n1_ n2_ n3_; (try clear hb); (try clear hb2); (try clear hk); (try clear hi)))
                          go_roundg k2
                          case measure => have := HK1.out; have := HK2.out; omega
                          case rel => exact ⟨(t340), (wrap64 (x34_2 + 1)), (by first | rfl | (simp; done) | (simp [*]; done)), (by first | rfl | (simp; done) | (simp [*]; done)), H', ⟨by have := HK1.out; have := HK2.out; omega⟩, ⟨by (with_reducible repeat (first | apply Kd.R_alloc | apply Kd.R_drewN | apply Kd.R_drew)); exact Kd.R_mono HO_10.out (fun _ hk => hk.1)⟩, ⟨by (with_reducible repeat (first | refine blk_drewN ?_ _ | refine blk_drew ?_ | refine blk_alloc ?_ _)); exact BK332.out⟩, ⟨by repeat (first | (with_reducible first | exact HB.out | apply below_alloc | apply pw_below_drewN | apply below_drew1 | refine below_set ?_ GE332.out | refine below_set ?_ GE337.out) | exact HB.out)⟩⟩
                        rw [if_neg c17] at H
                        exact absurd H (by simp)
                      rw [if_neg c16] at H
                      exact absurd H (by simp)
                    rw [if_neg c15] at H
                    have c15b0 : decide (x34_2 < (l1.length : Int)) = false := decide_eq_false c15
                    clear c15
                    by_cases c50 : x13_2 = true
                    · subst c50
                      have H1 : ((corporaref11_insert.f k2 x10_1 ((rd_T23 l0 x28_1).f0) ((rd_T23 l0 x28_1).f1)).bind fun t333 => (corporaref11_Choose.l0 k2 l1 a2 t333 l0 (l0.length : Int) (wrap64 (x28_1 + 1)))) = some (r1, r2) := by rw [if_pos rfl] at H; exact H
                      clear H
                      have H := H1
                      clear H1
                      replace H := Option.bind_eq_some_iff.mp H
                      obtain ⟨t333, A510, H⟩ := H
                      replace H : (corporaref11_Choose.l0 k2 l1 a2 t333 l0 (l0.length : Int) (wrap64 (x28_1 + 1))) = some (r1, r2) := H
                      have A51 := Aside0.mk A510
                      clear A510
                      have H' := Aside0.mk H
                      clear H
                      have hcz52_0 : wr.cell? ⟨gb332, 0, none⟩ = some (.int .i64 ((rd_T23 l0 x28_1).f0)) := (blk_cell BK332.out 0).trans rfl
                      have hcz52_1 : wr.cell? ⟨gb332, 1, none⟩ = some (.int .i64 ((rd_T23 l0 x28_1).f1)) := (blk_cell BK332.out 1).trans rfl
                      have hfz52_0 := blk_frozen BK332.out 0
                      have hfz52_1 := blk_frozen BK332.out 1
                      obtain ⟨Ao53, co53, eo53⟩ := Kd.R_slice HO_10.out
                      subst eo53
                      go_wp2_with (first | ((with_reducible refine gate_callee (f := 31) rfl ?_); refine goesL_ (some 65) rfl rfl Try.func31 (by kernel_rfl) rfl #[.slice Ao53 x10_1.length co53, .agg #[.int .i64 ((rd_T23 l0 x28_1).f0), .int .i64 ((rd_T23 l0 x28_1).f1)]] rfl (by (try simp only [List.map_toArray, List.map_cons, List.map_nil]); first | done | rfl | (simp only [List.length_drop, List.length_take]; rfl)) ?_; (with_reducible refine (corporaref11_insert.calls k2 (fun k_ => some k_ = (.slice Ao53 x10_1.length co53 : Value).ownBlock) (.slice Ao53 x10_1.length co53) x10_1 ((rd_T23 l0 x28_1).f0) ((rd_T23 l0 x28_1).f1) t333 w _ ?side1 ?side2 A51.out).mono ?_); (case side1 => repeat (first | (with_reducible first | exact HB.out | apply below_alloc | apply pw_below_drewN | apply below_drew1 | refine below_set ?_ GE332.out) | exact HB.out)); (case side2 => exact Kd.R_tight rfl HO_10.out); rintro e w54 ⟨v334, rfl, ho0, hb, hkp⟩; refine ⟨_, rfl, ?_⟩; have n0_ := Aside0.mk (blk_kept (by (with_reducible repeat (first | refine blk_drewN ?_ _ | refine blk_drew ?_ | refine blk_alloc ?_ _)); exact BK332.out) hkp (fun hs_ => (fun e_ => (Kd.R_away HO_10.out (fun _ hk => hk)) e_) hs_)); have n1_ := Aside0.mk (Kd.R_mono (ok' := fun k_ => k_ ≠ gb332) ho0 (fun k_ hk_ => Or.elim hk_ (fun hs_ => fun e_ => (Kd.R_away HO_10.out (fun _ hk => hk)) (by rw [← e_]; exact hs_)) (fun hn_ => (Kd.freshB (g := gb332) (o := .cells #[.int .i64 ((rd_T23 l0 x28_1).f0), .int .i64 ((rd_T23 l0 x28_1).f1)] 23 (0, 0)) (by (with_reducible repeat (first | refine blk_drewN ?_ _ | refine blk_drew ?_ | refine blk_alloc ?_ _)); exact BK332.out) k_ hn_)))); have n2_ := Aside0.mk (hb); clear BK332; clear HB; clear HO_10; have BK332 := n0_; have HO335 := n1_; have HB := n2_; clear n0_ n1_ n2_; (try clear hb); (try clear hkp); (try clear ho0)))
                      go_roundg k2
                      case measure => have := HK1.out; have := HK2.out; omega
                      case rel => exact ⟨(t333), (wrap64 (x28_1 + 1)), (by first | rfl | (simp; done) | (simp [*]; done)), H', ⟨by have := HK1.out; have := HK2.out; omega⟩, ⟨by (with_reducible repeat (first | apply Kd.R_alloc | apply Kd.R_drewN | apply Kd.R_drew)); exact Kd.R_mono HO335.out (fun _ hk => trivial)⟩, ⟨by repeat (first | (with_reducible first | exact HB.out | apply below_alloc | apply pw_below_drewN | apply below_drew1 | refine below_set ?_ GE332.out) | exact HB.out)⟩⟩
                    replace c50 := Bool.eq_false_iff.mpr c50
                    subst c50
                    have H1 : (corporaref11_Choose.l0 k2 l1 a2 x10_1 l0 (l0.length : Int) (wrap64 (x28_1 + 1))) = some (r1, r2) := by rw [if_neg (show ¬ (false = true) by decide)] at H; exact H
                    clear H
                    have H := H1
                    clear H1
                    have H' := Aside0.mk H
                    clear H
                    go_wp2
                    go_roundg k2
                    case measure => have := HK1.out; have := HK2.out; omega
                    case rel => exact ⟨(x10_1), (wrap64 (x28_1 + 1)), (by first | rfl | (simp; done) | (simp [*]; done)), H', ⟨by have := HK1.out; have := HK2.out; omega⟩, ⟨by (with_reducible repeat (first | apply Kd.R_alloc | apply Kd.R_drewN | apply Kd.R_drew)); exact Kd.R_mono HO_10.out (fun _ hk => trivial)⟩, ⟨by repeat (first | (with_reducible first | exact HB.out | apply below_alloc | apply pw_below_drewN | apply below_drew1 | refine below_set ?_ GE332.out) | exact HB.out)⟩⟩
              rw [if_neg c12] at H
              exact absurd H (by simp)
            rw [if_neg c11] at H
            exact absurd H (by simp)
          rw [if_neg c10] at H
          have c10b0 : decide (x28_1 < (l0.length : Int)) = false := decide_eq_false c10
          clear c10
          simp only [Option.some.injEq, Prod.mk.injEq] at H
          obtain ⟨rfl, rfl⟩ := H
          go_wp2
          go_ret2
          exact ⟨_, by first | rfl | (simp [errW_none, errW_some] <;> rfl) | (simp [*, errW_none, errW_some] <;> rfl), by (with_reducible repeat (first | apply Kd.R_alloc | apply Kd.R_drewN | apply Kd.R_drew)); exact HO_10.out, by repeat (first | (with_reducible first | exact HB.out | apply below_alloc | apply pw_below_drewN | apply below_drew1) | exact HB.out)⟩
    rw [if_neg c7] at H
    have c7b0 : (t330 == 0) = false := beq_eq_false_iff_ne.mpr c7
    have c7b1 : (t330 != 0) = true := bne_iff_ne.mpr c7
    simp only [Option.some.injEq, Prod.mk.injEq] at H
    obtain ⟨rfl, rfl⟩ := H
    go_enter Try.func24, Try.ntmps24
    go_wp2_with (first | ((with_reducible refine gate_callee (f := 30) rfl ?_); refine goesL_ (some 17) rfl rfl Try.func30 (by kernel_rfl) rfl #[.slice A0 l0.length c0] rfl (by (try simp only [List.map_toArray, List.map_cons, List.map_nil]); first | done | rfl | (simp only [List.length_drop, List.length_take]; rfl)) ?_; (with_reducible refine (corporaref11_Check.calls k _ _ l0 t329 _ ?side1 ?side2 A4.out).mono ?_); (case side1 => repeat (first | exact HR0.out | (with_reducible refine Kd.C_alloc ?_ _) | (with_reducible refine Kd.C_drewN ?_ _) | (with_reducible refine Kd.C_drew ?_))); (case side2 => exact HC0.out); rintro e w55 ⟨rfl, hb⟩; refine ⟨_, rfl, ?_⟩; have n0_ := Aside0.mk (below_step (by repeat (first | (with_reducible first | exact HB.out | apply below_alloc | apply pw_below_drewN | apply below_drew1) | exact HB.out)) hb); clear HB; have HB := n0_; clear n0_; (try clear hb); (try clear hb2); (try clear hk); (try clear hi)) | ((with_reducible refine gate_callee (f := 30) rfl ?_); refine goesL_ (some 22) rfl rfl Try.func30 (by kernel_rfl) rfl #[.slice A1 l1.length c1] rfl (by (try simp only [List.map_toArray, List.map_cons, List.map_nil]); first | done | rfl | (simp only [List.length_drop, List.length_take]; rfl)) ?_; (with_reducible refine (corporaref11_Check.calls k _ _ l1 t330 _ ?side1 ?side2 A6.out).mono ?_); (case side1 => repeat (first | exact (Kd.C_below HR1.out HB.out) | (with_reducible refine Kd.C_alloc ?_ _) | (with_reducible refine Kd.C_drewN ?_ _) | (with_reducible refine Kd.C_drew ?_))); (case side2 => exact HC1.out); rintro e w56 ⟨rfl, hb⟩; refine ⟨_, rfl, ?_⟩; have n0_ := Aside0.mk (below_step (by repeat (first | (with_reducible first | exact HB.out | apply below_alloc | apply pw_below_drewN | apply below_drew1) | exact HB.out)) hb); clear HB; have HB := n0_; clear n0_; (try clear hb); (try clear hb2); (try clear hk); (try clear hi)))
    go_ret2
    exact ⟨_, by first | rfl | (simp [errW_none, errW_some] <;> rfl) | (simp [*, errW_none, errW_some] <;> rfl), by first | exact Kd.R_nil _ _ _ _ _ | exact Kd.N_nil _ _ _ _ _ | exact Kd.V_nil _ _ _ _ _ | exact Kd.Q_nil _ _ _ _ _ | exact Kd.S_nil _ _ _ _ _, by repeat (first | (with_reducible first | exact HB.out | apply below_alloc | apply pw_below_drewN | apply below_drew1) | exact HB.out)⟩
  rw [if_neg c5] at H
  have c5b0 : (t329 == 0) = false := beq_eq_false_iff_ne.mpr c5
  have c5b1 : (t329 != 0) = true := bne_iff_ne.mpr c5
  simp only [Option.some.injEq, Prod.mk.injEq] at H
  obtain ⟨rfl, rfl⟩ := H
  go_enter Try.func24, Try.ntmps24
  go_wp2_with (first | ((with_reducible refine gate_callee (f := 30) rfl ?_); refine goesL_ (some 17) rfl rfl Try.func30 (by kernel_rfl) rfl #[.slice A0 l0.length c0] rfl (by (try simp only [List.map_toArray, List.map_cons, List.map_nil]); first | done | rfl | (simp only [List.length_drop, List.length_take]; rfl)) ?_; (with_reducible refine (corporaref11_Check.calls k _ _ l0 t329 _ ?side1 ?side2 A4.out).mono ?_); (case side1 => repeat (first | exact HR0.out | (with_reducible refine Kd.C_alloc ?_ _) | (with_reducible refine Kd.C_drewN ?_ _) | (with_reducible refine Kd.C_drew ?_))); (case side2 => exact HC0.out); rintro e w57 ⟨rfl, hb⟩; refine ⟨_, rfl, ?_⟩; have n0_ := Aside0.mk (below_step (by repeat (first | (with_reducible first | exact HB.out | apply below_alloc | apply pw_below_drewN | apply below_drew1) | exact HB.out)) hb); clear HB; have HB := n0_; clear n0_; (try clear hb); (try clear hb2); (try clear hk); (try clear hi)))
  go_ret2
  exact ⟨_, by first | rfl | (simp [errW_none, errW_some] <;> rfl) | (simp [*, errW_none, errW_some] <;> rfl), by first | exact Kd.R_nil _ _ _ _ _ | exact Kd.N_nil _ _ _ _ _ | exact Kd.V_nil _ _ _ _ _ | exact Kd.Q_nil _ _ _ _ _ | exact Kd.S_nil _ _ _ _ _, by repeat (first | (with_reducible first | exact HB.out | apply below_alloc | apply pw_below_drewN | apply below_drew1) | exact HB.out)⟩

end Go.Proofs.Ytbecgpjdeophmaa.Q
