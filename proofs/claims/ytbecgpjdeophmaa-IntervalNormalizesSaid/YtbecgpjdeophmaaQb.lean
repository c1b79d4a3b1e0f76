import Derived.Test.YtbecgpjdeophmaaQx0
import Derived.Test.YtbecgpjdeophmaaQx1
import Derived.Test.YtbecgpjdeophmaaQa
namespace Go.Proofs.Ytbecgpjdeophmaa.Q
open Go.RowKit Go.Proofs.YtbecgpjdeophmaaW.PrintWords Go.Proofs.YtbecgpjdeophmaaW.PrintLast Go.Proofs.YtbecgpjdeophmaaW.PrintMore
attribute [local go_sem] max2_int min2_int max_two min_two max_three min_three max_four min_four   -- for this text's walks alone
set_option linter.unusedVariables false
set_option linter.unusedSimpArgs false

attribute [local go_sem high] eqA23

/-! ### corporaref11_Relation: function 12 -/
mutual
def corporaref11_Relation.j0 : Nat → Bool → Int → Int → Int → Int → Option (Int)
  | 0, _, _, _, _, _ => none
  | k + 1, x5, x109000, x109001, x110000, x110001 => if x5 = true then (some 0) else (if (x109000 == x110000 && (x109001 == x110001)) = true then (some 7) else (if x109001 < x110000 then (some 1) else (if x109001 = x110000 then (some 2) else (if x109000 = x110000 then (corporaref11_Relation.j1 k (decide (x109001 < x110001)) x109000 x109001 x110000 x110001) else (corporaref11_Relation.j1 k false x109000 x109001 x110000 x110001)))))
def corporaref11_Relation.j1 : Nat → Bool → Int → Int → Int → Int → Option (Int)
  | 0, _, _, _, _, _ => none
  | k + 1, x30, x109000, x109001, x110000, x110001 => if x30 = true then (some 6) else (if x109000 < x110000 then (corporaref11_Relation.j2 k (x109001 == x110001) x109000 x109001 x110000 x110001) else (corporaref11_Relation.j2 k false x109000 x109001 x110000 x110001))
def corporaref11_Relation.j2 : Nat → Bool → Int → Int → Int → Int → Option (Int)
  | 0, _, _, _, _, _ => none
  | k + 1, x43, x109000, x109001, x110000, x110001 => if x43 = true then (some 4) else (if x109000 < x110000 then (corporaref11_Relation.j3 k (decide (x110001 < x109001)) x109000 x109001 x110000 x110001) else (corporaref11_Relation.j3 k false x109000 x109001 x110000 x110001))
def corporaref11_Relation.j3 : Nat → Bool → Int → Int → Int → Int → Option (Int)
  | 0, _, _, _, _, _ => none
  | k + 1, x56, x109000, x109001, x110000, x110001 => if x56 = true then (some 5) else (if x109000 < x110000 then (if x110000 < x109001 then (if x109001 < x110001 then (some 3) else ((corporaref11_Relation.f k x110000 x110001 x109000 x109001).bind fun t112 => (some (wrap64 (14 - t112))))) else ((corporaref11_Relation.f k x110000 x110001 x109000 x109001).bind fun t113 => (some (wrap64 (14 - t113))))) else ((corporaref11_Relation.f k x110000 x110001 x109000 x109001).bind fun t114 => (some (wrap64 (14 - t114)))))
def corporaref11_Relation.f : Nat → Int → Int → Int → Int → Option (Int)
  | 0, _, _, _, _ => none
  | k + 1, a0_0, a0_1, a1_0, a1_1 => (corporaref11_Valid.f a0_0 a0_1).bind fun t110 => (if t110 = true then ((corporaref11_Valid.f a1_0 a1_1).bind fun t111 => (corporaref11_Relation.j0 k (!t111) a0_0 a0_1 a1_0 a1_1)) else (corporaref11_Relation.j0 k true a0_0 a0_1 a1_0 a1_1))
end
theorem corporaref11_Relation.mono_l : ∀ k, (∀ y0 y1 y2 y3, LeO (corporaref11_Relation.f k y0 y1 y2 y3) (corporaref11_Relation.f (k + 1) y0 y1 y2 y3)) ∧ (∀ y0 y1 y2 y3 y4, LeO (corporaref11_Relation.j0 k y0 y1 y2 y3 y4) (corporaref11_Relation.j0 (k + 1) y0 y1 y2 y3 y4)) ∧ (∀ y0 y1 y2 y3 y4, LeO (corporaref11_Relation.j1 k y0 y1 y2 y3 y4) (corporaref11_Relation.j1 (k + 1) y0 y1 y2 y3 y4)) ∧ (∀ y0 y1 y2 y3 y4, LeO (corporaref11_Relation.j2 k y0 y1 y2 y3 y4) (corporaref11_Relation.j2 (k + 1) y0 y1 y2 y3 y4)) ∧ (∀ y0 y1 y2 y3 y4, LeO (corporaref11_Relation.j3 k y0 y1 y2 y3 y4) (corporaref11_Relation.j3 (k + 1) y0 y1 y2 y3 y4))
  | 0 => ⟨fun _ _ _ _ r h => by simp [corporaref11_Relation.f] at h, fun _ _ _ _ _ r h => by simp [corporaref11_Relation.j0] at h, fun _ _ _ _ _ r h => by simp [corporaref11_Relation.j1] at h, fun _ _ _ _ _ r h => by simp [corporaref11_Relation.j2] at h, fun _ _ _ _ _ r h => by simp [corporaref11_Relation.j3] at h⟩
  | k + 1 => by
    obtain ⟨ih0, ih1, ih2, ih3, ih4⟩ := corporaref11_Relation.mono_l k
    refine ⟨?_, ?_, ?_, ?_, ?_⟩
    · intro y0 y1 y2 y3
      unfold corporaref11_Relation.f
      repeat' first
      | (with_reducible exact ih0 _ _ _ _)
      | (with_reducible exact ih1 _ _ _ _ _)
      | (with_reducible exact ih2 _ _ _ _ _)
      | (with_reducible exact ih3 _ _ _ _ _)
      | (with_reducible exact ih4 _ _ _ _ _)
      | (with_reducible exact LeO.refl _)
      | (with_reducible exact LeO.none _)
      | (with_reducible refine LeO.ite ?_ ?_)
      | (with_reducible refine LeO.bind ?_ (fun _ => ?_))
      | exact ih0 _ _ _ _
      | exact ih1 _ _ _ _ _
      | exact ih2 _ _ _ _ _
      | exact ih3 _ _ _ _ _
      | exact ih4 _ _ _ _ _
      | exact LeO.none _
      | refine LeO.ite ?_ ?_
      | refine LeO.bind ?_ (fun _ => ?_)
    · intro y0 y1 y2 y3 y4
      unfold corporaref11_Relation.j0
      repeat' first
      | (with_reducible exact ih0 _ _ _ _)
      | (with_reducible exact ih1 _ _ _ _ _)
      | (with_reducible exact ih2 _ _ _ _ _)
      | (with_reducible exact ih3 _ _ _ _ _)
      | (with_reducible exact ih4 _ _ _ _ _)
      | (with_reducible exact LeO.refl _)
      | (with_reducible exact LeO.none _)
      | (with_reducible refine LeO.ite ?_ ?_)
      | (with_reducible refine LeO.bind ?_ (fun _ => ?_))
      | exact ih0 _ _ _ _
      | exact ih1 _ _ _ _ _
      | exact ih2 _ _ _ _ _
      | exact ih3 _ _ _ _ _
      | exact ih4 _ _ _ _ _
      | exact LeO.none _
      | refine LeO.ite ?_ ?_
      | refine LeO.bind ?_ (fun _ => ?_)
    · intro y0 y1 y2 y3 y4
      unfold corporaref11_Relation.j1
      repeat' first
      | (with_reducible exact ih0 _ _ _ _)
      | (with_reducible exact ih1 _ _ _ _ _)
      | (with_reducible exact ih2 _ _ _ _ _)
      | (with_reducible exact ih3 _ _ _ _ _)
      | (with_reducible exact ih4 _ _ _ _ _)
      | (with_reducible exact LeO.refl _)
      | (with_reducible exact LeO.none _)
      | (with_reducible refine LeO.ite ?_ ?_)
      | (with_reducible refine LeO.bind ?_ (fun _ => ?_))
      | exact ih0 _ _ _ _
      | exact ih1 _ _ _ _ _
      | exact ih2 _ _ _ _ _
      | exact ih3 _ _ _ _ _
      | exact ih4 _ _ _ _ _
      | exact LeO.none _
      | refine LeO.ite ?_ ?_
      | refine LeO.bind ?_ (fun _ => ?_)
    · intro y0 y1 y2 y3 y4
      unfold corporaref11_Relation.j2
      repeat' first
      | (with_reducible exact ih0 _ _ _ _)
      | (with_reducible exact ih1 _ _ _ _ _)
      | (with_reducible exact ih2 _ _ _ _ _)
      | (with_reducible exact ih3 _ _ _ _ _)
      | (with_reducible exact ih4 _ _ _ _ _)
      | (with_reducible exact LeO.refl _)
      | (with_reducible exact LeO.none _)
      | (with_reducible refine LeO.ite ?_ ?_)
      | (with_reducible refine LeO.bind ?_ (fun _ => ?_))
      | exact ih0 _ _ _ _
      | exact ih1 _ _ _ _ _
      | exact ih2 _ _ _ _ _
      | exact ih3 _ _ _ _ _
      | exact ih4 _ _ _ _ _
      | exact LeO.none _
      | refine LeO.ite ?_ ?_
      | refine LeO.bind ?_ (fun _ => ?_)
    · intro y0 y1 y2 y3 y4
      unfold corporaref11_Relation.j3
      repeat' first
      | (with_reducible exact ih0 _ _ _ _)
      | (with_reducible exact ih1 _ _ _ _ _)
      | (with_reducible exact ih2 _ _ _ _ _)
      | (with_reducible exact ih3 _ _ _ _ _)
      | (with_reducible exact ih4 _ _ _ _ _)
      | (with_reducible exact LeO.refl _)
      | (with_reducible exact LeO.none _)
      | (with_reducible refine LeO.ite ?_ ?_)
      | (with_reducible refine LeO.bind ?_ (fun _ => ?_))
      | exact ih0 _ _ _ _
      | exact ih1 _ _ _ _ _
      | exact ih2 _ _ _ _ _
      | exact ih3 _ _ _ _ _
      | exact ih4 _ _ _ _ _
      | exact LeO.none _
      | refine LeO.ite ?_ ?_
      | refine LeO.bind ?_ (fun _ => ?_)
theorem corporaref11_Relation.mono : ∀ a0 a1 a2 a3 k, LeO (corporaref11_Relation.f k a0 a1 a2 a3) (corporaref11_Relation.f (k + 1) a0 a1 a2 a3) := by
  intro a0 a1 a2 a3 k
  obtain ⟨ih0, ih1, ih2, ih3, ih4⟩ := corporaref11_Relation.mono_l k
  exact ih0 a0 a1 a2 a3
set_option maxHeartbeats 8000000 in
set_option maxRecDepth 100000 in
theorem corporaref11_Relation.calls (k : Nat) : ∀ (a0_0 : Int) (a0_1 : Int) (a1_0 : Int) (a1_1 : Int) (r : Int) (w : World) (h : corporaref11_Relation.f k a0_0 a0_1 a1_0 a1_1 = some r),
    Calls Try.prog 12 #[.agg #[.int .i64 a0_0, .int .i64 a0_1], .agg #[.int .i64 a1_0, .int .i64 a1_1]] w fun e w' => e = .returned (.int .i64 r) ∧ Below w.heap.size w w' := by
  induction k using Nat.strongRecOn with
  | _ k ih =>
  intro a0_0 a0_1 a1_0 a1_1 r w h
  cases k with
  | zero => exact absurd h (by simp [corporaref11_Relation.f])
  | succ k =>
  simp only [corporaref11_Relation.f] at h
  have hu23 := Try.underlying23
  have HB := Aside0.mk (Below.refl w.heap.size w)
  have H : ((corporaref11_Valid.f a0_0 a0_1).bind fun t110 => (if t110 = true then ((corporaref11_Valid.f a1_0 a1_1).bind fun t111 => (corporaref11_Relation.j0 k (!t111) a0_0 a0_1 a1_0 a1_1)) else (corporaref11_Relation.j0 k true a0_0 a0_1 a1_0 a1_1))) = some r := h
  clear h
  have HC3 := Aside0.mk H
  clear H
  go_enter Try.func12, Try.ntmps12
  go_upto_region 1 with (first | ((with_reducible refine gate_dst (N := 2) rfl ?_); refine box_event ?hg (N := 2) ?hd (cs := #[.int .i64 a0_0, .int .i64 a0_1]) (t := 23) ?hr ?_; (case hd => rfl); (case hg => rfl); (case hr => first | (go_simp; done) | (go_simp; rfl)); intro gb108 hg w4 hbox hb; have n0_ := Aside0.mk (below_step (by repeat (first | (with_reducible first | exact HB.out | apply below_alloc | apply pw_below_drewN | apply below_drew1) | exact HB.out)) hb); have n1_ := Aside0.mk (hbox); have n2_ := Aside0.mk ((by rw [hg]; exact (below_size (by repeat (first | (with_reducible first | exact HB.out | apply below_alloc | apply pw_below_drewN | apply below_drew1) | exact HB.out))) : w.heap.size ≤ gb108)); have n3_ := Aside0.mk ((by rw [hg]; exact (below_size (by repeat (first | (with_reducible first | exact HB.out | apply below_alloc | apply pw_below_drewN | apply below_drew1) | exact HB.out))) : w.heap.size ≤ gb108)); clear HB; have HB := n0_; have BK108 := n1_; have GW108 := n2_; have GE108 := n3_; clear n0_ n1_ n2_ n3_; clear hb hbox hg) | ((with_reducible refine gate_dst (N := 3) rfl ?_); refine box_event ?hg (N := 3) ?hd (cs := #[.int .i64 a1_0, .int .i64 a1_1]) (t := 23) ?hr ?_; (case hd => rfl); (case hg => rfl); (case hr => first | (go_simp; done) | (go_simp; rfl)); intro gb109 hg w5 hbox hb; have n0_ := Aside0.mk (blk_below (g := gb108) (o := .cells #[.int .i64 a0_0, .int .i64 a0_1] 23 (0, 0)) (by (with_reducible repeat (first | refine blk_drewN ?_ _ | refine blk_drew ?_ | refine blk_alloc ?_ _)); exact BK108.out) hb); have n1_ := Aside0.mk (below_step (by repeat (first | (with_reducible first | exact HB.out | apply below_alloc | apply pw_below_drewN | apply below_drew1 | refine below_set ?_ GE108.out) | exact HB.out)) hb); have n2_ := Aside0.mk (hbox); have n3_ := Aside0.mk ((by rw [hg]; exact (below_size (by repeat (first | (with_reducible first | exact HB.out | apply below_alloc | apply pw_below_drewN | apply below_drew1 | refine below_set ?_ GE108.out) | exact HB.out))) : w.heap.size ≤ gb109)); have n4_ := Aside0.mk ((by rw [hg]; exact (below_size (by repeat (first | (with_reducible first | exact HB.out | apply below_alloc | apply pw_below_drewN | apply below_drew1 | refine below_set ?_ GE108.out) | exact HB.out))) : w.heap.size ≤ gb109)); have n5_ := Aside0.mk ((by rw [hg]; exact Nat.ne_of_lt (blk_lt (g := gb108) (o := .cells #[.int .i64 a0_0, .int .i64 a0_1] 23 (0, 0)) (by (with_reducible repeat (first | refine blk_drewN ?_ _ | refine blk_drew ?_ | refine blk_alloc ?_ _)); exact BK108.out)) : gb108 ≠ gb109)); have n6_ := Aside0.mk ((by rw [hg]; exact Nat.ne_of_gt (blk_lt (g := gb108) (o := .cells #[.int .i64 a0_0, .int .i64 a0_1] 23 (0, 0)) (by (with_reducible repeat (first | refine blk_drewN ?_ _ | refine blk_drew ?_ | refine blk_alloc ?_ _)); exact BK108.out)) : gb109 ≠ gb108)); clear BK108; clear HB; have BK108 := n0_; have HB := n1_; have BK109 := n2_; have GW109 := n3_; have GE109 := n4_; have NB108_109 := n5_; have NB109_108 := n6_; clear n0_ n1_ n2_ n3_ n4_ n5_ n6_; clear hb hbox hg))
  (try simp only [Act.put, List.setIfInBounds_toArray, List.set_cons_zero, List.set_cons_succ])
  go_cut [5] (fun v5 wc => ∃ (kq : Nat) (x5_2 : Bool), v5 = .bool x5_2 ∧ Aside0 (corporaref11_Relation.j0 kq x5_2 a0_0 a0_1 a1_0 a1_1 = some r) ∧ Aside0 (kq ≤ k) ∧ Aside0 (wc.heap[gb108]? = some (.cells #[.int .i64 a0_0, .int .i64 a0_1] 23 (0, 0))) ∧ Aside0 (wc.heap[gb109]? = some (.cells #[.int .i64 a1_0, .int .i64 a1_1] 23 (0, 0))) ∧ Aside0 (Below w.heap.size w wc))
  case first =>
    have H := HC3.out
    clear HC3
    replace H := Option.bind_eq_some_iff.mp H
    obtain ⟨t110, A60, H⟩ := H
    replace H : (if t110 = true then ((corporaref11_Valid.f a1_0 a1_1).bind fun t111 => (corporaref11_Relation.j0 k (!t111) a0_0 a0_1 a1_0 a1_1)) else (corporaref11_Relation.j0 k true a0_0 a0_1 a1_0 a1_1)) = some r := H
    have A6 := Aside0.mk A60
    clear A60
    by_cases c7 : t110 = true
    · subst c7
      have H1 : ((corporaref11_Valid.f a1_0 a1_1).bind fun t111 => (corporaref11_Relation.j0 k (!t111) a0_0 a0_1 a1_0 a1_1)) = some r := by rw [if_pos rfl] at H; exact H
      clear H
      have H := H1
      clear H1
      replace H := Option.bind_eq_some_iff.mp H
      obtain ⟨t111, A80, H⟩ := H
      replace H : (corporaref11_Relation.j0 k (!t111) a0_0 a0_1 a1_0 a1_1) = some r := H
      have A8 := Aside0.mk A80
      clear A80
      have H' := Aside0.mk H
      clear H
      have hnb9 := NB108_109.out
      have hnc9 := NB109_108.out
      have hcz10_0 : w5.cell? ⟨gb108, 0, none⟩ = some (.int .i64 a0_0) := (blk_cell BK108.out 0).trans rfl
      have hcz10_1 : w5.cell? ⟨gb108, 1, none⟩ = some (.int .i64 a0_1) := (blk_cell BK108.out 1).trans rfl
      have hfz10_0 := blk_frozen BK108.out 0
      have hfz10_1 := blk_frozen BK108.out 1
      go_wp2_with (first | ((with_reducible refine gate_callee (f := 20) rfl ?_); refine goesL_ (some 7) rfl rfl Try.func20 (by kernel_rfl) rfl #[.agg #[.int .i64 a0_0, .int .i64 a0_1]] rfl (by (try simp only [List.map_toArray, List.map_cons, List.map_nil]); first | done | rfl | (simp only [List.length_drop, List.length_take]; rfl)) ?_; (with_reducible refine (corporaref11_Valid.calls a0_0 a0_1 true _ A6.out).mono ?_); rintro e w11 ⟨rfl, hb⟩; refine ⟨_, rfl, ?_⟩; have n0_ := Aside0.mk (blk_below (g := gb108) (o := .cells #[.int .i64 a0_0, .int .i64 a0_1] 23 (0, 0)) (by (with_reducible repeat (first | refine blk_drewN ?_ _ | refine blk_drew ?_ | refine blk_alloc ?_ _)); exact BK108.out) hb); have n1_ := Aside0.mk (blk_below (g := gb109) (o := .cells #[.int .i64 a1_0, .int .i64 a1_1] 23 (0, 0)) (by (with_reducible repeat (first | refine blk_drewN ?_ _ | refine blk_drew ?_ | refine blk_alloc ?_ _)); exact BK109.out) hb); have n2_ := Aside0.mk (below_step (by repeat (first | (with_reducible first | exact HB.out | apply below_alloc | apply pw_below_drewN | apply below_drew1 | refine below_set ?_ GE108.out | refine below_set ?_ GE109.out) | exact HB.out)) hb); clear BK108; clear BK109; clear HB; have BK108 := n0_; have BK109 := n1_; have HB := n2_; clear n0_ n1_ n2_; (try clear hb); (try clear hb2); (try clear hk); (try clear hi); have hcz12_0 : w11.cell? ⟨gb109, 0, none⟩ = some (.int .i64 a1_0) := (blk_cell BK109.out 0).trans rfl; have hcz12_1 : w11.cell? ⟨gb109, 1, none⟩ = some (.int .i64 a1_1) := (blk_cell BK109.out 1).trans rfl; have hfz12_0 := blk_frozen BK109.out 0; have hfz12_1 := blk_frozen BK109.out 1) | (go_at_call 20; (with_reducible refine (corporaref11_Valid.calls a1_0 a1_1 t111 _ A8.out).mono ?_); rintro e w13 ⟨rfl, hb⟩; have n0_ := Aside0.mk (blk_below (g := gb108) (o := .cells #[.int .i64 a0_0, .int .i64 a0_1] 23 (0, 0)) (by (with_reducible repeat (first | refine blk_drewN ?_ _ | refine blk_drew ?_ | refine blk_alloc ?_ _)); exact BK108.out) hb); have n1_ := Aside0.mk (blk_below (g := gb109) (o := .cells #[.int .i64 a1_0, .int .i64 a1_1] 23 (0, 0)) (by (with_reducible repeat (first | refine blk_drewN ?_ _ | refine blk_drew ?_ | refine blk_alloc ?_ _)); exact BK109.out) hb); have n2_ := Aside0.mk (below_step (by repeat (first | (with_reducible first | exact HB.out | apply below_alloc | apply pw_below_drewN | apply below_drew1 | refine below_set ?_ GE108.out | refine below_set ?_ GE109.out) | exact HB.out)) hb); clear BK108; clear BK109; clear HB; have BK108 := n0_; have BK109 := n1_; have HB := n2_; clear n0_ n1_ n2_; (try clear hb); (try clear hb2); (try clear hk); (try clear hi)))
      go_meet
      case rel => exact ⟨_, (!t111), (by first | rfl | (simp; done) | (simp [*]; done)), H', ⟨by first | omega | exact Nat.le_refl _⟩, ⟨by (with_reducible repeat (first | refine blk_drewN ?_ _ | refine blk_drew ?_ | refine blk_alloc ?_ _)); exact BK108.out⟩, ⟨by (with_reducible repeat (first | refine blk_drewN ?_ _ | refine blk_drew ?_ | refine blk_alloc ?_ _)); exact BK109.out⟩, ⟨by repeat (first | (with_reducible first | exact HB.out | apply below_alloc | apply pw_below_drewN | apply below_drew1 | refine below_set ?_ GE108.out | refine below_set ?_ GE109.out) | exact HB.out)⟩⟩
    · replace c7 := Bool.eq_false_iff.mpr c7
      subst c7
      have H1 : (corporaref11_Relation.j0 k true a0_0 a0_1 a1_0 a1_1) = some r := by rw [if_neg (show ¬ (false = true) by decide)] at H; exact H
      clear H
      have H := H1
      clear H1
      have H' := Aside0.mk H
      clear H
      have hnb14 := NB108_109.out
      have hnc14 := NB109_108.out
      have hcz15_0 : w5.cell? ⟨gb108, 0, none⟩ = some (.int .i64 a0_0) := (blk_cell BK108.out 0).trans rfl
      have hcz15_1 : w5.cell? ⟨gb108, 1, none⟩ = some (.int .i64 a0_1) := (blk_cell BK108.out 1).trans rfl
      have hfz15_0 := blk_frozen BK108.out 0
      have hfz15_1 := blk_frozen BK108.out 1
      go_wp2_with (first | ((with_reducible refine gate_callee (f := 20) rfl ?_); refine goesL_ (some 7) rfl rfl Try.func20 (by kernel_rfl) rfl #[.agg #[.int .i64 a0_0, .int .i64 a0_1]] rfl (by (try simp only [List.map_toArray, List.map_cons, List.map_nil]); first | done | rfl | (simp only [List.length_drop, List.length_take]; rfl)) ?_; (with_reducible refine (corporaref11_Valid.calls a0_0 a0_1 false _ A6.out).mono ?_); rintro e w16 ⟨rfl, hb⟩; refine ⟨_, rfl, ?_⟩; have n0_ := Aside0.mk (blk_below (g := gb108) (o := .cells #[.int .i64 a0_0, .int .i64 a0_1] 23 (0, 0)) (by (with_reducible repeat (first | refine blk_drewN ?_ _ | refine blk_drew ?_ | refine blk_alloc ?_ _)); exact BK108.out) hb); have n1_ := Aside0.mk (blk_below (g := gb109) (o := .cells #[.int .i64 a1_0, .int .i64 a1_1] 23 (0, 0)) (by (with_reducible repeat (first | refine blk_drewN ?_ _ | refine blk_drew ?_ | refine blk_alloc ?_ _)); exact BK109.out) hb); have n2_ := Aside0.mk (below_step (by repeat (first | (with_reducible first | exact HB.out | apply below_alloc | apply pw_below_drewN | apply below_drew1 | refine below_set ?_ GE108.out | refine below_set ?_ GE109.out) | exact HB.out)) hb); clear BK108; clear BK109; clear HB; have BK108 := n0_; have BK109 := n1_; have HB := n2_; clear n0_ n1_ n2_; (try clear hb); (try clear hb2); (try clear hk); (try clear hi)))
      go_meet
      case rel => exact ⟨_, (true), (by first | rfl | (simp; done) | (simp [*]; done)), H', ⟨by first | omega | exact Nat.le_refl _⟩, ⟨by (with_reducible repeat (first | refine blk_drewN ?_ _ | refine blk_drew ?_ | refine blk_alloc ?_ _)); exact BK108.out⟩, ⟨by (with_reducible repeat (first | refine blk_drewN ?_ _ | refine blk_drew ?_ | refine blk_alloc ?_ _)); exact BK109.out⟩, ⟨by repeat (first | (with_reducible first | exact HB.out | apply below_alloc | apply pw_below_drewN | apply below_drew1 | refine below_set ?_ GE108.out | refine below_set ?_ GE109.out) | exact HB.out)⟩⟩
  case rest =>
    clear HC3
    try clear c1
    try clear c2
    try clear p2
    try clear c7
    try clear c9
    try clear c12
    try clear c14
    try clear hcz10_0
    try clear hcz10_1
    try clear hcz12_0
    try clear hcz12_1
    try clear hcz15_0
    try clear hcz15_1
    try clear hfz10_0
    try clear hfz10_1
    try clear hfz12_0
    try clear hfz12_1
    try clear hfz15_0
    try clear hfz15_1
    obtain ⟨kq, x5_2, rfl, HA, HJ2, BK108, BK109, HB⟩ := hcut
    cases kq with
    | zero => exact absurd HA.out (by simp [corporaref11_Relation.j0])
    | succ kj2 =>
      have H := HA.out
      clear HA
      simp only [corporaref11_Relation.j0] at H
      by_cases c17 : x5_2 = true
      · subst c17
        have H1 : (some 0) = some r := by rw [if_pos rfl] at H; exact H
        clear H
        have H := H1
        clear H1
        obtain rfl := Option.some.inj H
        go_wp2
        go_ret
        exact ⟨by first | rfl | (simp [errW_none, errW_some] <;> rfl) | (simp [*, errW_none, errW_some] <;> rfl), by repeat (first | (with_reducible first | exact HB.out | apply below_alloc | apply pw_below_drewN | apply below_drew1 | refine below_set ?_ GE108.out | refine below_set ?_ GE109.out) | exact HB.out)⟩
      · replace c17 := Bool.eq_false_iff.mpr c17
        subst c17
        have H1 : (if (a0_0 == a1_0 && (a0_1 == a1_1)) = true then (some 7) else (if a0_1 < a1_0 then (some 1) else (if a0_1 = a1_0 then (some 2) else (if a0_0 = a1_0 then (corporaref11_Relation.j1 kj2 (decide (a0_1 < a1_1)) a0_0 a0_1 a1_0 a1_1) else (corporaref11_Relation.j1 kj2 false a0_0 a0_1 a1_0 a1_1))))) = some r := by rw [if_neg (show ¬ (false = true) by decide)] at H; exact H
        clear H
        have H := H1
        clear H1
        by_cases c18 : (a0_0 == a1_0 && (a0_1 == a1_1)) = true
        · rw [if_pos c18] at H
          have c18b0 : (a0_0 == a1_0 && (a0_1 == a1_1)) = true := c18
          (try (have c18b1 : decide (a0_0 = a1_0 && (a0_1 == a1_1)) = true := by simpa using c18))
          (try (have c18b2 : (a0_0 == a1_0 && (a0_1 == a1_1)) = true := by simpa using c18))
          clear c18
          obtain rfl := Option.some.inj H
          have hnb19 := NB108_109.out
          have hnc19 := NB109_108.out
          have hcz20_0 : wc.cell? ⟨gb108, 0, none⟩ = some (.int .i64 a0_0) := (blk_cell BK108.out 0).trans rfl
          have hcz20_1 : wc.cell? ⟨gb108, 1, none⟩ = some (.int .i64 a0_1) := (blk_cell BK108.out 1).trans rfl
          have hfz20_0 := blk_frozen BK108.out 0
          have hfz20_1 := blk_frozen BK108.out 1
          have hcz21_0 : wc.cell? ⟨gb109, 0, none⟩ = some (.int .i64 a1_0) := (blk_cell BK109.out 0).trans rfl
          have hcz21_1 : wc.cell? ⟨gb109, 1, none⟩ = some (.int .i64 a1_1) := (blk_cell BK109.out 1).trans rfl
          have hfz21_0 := blk_frozen BK109.out 0
          have hfz21_1 := blk_frozen BK109.out 1
          go_wp2
          go_ret
          exact ⟨by first | rfl | (simp [errW_none, errW_some] <;> rfl) | (simp [*, errW_none, errW_some] <;> rfl), by repeat (first | (with_reducible first | exact HB.out | apply below_alloc | apply pw_below_drewN | apply below_drew1 | refine below_set ?_ GE108.out | refine below_set ?_ GE109.out) | exact HB.out)⟩
        · rw [if_neg c18] at H
          have c18b0 : (a0_0 == a1_0 && (a0_1 == a1_1)) = false := by simpa using c18
          (try (have c18b1 : decide (a0_0 = a1_0 && (a0_1 == a1_1)) = false := by simpa using c18))
          (try (have c18b2 : (a0_0 == a1_0 && (a0_1 == a1_1)) = false := by simpa using c18))
          (try (have c18b3 : ¬ (a0_0 = a1_0 && (a0_1 == a1_1)) := by simpa using c18))
          clear c18
          by_cases c22 : a0_1 < a1_0
          · rw [if_pos c22] at H
            have c22b0 : decide (a0_1 < a1_0) = true := decide_eq_true c22
            clear c22
            obtain rfl := Option.some.inj H
            have hnb23 := NB108_109.out
            have hnc23 := NB109_108.out
            have hcz24_0 : wc.cell? ⟨gb108, 0, none⟩ = some (.int .i64 a0_0) := (blk_cell BK108.out 0).trans rfl
            have hcz24_1 : wc.cell? ⟨gb108, 1, none⟩ = some (.int .i64 a0_1) := (blk_cell BK108.out 1).trans rfl
            have hfz24_0 := blk_frozen BK108.out 0
            have hfz24_1 := blk_frozen BK108.out 1
            have hcz25_0 : wc.cell? ⟨gb109, 0, none⟩ = some (.int .i64 a1_0) := (blk_cell BK109.out 0).trans rfl
            have hcz25_1 : wc.cell? ⟨gb109, 1, none⟩ = some (.int .i64 a1_1) := (blk_cell BK109.out 1).trans rfl
            have hfz25_0 := blk_frozen BK109.out 0
            have hfz25_1 := blk_frozen BK109.out 1
            go_wp2
            go_ret
            exact ⟨by first | rfl | (simp [errW_none, errW_some] <;> rfl) | (simp [*, errW_none, errW_some] <;> rfl), by repeat (first | (with_reducible first | exact HB.out | apply below_alloc | apply pw_below_drewN | apply below_drew1 | refine below_set ?_ GE108.out | refine below_set ?_ GE109.out) | exact HB.out)⟩
          · rw [if_neg c22] at H
            have c22b0 : decide (a0_1 < a1_0) = false := decide_eq_false c22
            clear c22
            by_cases c26 : a0_1 = a1_0
            · rw [if_pos c26] at H
              have c26b0 : (a0_1 == a1_0) = true := beq_iff_eq.mpr c26
              have c26b1 : (a0_1 != a1_0) = false := bne_eq_false_iff_eq.mpr c26
              clear c26
              obtain rfl := Option.some.inj H
              have hnb27 := NB108_109.out
              have hnc27 := NB109_108.out
              have hcz28_0 : wc.cell? ⟨gb108, 0, none⟩ = some (.int .i64 a0_0) := (blk_cell BK108.out 0).trans rfl
              have hcz28_1 : wc.cell? ⟨gb108, 1, none⟩ = some (.int .i64 a0_1) := (blk_cell BK108.out 1).trans rfl
              have hfz28_0 := blk_frozen BK108.out 0
              have hfz28_1 := blk_frozen BK108.out 1
              have hcz29_0 : wc.cell? ⟨gb109, 0, none⟩ = some (.int .i64 a1_0) := (blk_cell BK109.out 0).trans rfl
              have hcz29_1 : wc.cell? ⟨gb109, 1, none⟩ = some (.int .i64 a1_1) := (blk_cell BK109.out 1).trans rfl
              have hfz29_0 := blk_frozen BK109.out 0
              have hfz29_1 := blk_frozen BK109.out 1
              go_wp2
              go_ret
              exact ⟨by first | rfl | (simp [errW_none, errW_some] <;> rfl) | (simp [*, errW_none, errW_some] <;> rfl), by repeat (first | (with_reducible first | exact HB.out | apply below_alloc | apply pw_below_drewN | apply below_drew1 | refine below_set ?_ GE108.out | refine below_set ?_ GE109.out) | exact HB.out)⟩
            · rw [if_neg c26] at H
              have c26b0 : (a0_1 == a1_0) = false := beq_eq_false_iff_ne.mpr c26
              have c26b1 : (a0_1 != a1_0) = true := bne_iff_ne.mpr c26
              have HC30 := Aside0.mk H
              clear H
              have hnb31 := NB108_109.out
              have hnc31 := NB109_108.out
              have hcz32_0 : wc.cell? ⟨gb108, 0, none⟩ = some (.int .i64 a0_0) := (blk_cell BK108.out 0).trans rfl
              have hcz32_1 : wc.cell? ⟨gb108, 1, none⟩ = some (.int .i64 a0_1) := (blk_cell BK108.out 1).trans rfl
              have hfz32_0 := blk_frozen BK108.out 0
              have hfz32_1 := blk_frozen BK108.out 1
              have hcz33_0 : wc.cell? ⟨gb109, 0, none⟩ = some (.int .i64 a1_0) := (blk_cell BK109.out 0).trans rfl
              have hcz33_1 : wc.cell? ⟨gb109, 1, none⟩ = some (.int .i64 a1_1) := (blk_cell BK109.out 1).trans rfl
              have hfz33_0 := blk_frozen BK109.out 0
              have hfz33_1 := blk_frozen BK109.out 1
              go_upto_region 9 with (fail)
              go_cut [30] (fun v30 wc => ∃ (kq : Nat) (x30_29 : Bool), v30 = .bool x30_29 ∧ Aside0 (corporaref11_Relation.j1 kq x30_29 a0_0 a0_1 a1_0 a1_1 = some r) ∧ Aside0 (kq ≤ kj2) ∧ Aside0 (wc.heap[gb108]? = some (.cells #[.int .i64 a0_0, .int .i64 a0_1] 23 (0, 0))) ∧ Aside0 (wc.heap[gb109]? = some (.cells #[.int .i64 a1_0, .int .i64 a1_1] 23 (0, 0))) ∧ Aside0 (Below w.heap.size w wc))
              case first =>
                have H := HC30.out
                clear HC30
                by_cases c34 : a0_0 = a1_0
                · rw [if_pos c34] at H
                  have c34b0 : (a0_0 == a1_0) = true := beq_iff_eq.mpr c34
                  have c34b1 : (a0_0 != a1_0) = false := bne_eq_false_iff_eq.mpr c34
                  clear c34
                  (first | rw [c34b0] | (simp only [i64_w, i32_w]; rw [c34b0]) | skip)
                  have H' := Aside0.mk H
                  clear H
                  have hnb35 := NB108_109.out
                  have hnc35 := NB109_108.out
                  have hcz36_0 : wc.cell? ⟨gb108, 0, none⟩ = some (.int .i64 a0_0) := (blk_cell BK108.out 0).trans rfl
                  have hcz36_1 : wc.cell? ⟨gb108, 1, none⟩ = some (.int .i64 a0_1) := (blk_cell BK108.out 1).trans rfl
                  have hfz36_0 := blk_frozen BK108.out 0
                  have hfz36_1 := blk_frozen BK108.out 1
                  have hcz37_0 : wc.cell? ⟨gb109, 0, none⟩ = some (.int .i64 a1_0) := (blk_cell BK109.out 0).trans rfl
                  have hcz37_1 : wc.cell? ⟨gb109, 1, none⟩ = some (.int .i64 a1_1) := (blk_cell BK109.out 1).trans rfl
                  have hfz37_0 := blk_frozen BK109.out 0
                  have hfz37_1 := blk_frozen BK109.out 1
                  go_wp2
                  go_meet
                  case rel => exact ⟨_, (decide (a0_1 < a1_1)), (by first | rfl | (simp; done) | (simp [*]; done)), H', ⟨by have := HJ2.out; first | omega | exact Nat.le_refl _⟩, ⟨by (with_reducible repeat (first | refine blk_drewN ?_ _ | refine blk_drew ?_ | refine blk_alloc ?_ _)); exact BK108.out⟩, ⟨by (with_reducible repeat (first | refine blk_drewN ?_ _ | refine blk_drew ?_ | refine blk_alloc ?_ _)); exact BK109.out⟩, ⟨by repeat (first | (with_reducible first | exact HB.out | apply below_alloc | apply pw_below_drewN | apply below_drew1 | refine below_set ?_ GE108.out | refine below_set ?_ GE109.out) | exact HB.out)⟩⟩
                · rw [if_neg c34] at H
                  have c34b0 : (a0_0 == a1_0) = false := beq_eq_false_iff_ne.mpr c34
                  have c34b1 : (a0_0 != a1_0) = true := bne_iff_ne.mpr c34
                  (first | rw [c34b0] | (simp only [i64_w, i32_w]; rw [c34b0]) | skip)
                  have H' := Aside0.mk H
                  clear H
                  have hnb38 := NB108_109.out
                  have hnc38 := NB109_108.out
                  have hcz39_0 : wc.cell? ⟨gb108, 0, none⟩ = some (.int .i64 a0_0) := (blk_cell BK108.out 0).trans rfl
                  have hcz39_1 : wc.cell? ⟨gb108, 1, none⟩ = some (.int .i64 a0_1) := (blk_cell BK108.out 1).trans rfl
                  have hfz39_0 := blk_frozen BK108.out 0
                  have hfz39_1 := blk_frozen BK108.out 1
                  have hcz40_0 : wc.cell? ⟨gb109, 0, none⟩ = some (.int .i64 a1_0) := (blk_cell BK109.out 0).trans rfl
                  have hcz40_1 : wc.cell? ⟨gb109, 1, none⟩ = some (.int .i64 a1_1) := (blk_cell BK109.out 1).trans rfl
                  have hfz40_0 := blk_frozen BK109.out 0
                  have hfz40_1 := blk_frozen BK109.out 1
                  go_wp2
                  go_meet
                  case rel => exact ⟨_, (false), (by first | rfl | (simp; done) | (simp [*]; done)), H', ⟨by have := HJ2.out; first | omega | exact Nat.le_refl _⟩, ⟨by (with_reducible repeat (first | refine blk_drewN ?_ _ | refine blk_drew ?_ | refine blk_alloc ?_ _)); exact BK108.out⟩, ⟨by (with_reducible repeat (first | refine blk_drewN ?_ _ | refine blk_drew ?_ | refine blk_alloc ?_ _)); exact BK109.out⟩, ⟨by repeat (first | (with_reducible first | exact HB.out | apply below_alloc | apply pw_below_drewN | apply below_drew1 | refine below_set ?_ GE108.out | refine below_set ?_ GE109.out) | exact HB.out)⟩⟩
              case rest =>
                clear HC30
                try clear c1
                try clear c2
                try clear p2
                try clear c3
                try clear c7
                try clear c9
                try clear c12
                try clear c14
                try clear c17
                try clear c18
                try clear c18b0
                try clear c18b1
                try clear c18b2
                try clear c19
                try clear c20
                try clear c22
                try clear c22b0
                try clear c23
                try clear c26
                try clear c26b0
                try clear c26b1
                try clear c27
                try clear c31
                try clear c34
                try clear c34b0
                try clear c34b1
                try clear c35
                try clear c38
                try clear hcz10_0
                try clear hcz10_1
                try clear hcz12_0
                try clear hcz12_1
                try clear hcz15_0
                try clear hcz15_1
                try clear hcz20_0
                try clear hcz20_1
                try clear hcz21_0
                try clear hcz21_1
                try clear hcz24_0
                try clear hcz24_1
                try clear hcz25_0
                try clear hcz25_1
                try clear hcz28_0
                try clear hcz28_1
                try clear hcz29_0
                try clear hcz29_1
                try clear hcz32_0
                try clear hcz32_1
                try clear hcz33_0
                try clear hcz33_1
                try clear hcz36_0
                try clear hcz36_1
                try clear hcz37_0
                try clear hcz37_1
                try clear hcz39_0
                try clear hcz39_1
                try clear hcz40_0
                try clear hcz40_1
                try clear hfz10_0
                try clear hfz10_1
                try clear hfz12_0
                try clear hfz12_1
                try clear hfz15_0
                try clear hfz15_1
                try clear hfz20_0
                try clear hfz20_1
                try clear hfz21_0
                try clear hfz21_1
                try clear hfz24_0
                try clear hfz24_1
                try clear hfz25_0
                try clear hfz25_1
                try clear hfz28_0
                try clear hfz28_1
                try clear hfz29_0
                try clear hfz29_1
                try clear hfz32_0
                try clear hfz32_1
                try clear hfz33_0
                try clear hfz33_1
                try clear hfz36_0
                try clear hfz36_1
                try clear hfz37_0
                try clear hfz37_1
                try clear hfz39_0
                try clear hfz39_1
                try clear hfz40_0
                try clear hfz40_1
                try clear p2
                obtain ⟨kq, x30_29, rfl, HA, HJ29, BK108, BK109, HB⟩ := hcut
                cases kq with
                | zero => exact absurd HA.out (by simp [corporaref11_Relation.j1])
                | succ kj29 =>
                  have H := HA.out
                  clear HA
                  simp only [corporaref11_Relation.j1] at H
                  by_cases c41 : x30_29 = true
                  · subst c41
                    have H1 : (some 6) = some r := by rw [if_pos rfl] at H; exact H
                    clear H
                    have H := H1
                    clear H1
                    obtain rfl := Option.some.inj H
                    go_wp2
                    go_ret
                    exact ⟨by first | rfl | (simp [errW_none, errW_some] <;> rfl) | (simp [*, errW_none, errW_some] <;> rfl), by repeat (first | (with_reducible first | exact HB.out | apply below_alloc | apply pw_below_drewN | apply below_drew1 | refine below_set ?_ GE108.out | refine below_set ?_ GE109.out) | exact HB.out)⟩
                  · replace c41 := Bool.eq_false_iff.mpr c41
                    subst c41
                    have H1 : (if a0_0 < a1_0 then (corporaref11_Relation.j2 kj29 (a0_1 == a1_1) a0_0 a0_1 a1_0 a1_1) else (corporaref11_Relation.j2 kj29 false a0_0 a0_1 a1_0 a1_1)) = some r := by rw [if_neg (show ¬ (false = true) by decide)] at H; exact H
                    clear H
                    have H := H1
                    clear H1
                    have HC42 := Aside0.mk H
                    clear H
                    go_upto_region 11 with (fail)
                    go_cut [43] (fun v43 wc => ∃ (kq : Nat) (x43_41 : Bool), v43 = .bool x43_41 ∧ Aside0 (corporaref11_Relation.j2 kq x43_41 a0_0 a0_1 a1_0 a1_1 = some r) ∧ Aside0 (kq ≤ kj29) ∧ Aside0 (wc.heap[gb108]? = some (.cells #[.int .i64 a0_0, .int .i64 a0_1] 23 (0, 0))) ∧ Aside0 (wc.heap[gb109]? = some (.cells #[.int .i64 a1_0, .int .i64 a1_1] 23 (0, 0))) ∧ Aside0 (Below w.heap.size w wc))
                    case first =>
                      have H := HC42.out
                      clear HC42
                      by_cases c43 : a0_0 < a1_0
                      · rw [if_pos c43] at H
                        have c43b0 : decide (a0_0 < a1_0) = true := decide_eq_true c43
                        clear c43
                        (first | rw [c43b0] | (simp only [i64_w, i32_w]; rw [c43b0]) | skip)
                        have H' := Aside0.mk H
                        clear H
                        have hnb44 := NB108_109.out
                        have hnc44 := NB109_108.out
                        have hcz45_0 : wc.cell? ⟨gb108, 0, none⟩ = some (.int .i64 a0_0) := (blk_cell BK108.out 0).trans rfl
                        have hcz45_1 : wc.cell? ⟨gb108, 1, none⟩ = some (.int .i64 a0_1) := (blk_cell BK108.out 1).trans rfl
                        have hfz45_0 := blk_frozen BK108.out 0
                        have hfz45_1 := blk_frozen BK108.out 1
                        have hcz46_0 : wc.cell? ⟨gb109, 0, none⟩ = some (.int .i64 a1_0) := (blk_cell BK109.out 0).trans rfl
                        have hcz46_1 : wc.cell? ⟨gb109, 1, none⟩ = some (.int .i64 a1_1) := (blk_cell BK109.out 1).trans rfl
                        have hfz46_0 := blk_frozen BK109.out 0
                        have hfz46_1 := blk_frozen BK109.out 1
                        go_wp2
                        go_meet
                        case rel => exact ⟨_, ((a0_1 == a1_1)), (by first | rfl | (simp; done) | (simp [*]; done)), H', ⟨by have := HJ2.out; have := HJ29.out; first | omega | exact Nat.le_refl _⟩, ⟨by (with_reducible repeat (first | refine blk_drewN ?_ _ | refine blk_drew ?_ | refine blk_alloc ?_ _)); exact BK108.out⟩, ⟨by (with_reducible repeat (first | refine blk_drewN ?_ _ | refine blk_drew ?_ | refine blk_alloc ?_ _)); exact BK109.out⟩, ⟨by repeat (first | (with_reducible first | exact HB.out | apply below_alloc | apply pw_below_drewN | apply below_drew1 | refine below_set ?_ GE108.out | refine below_set ?_ GE109.out) | exact HB.out)⟩⟩
                      · rw [if_neg c43] at H
                        have c43b0 : decide (a0_0 < a1_0) = false := decide_eq_false c43
                        clear c43
                        (first | rw [c43b0] | (simp only [i64_w, i32_w]; rw [c43b0]) | skip)
                        have H' := Aside0.mk H
                        clear H
                        have hnb47 := NB108_109.out
                        have hnc47 := NB109_108.out
                        have hcz48_0 : wc.cell? ⟨gb108, 0, none⟩ = some (.int .i64 a0_0) := (blk_cell BK108.out 0).trans rfl
                        have hcz48_1 : wc.cell? ⟨gb108, 1, none⟩ = some (.int .i64 a0_1) := (blk_cell BK108.out 1).trans rfl
                        have hfz48_0 := blk_frozen BK108.out 0
                        have hfz48_1 := blk_frozen BK108.out 1
                        have hcz49_0 : wc.cell? ⟨gb109, 0, none⟩ = some (.int .i64 a1_0) := (blk_cell BK109.out 0).trans rfl
                        have hcz49_1 : wc.cell? ⟨gb109, 1, none⟩ = some (.int .i64 a1_1) := (blk_cell BK109.out 1).trans rfl
                        have hfz49_0 := blk_frozen BK109.out 0
                        have hfz49_1 := blk_frozen BK109.out 1
                        go_wp2
                        go_meet
                        case rel => exact ⟨_, (false), (by first | rfl | (simp; done) | (simp [*]; done)), H', ⟨by have := HJ2.out; have := HJ29.out; first | omega | exact Nat.le_refl _⟩, ⟨by (with_reducible repeat (first | refine blk_drewN ?_ _ | refine blk_drew ?_ | refine blk_alloc ?_ _)); exact BK108.out⟩, ⟨by (with_reducible repeat (first | refine blk_drewN ?_ _ | refine blk_drew ?_ | refine blk_alloc ?_ _)); exact BK109.out⟩, ⟨by repeat (first | (with_reducible first | exact HB.out | apply below_alloc | apply pw_below_drewN | apply below_drew1 | refine below_set ?_ GE108.out | refine below_set ?_ GE109.out) | exact HB.out)⟩⟩
                    case rest =>
                      clear HC42
                      try clear c1
                      try clear c2
                      try clear p2
                      try clear c3
                      try clear c4
                      try clear c7
                      try clear c9
                      try clear c12
                      try clear c14
                      try clear c17
                      try clear c18
                      try clear c18b0
                      try clear c18b1
                      try clear c18b2
                      try clear c19
                      try clear c20
                      try clear c22
                      try clear c22b0
                      try clear c23
                      try clear c26
                      try clear c26b0
                      try clear c26b1
                      try clear c27
                      try clear c31
                      try clear c34
                      try clear c34b0
                      try clear c34b1
                      try clear c35
                      try clear c38
                      try clear c41
                      try clear c43
                      try clear c43b0
                      try clear c44
                      try clear c47
                      try clear hcz10_0
                      try clear hcz10_1
                      try clear hcz12_0
                      try clear hcz12_1
                      try clear hcz15_0
                      try clear hcz15_1
                      try clear hcz20_0
                      try clear hcz20_1
                      try clear hcz21_0
                      try clear hcz21_1
                      try clear hcz24_0
                      try clear hcz24_1
                      try clear hcz25_0
                      try clear hcz25_1
                      try clear hcz28_0
                      try clear hcz28_1
                      try clear hcz29_0
                      try clear hcz29_1
                      try clear hcz32_0
                      try clear hcz32_1
                      try clear hcz33_0
                      try clear hcz33_1
                      try clear hcz36_0
                      try clear hcz36_1
                      try clear hcz37_0
                      try clear hcz37_1
                      try clear hcz39_0
                      try clear hcz39_1
                      try clear hcz40_0
                      try clear hcz40_1
                      try clear hcz45_0
                      try clear hcz45_1
                      try clear hcz46_0
                      try clear hcz46_1
                      try clear hcz48_0
                      try clear hcz48_1
                      try clear hcz49_0
                      try clear hcz49_1
                      try clear hfz10_0
                      try clear hfz10_1
                      try clear hfz12_0
                      try clear hfz12_1
                      try clear hfz15_0
                      try clear hfz15_1
                      try clear hfz20_0
                      try clear hfz20_1
                      try clear hfz21_0
                      try clear hfz21_1
                      try clear hfz24_0
                      try clear hfz24_1
                      try clear hfz25_0
                      try clear hfz25_1
                      try clear hfz28_0
                      try clear hfz28_1
                      try clear hfz29_0
                      try clear hfz29_1
                      try clear hfz32_0
                      try clear hfz32_1
                      try clear hfz33_0
                      try clear hfz33_1
                      try clear hfz36_0
                      try clear hfz36_1
                      try clear hfz37_0
                      try clear hfz37_1
                      try clear hfz39_0
                      try clear hfz39_1
                      try clear hfz40_0
                      try clear hfz40_1
                      try clear hfz45_0
                      try clear hfz45_1
                      try clear hfz46_0
                      try clear hfz46_1
                      try clear hfz48_0
                      try clear hfz48_1
                      try clear hfz49_0
                      try clear hfz49_1
                      try clear p2
                      obtain ⟨kq, x43_41, rfl, HA, HJ41, BK108, BK109, HB⟩ := hcut
                      cases kq with
                      | zero => exact absurd HA.out (by simp [corporaref11_Relation.j2])
                      | succ kj41 =>
                        have H := HA.out
                        clear HA
                        simp only [corporaref11_Relation.j2] at H
                        by_cases c50 : x43_41 = true
                        · subst c50
                          have H1 : (some 4) = some r := by rw [if_pos rfl] at H; exact H
                          clear H
                          have H := H1
                          clear H1
                          obtain rfl := Option.some.inj H
                          go_wp2
                          go_ret
                          exact ⟨by first | rfl | (simp [errW_none, errW_some] <;> rfl) | (simp [*, errW_none, errW_some] <;> rfl), by repeat (first | (with_reducible first | exact HB.out | apply below_alloc | apply pw_below_drewN | apply below_drew1 | refine below_set ?_ GE108.out | refine below_set ?_ GE109.out) | exact HB.out)⟩
                        · replace c50 := Bool.eq_false_iff.mpr c50
                          subst c50
                          have H1 : (if a0_0 < a1_0 then (corporaref11_Relation.j3 kj41 (decide (a1_1 < a0_1)) a0_0 a0_1 a1_0 a1_1) else (corporaref11_Relation.j3 kj41 false a0_0 a0_1 a1_0 a1_1)) = some r := by rw [if_neg (show ¬ (false = true) by decide)] at H; exact H
                          clear H
                          have H := H1
                          clear H1
                          have HC51 := Aside0.mk H
                          clear H
                          go_upto_region 13 with (fail)
                          go_cut [56] (fun v56 wc => ∃ (kq : Nat) (x56_50 : Bool), v56 = .bool x56_50 ∧ Aside0 (corporaref11_Relation.j3 kq x56_50 a0_0 a0_1 a1_0 a1_1 = some r) ∧ Aside0 (kq ≤ kj41) ∧ Aside0 (wc.heap[gb108]? = some (.cells #[.int .i64 a0_0, .int .i64 a0_1] 23 (0, 0))) ∧ Aside0 (wc.heap[gb109]? = some (.cells #[.int .i64 a1_0, .int .i64 a1_1] 23 (0, 0))) ∧ Aside0 (Below w.heap.size w wc))
                          case first =>
                            have H := HC51.out
                            clear HC51
                            by_cases c52 : a0_0 < a1_0
                            · rw [if_pos c52] at H
                              have c52b0 : decide (a0_0 < a1_0) = true := decide_eq_true c52
                              clear c52
                              (first | rw [c52b0] | (simp only [i64_w, i32_w]; rw [c52b0]) | skip)
                              have H' := Aside0.mk H
                              clear H
                              have hnb53 := NB108_109.out
                              have hnc53 := NB109_108.out
                              have hcz54_0 : wc.cell? ⟨gb108, 0, none⟩ = some (.int .i64 a0_0) := (blk_cell BK108.out 0).trans rfl
                              have hcz54_1 : wc.cell? ⟨gb108, 1, none⟩ = some (.int .i64 a0_1) := (blk_cell BK108.out 1).trans rfl
                              have hfz54_0 := blk_frozen BK108.out 0
                              have hfz54_1 := blk_frozen BK108.out 1
                              have hcz55_0 : wc.cell? ⟨gb109, 0, none⟩ = some (.int .i64 a1_0) := (blk_cell BK109.out 0).trans rfl
                              have hcz55_1 : wc.cell? ⟨gb109, 1, none⟩ = some (.int .i64 a1_1) := (blk_cell BK109.out 1).trans rfl
                              have hfz55_0 := blk_frozen BK109.out 0
                              have hfz55_1 := blk_frozen BK109.out 1
                              go_wp2
                              go_meet
                              case rel => exact ⟨_, (decide (a1_1 < a0_1)), (by first | rfl | (simp; done) | (simp [*]; done)), H', ⟨by have := HJ2.out; have := HJ29.out; have := HJ41.out; first | omega | exact Nat.le_refl _⟩, ⟨by (with_reducible repeat (first | refine blk_drewN ?_ _ | refine blk_drew ?_ | refine blk_alloc ?_ _)); exact BK108.out⟩, ⟨by (with_reducible repeat (first | refine blk_drewN ?_ _ | refine blk_drew ?_ | refine blk_alloc ?_ _)); exact BK109.out⟩, ⟨by repeat (first | (with_reducible first | exact HB.out | apply below_alloc | apply pw_below_drewN | apply below_drew1 | refine below_set ?_ GE108.out | refine below_set ?_ GE109.out) | exact HB.out)⟩⟩
                            · rw [if_neg c52] at H
                              have c52b0 : decide (a0_0 < a1_0) = false := decide_eq_false c52
                              clear c52
                              (first | rw [c52b0] | (simp only [i64_w, i32_w]; rw [c52b0]) | skip)
                              have H' := Aside0.mk H
                              clear H
                              have hnb56 := NB108_109.out
                              have hnc56 := NB109_108.out
                              have hcz57_0 : wc.cell? ⟨gb108, 0, none⟩ = some (.int .i64 a0_0) := (blk_cell BK108.out 0).trans rfl
                              have hcz57_1 : wc.cell? ⟨gb108, 1, none⟩ = some (.int .i64 a0_1) := (blk_cell BK108.out 1).trans rfl
                              have hfz57_0 := blk_frozen BK108.out 0
                              have hfz57_1 := blk_frozen BK108.out 1
                              have hcz58_0 : wc.cell? ⟨gb109, 0, none⟩ = some (.int .i64 a1_0) := (blk_cell BK109.out 0).trans rfl
                              have hcz58_1 : wc.cell? ⟨gb109, 1, none⟩ = some (.int .i64 a1_1) := (blk_cell BK109.out 1).trans rfl
                              have hfz58_0 := blk_frozen BK109.out 0
                              have hfz58_1 := blk_frozen BK109.out 1
                              go_wp2
                              go_meet
                              case rel => exact ⟨_, (false), (by first | rfl | (simp; done) | (simp [*]; done)), H', ⟨by have := HJ2.out; have := HJ29.out; have := HJ41.out; first | omega | exact Nat.le_refl _⟩, ⟨by (with_reducible repeat (first | refine blk_drewN ?_ _ | refine blk_drew ?_ | refine blk_alloc ?_ _)); exact BK108.out⟩, ⟨by (with_reducible repeat (first | refine blk_drewN ?_ _ | refine blk_drew ?_ | refine blk_alloc ?_ _)); exact BK109.out⟩, ⟨by repeat (first | (with_reducible first | exact HB.out | apply below_alloc | apply pw_below_drewN | apply below_drew1 | refine below_set ?_ GE108.out | refine below_set ?_ GE109.out) | exact HB.out)⟩⟩
                          case rest =>
                            clear HC51
                            try clear c1
                            try clear c2
                            try clear p2
                            try clear c3
                            try clear c4
                            try clear c5
                            try clear c7
                            try clear c9
                            try clear c12
                            try clear c14
                            try clear c17
                            try clear c18
                            try clear c18b0
                            try clear c18b1
                            try clear c18b2
                            try clear c19
                            try clear c20
                            try clear c22
                            try clear c22b0
                            try clear c23
                            try clear c26
                            try clear c26b0
                            try clear c26b1
                            try clear c27
                            try clear c31
                            try clear c34
                            try clear c34b0
                            try clear c34b1
                            try clear c35
                            try clear c38
                            try clear c41
                            try clear c43
                            try clear c43b0
                            try clear c44
                            try clear c47
                            try clear c50
                            try clear c52
                            try clear c52b0
                            try clear c53
                            try clear c56
                            try clear hcz10_0
                            try clear hcz10_1
                            try clear hcz12_0
                            try clear hcz12_1
                            try clear hcz15_0
                            try clear hcz15_1
                            try clear hcz20_0
                            try clear hcz20_1
                            try clear hcz21_0
                            try clear hcz21_1
                            try clear hcz24_0
                            try clear hcz24_1
                            try clear hcz25_0
                            try clear hcz25_1
                            try clear hcz28_0
                            try clear hcz28_1
                            try clear hcz29_0
                            try clear hcz29_1
                            try clear hcz32_0
                            try clear hcz32_1
                            try clear hcz33_0
                            try clear hcz33_1
                            try clear hcz36_0
                            try clear hcz36_1
                            try clear hcz37_0
                            try clear hcz37_1
                            try clear hcz39_0
                            try clear hcz39_1
                            try clear hcz40_0
                            try clear hcz40_1
                            try clear hcz45_0
                            try clear hcz45_1
                            try clear hcz46_0
                            try clear hcz46_1
                            try clear hcz48_0
                            try clear hcz48_1
                            try clear hcz49_0
                            try clear hcz49_1
                            try clear hcz54_0
                            try clear hcz54_1
                            try clear hcz55_0
                            try clear hcz55_1
                            try clear hcz57_0
                            try clear hcz57_1
                            try clear hcz58_0
                            try clear hcz58_1
                            try clear hfz10_0
                            try clear hfz10_1
                            try clear hfz12_0
                            try clear hfz12_1
                            try clear hfz15_0
                            try clear hfz15_1
                            try clear hfz20_0
                            try clear hfz20_1
                            try clear hfz21_0
                            try clear hfz21_1
                            try clear hfz24_0
                            try clear hfz24_1
                            try clear hfz25_0
                            try clear hfz25_1
                            try clear hfz28_0
                            try clear hfz28_1
                            try clear hfz29_0
                            try clear hfz29_1
                            try clear hfz32_0
                            try clear hfz32_1
                            try clear hfz33_0
                            try clear hfz33_1
                            try clear hfz36_0
                            try clear hfz36_1
                            try clear hfz37_0
                            try clear hfz37_1
                            try clear hfz39_0
                            try clear hfz39_1
                            try clear hfz40_0
                            try clear hfz40_1
                            try clear hfz45_0
                            try clear hfz45_1
                            try clear hfz46_0
                            try clear hfz46_1
                            try clear hfz48_0
                            try clear hfz48_1
                            try clear hfz49_0
                            try clear hfz49_1
                            try clear hfz54_0
                            try clear hfz54_1
                            try clear hfz55_0
                            try clear hfz55_1
                            try clear hfz57_0
                            try clear hfz57_1
                            try clear hfz58_0
                            try clear hfz58_1
                            try clear p2
                            obtain ⟨kq, x56_50, rfl, HA, HJ50, BK108, BK109, HB⟩ := hcut
                            cases kq with
                            | zero => exact absurd HA.out (by simp [corporaref11_Relation.j3])
                            | succ kj50 =>
                              have H := HA.out
                              clear HA
                              simp only [corporaref11_Relation.j3] at H
                              by_cases c59 : x56_50 = true
                              · subst c59
                                have H1 : (some 5) = some r := by rw [if_pos rfl] at H; exact H
                                clear H
                                have H := H1
                                clear H1
                                obtain rfl := Option.some.inj H
                                go_wp2
                                go_ret
                                exact ⟨by first | rfl | (simp [errW_none, errW_some] <;> rfl) | (simp [*, errW_none, errW_some] <;> rfl), by repeat (first | (with_reducible first | exact HB.out | apply below_alloc | apply pw_below_drewN | apply below_drew1 | refine below_set ?_ GE108.out | refine below_set ?_ GE109.out) | exact HB.out)⟩
                              · replace c59 := Bool.eq_false_iff.mpr c59
                                subst c59
                                have H1 : (if a0_0 < a1_0 then (if a1_0 < a0_1 then (if a0_1 < a1_1 then (some 3) else ((corporaref11_Relation.f kj50 a1_0 a1_1 a0_0 a0_1).bind fun t112 => (some (wrap64 (14 - t112))))) else ((corporaref11_Relation.f kj50 a1_0 a1_1 a0_0 a0_1).bind fun t113 => (some (wrap64 (14 - t113))))) else ((corporaref11_Relation.f kj50 a1_0 a1_1 a0_0 a0_1).bind fun t114 => (some (wrap64 (14 - t114))))) = some r := by rw [if_neg (show ¬ (false = true) by decide)] at H; exact H
                                clear H
                                have H := H1
                                clear H1
                                by_cases c60 : a0_0 < a1_0
                                · rw [if_pos c60] at H
                                  have c60b0 : decide (a0_0 < a1_0) = true := decide_eq_true c60
                                  clear c60
                                  by_cases c61 : a1_0 < a0_1
                                  · rw [if_pos c61] at H
                                    have c61b0 : decide (a1_0 < a0_1) = true := decide_eq_true c61
                                    clear c61
                                    by_cases c62 : a0_1 < a1_1
                                    · rw [if_pos c62] at H
                                      have c62b0 : decide (a0_1 < a1_1) = true := decide_eq_true c62
                                      clear c62
                                      obtain rfl := Option.some.inj H
                                      have hnb63 := NB108_109.out
                                      have hnc63 := NB109_108.out
                                      have hcz64_0 : wc.cell? ⟨gb108, 0, none⟩ = some (.int .i64 a0_0) := (blk_cell BK108.out 0).trans rfl
                                      have hcz64_1 : wc.cell? ⟨gb108, 1, none⟩ = some (.int .i64 a0_1) := (blk_cell BK108.out 1).trans rfl
                                      have hfz64_0 := blk_frozen BK108.out 0
                                      have hfz64_1 := blk_frozen BK108.out 1
                                      have hcz65_0 : wc.cell? ⟨gb109, 0, none⟩ = some (.int .i64 a1_0) := (blk_cell BK109.out 0).trans rfl
                                      have hcz65_1 : wc.cell? ⟨gb109, 1, none⟩ = some (.int .i64 a1_1) := (blk_cell BK109.out 1).trans rfl
                                      have hfz65_0 := blk_frozen BK109.out 0
                                      have hfz65_1 := blk_frozen BK109.out 1
                                      go_wp2
                                      go_ret
                                      exact ⟨by first | rfl | (simp [errW_none, errW_some] <;> rfl) | (simp [*, errW_none, errW_some] <;> rfl), by repeat (first | (with_reducible first | exact HB.out | apply below_alloc | apply pw_below_drewN | apply below_drew1 | refine below_set ?_ GE108.out | refine below_set ?_ GE109.out) | exact HB.out)⟩
                                    · rw [if_neg c62] at H
                                      have c62b0 : decide (a0_1 < a1_1) = false := decide_eq_false c62
                                      clear c62
                                      replace H := Option.bind_eq_some_iff.mp H
                                      obtain ⟨t112, A660, H⟩ := H
                                      replace H : (some (wrap64 (14 - t112))) = some r := H
                                      have A66 := Aside0.mk A660
                                      clear A660
                                      obtain rfl := Option.some.inj H
                                      have hnb67 := NB108_109.out
                                      have hnc67 := NB109_108.out
                                      have hcz68_0 : wc.cell? ⟨gb108, 0, none⟩ = some (.int .i64 a0_0) := (blk_cell BK108.out 0).trans rfl
                                      have hcz68_1 : wc.cell? ⟨gb108, 1, none⟩ = some (.int .i64 a0_1) := (blk_cell BK108.out 1).trans rfl
                                      have hfz68_0 := blk_frozen BK108.out 0
                                      have hfz68_1 := blk_frozen BK108.out 1
                                      have hcz69_0 : wc.cell? ⟨gb109, 0, none⟩ = some (.int .i64 a1_0) := (blk_cell BK109.out 0).trans rfl
                                      have hcz69_1 : wc.cell? ⟨gb109, 1, none⟩ = some (.int .i64 a1_1) := (blk_cell BK109.out 1).trans rfl
                                      have hfz69_0 := blk_frozen BK109.out 0
                                      have hfz69_1 := blk_frozen BK109.out 1
                                      go_wp2_with (first | ((with_reducible refine gate_callee (f := 12) rfl ?_); refine goesL_ (some 91) rfl rfl Try.func12 (by kernel_rfl) rfl #[.agg #[.int .i64 a1_0, .int .i64 a1_1], .agg #[.int .i64 a0_0, .int .i64 a0_1]] rfl (by (try simp only [List.map_toArray, List.map_cons, List.map_nil]); first | done | rfl | (simp only [List.length_drop, List.length_take]; rfl)) ?_; (with_reducible refine (ih kj50 (by have := HJ2.out; have := HJ29.out; have := HJ41.out; have := HJ50.out; omega) a1_0 a1_1 a0_0 a0_1 t112 _ A66.out).mono ?_); rintro e w70 ⟨rfl, hb⟩; refine ⟨_, rfl, ?_⟩; have n0_ := Aside0.mk (blk_below (g := gb108) (o := .cells #[.int .i64 a0_0, .int .i64 a0_1] 23 (0, 0)) (by (with_reducible repeat (first | refine blk_drewN ?_ _ | refine blk_drew ?_ | refine blk_alloc ?_ _)); exact BK108.out) hb); have n1_ := Aside0.mk (blk_below (g := gb109) (o := .cells #[.int .i64 a1_0, .int .i64 a1_1] 23 (0, 0)) (by (with_reducible repeat (first | refine blk_drewN ?_ _ | refine blk_drew ?_ | refine blk_alloc ?_ _)); exact BK109.out) hb); have n2_ := Aside0.mk (below_step (by repeat (first | (with_reducible first | exact HB.out | apply below_alloc | apply pw_below_drewN | apply below_drew1 | refine below_set ?_ GE108.out | refine below_set ?_ GE109.out) | exact HB.out)) hb); clear BK108; clear BK109; clear HB; have BK108 := n0_; have BK109 := n1_; have HB := n2_; clear n0_ n1_ n2_; (try clear hb); (try clear hb2); (try clear hk); (try clear hi)))
                                      go_ret
                                      exact ⟨by first | rfl | (simp [errW_none, errW_some] <;> rfl) | (simp [*, errW_none, errW_some] <;> rfl), by repeat (first | (with_reducible first | exact HB.out | apply below_alloc | apply pw_below_drewN | apply below_drew1 | refine below_set ?_ GE108.out | refine below_set ?_ GE109.out) | exact HB.out)⟩
                                  · rw [if_neg c61] at H
                                    have c61b0 : decide (a1_0 < a0_1) = false := decide_eq_false c61
                                    clear c61
                                    replace H := Option.bind_eq_some_iff.mp H
                                    obtain ⟨t113, A710, H⟩ := H
                                    replace H : (some (wrap64 (14 - t113))) = some r := H
                                    have A71 := Aside0.mk A710
                                    clear A710
                                    obtain rfl := Option.some.inj H
                                    have hnb72 := NB108_109.out
                                    have hnc72 := NB109_108.out
                                    have hcz73_0 : wc.cell? ⟨gb108, 0, none⟩ = some (.int .i64 a0_0) := (blk_cell BK108.out 0).trans rfl
                                    have hcz73_1 : wc.cell? ⟨gb108, 1, none⟩ = some (.int .i64 a0_1) := (blk_cell BK108.out 1).trans rfl
                                    have hfz73_0 := blk_frozen BK108.out 0
                                    have hfz73_1 := blk_frozen BK108.out 1
                                    have hcz74_0 : wc.cell? ⟨gb109, 0, none⟩ = some (.int .i64 a1_0) := (blk_cell BK109.out 0).trans rfl
                                    have hcz74_1 : wc.cell? ⟨gb109, 1, none⟩ = some (.int .i64 a1_1) := (blk_cell BK109.out 1).trans rfl
                                    have hfz74_0 := blk_frozen BK109.out 0
                                    have hfz74_1 := blk_frozen BK109.out 1
                                    go_wp2_with (first | ((with_reducible refine gate_callee (f := 12) rfl ?_); refine goesL_ (some 91) rfl rfl Try.func12 (by kernel_rfl) rfl #[.agg #[.int .i64 a1_0, .int .i64 a1_1], .agg #[.int .i64 a0_0, .int .i64 a0_1]] rfl (by (try simp only [List.map_toArray, List.map_cons, List.map_nil]); first | done | rfl | (simp only [List.length_drop, List.length_take]; rfl)) ?_; (with_reducible refine (ih kj50 (by have := HJ2.out; have := HJ29.out; have := HJ41.out; have := HJ50.out; omega) a1_0 a1_1 a0_0 a0_1 t113 _ A71.out).mono ?_); rintro e w75 ⟨rfl, hb⟩; refine ⟨_, rfl, ?_⟩; have n0_ := Aside0.mk (blk_below (g := gb108) (o := .cells #[.int .i64 a0_0, .int .i64 a0_1] 23 (0, 0)) (by (with_reducible repeat (first | refine blk_drewN ?_ _ | refine blk_drew ?_ | refine blk_alloc ?_ _)); exact BK108.out) hb); have n1_ := Aside0.mk (blk_below (g := gb109) (o := .cells #[.int .i64 a1_0, .int .i64 a1_1] 23 (0, 0)) (by (with_reducible repeat (first | refine blk_drewN ?_ _ | refine blk_drew ?_ | refine blk_alloc ?_ _)); exact BK109.out) hb); have n2_ := Aside0.mk (below_step (by repeat (first | (with_reducible first | exact HB.out | apply below_alloc | apply pw_below_drewN | apply below_drew1 | refine below_set ?_ GE108.out | refine below_set ?_ GE109.out) | exact HB.out)) hb); clear BK108; clear BK109; clear HB; have BK108 := n0_; have BK109 := n1_; have HB := n2_; clear n0_ n1_ n2_; (try clear hb); (try clear hb2); (try clear hk); (try clear hi)))
                                    go_ret
                                    exact ⟨by first | rfl | (simp [errW_none, errW_some] <;> rfl) | (simp [*, errW_none, errW_some] <;> rfl), by repeat (first | (with_reducible first | exact HB.out | apply below_alloc | apply pw_below_drewN | apply below_drew1 | refine below_set ?_ GE108.out | refine below_set ?_ GE109.out) | exact HB.out)⟩
                                · rw [if_neg c60] at H
                                  have c60b0 : decide (a0_0 < a1_0) = false := decide_eq_false c60
                                  clear c60
                                  replace H := Option.bind_eq_some_iff.mp H
                                  obtain ⟨t114, A760, H⟩ := H
                                  replace H : (some (wrap64 (14 - t114))) = some r := H
                                  have A76 := Aside0.mk A760
                                  clear A760
                                  obtain rfl := Option.some.inj H
                                  have hnb77 := NB108_109.out
                                  have hnc77 := NB109_108.out
                                  have hcz78_0 : wc.cell? ⟨gb108, 0, none⟩ = some (.int .i64 a0_0) := (blk_cell BK108.out 0).trans rfl
                                  have hcz78_1 : wc.cell? ⟨gb108, 1, none⟩ = some (.int .i64 a0_1) := (blk_cell BK108.out 1).trans rfl
                                  have hfz78_0 := blk_frozen BK108.out 0
                                  have hfz78_1 := blk_frozen BK108.out 1
                                  have hcz79_0 : wc.cell? ⟨gb109, 0, none⟩ = some (.int .i64 a1_0) := (blk_cell BK109.out 0).trans rfl
                                  have hcz79_1 : wc.cell? ⟨gb109, 1, none⟩ = some (.int .i64 a1_1) := (blk_cell BK109.out 1).trans rfl
                                  have hfz79_0 := blk_frozen BK109.out 0
                                  have hfz79_1 := blk_frozen BK109.out 1
                                  go_wp2_with (first | ((with_reducible refine gate_callee (f := 12) rfl ?_); refine goesL_ (some 91) rfl rfl Try.func12 (by kernel_rfl) rfl #[.agg #[.int .i64 a1_0, .int .i64 a1_1], .agg #[.int .i64 a0_0, .int .i64 a0_1]] rfl (by (try simp only [List.map_toArray, List.map_cons, List.map_nil]); first | done | rfl | (simp only [List.length_drop, List.length_take]; rfl)) ?_; (with_reducible refine (ih kj50 (by have := HJ2.out; have := HJ29.out; have := HJ41.out; have := HJ50.out; omega) a1_0 a1_1 a0_0 a0_1 t114 _ A76.out).mono ?_); rintro e w80 ⟨rfl, hb⟩; refine ⟨_, rfl, ?_⟩; have n0_ := Aside0.mk (blk_below (g := gb108) (o := .cells #[.int .i64 a0_0, .int .i64 a0_1] 23 (0, 0)) (by (with_reducible repeat (first | refine blk_drewN ?_ _ | refine blk_drew ?_ | refine blk_alloc ?_ _)); exact BK108.out) hb); have n1_ := Aside0.mk (blk_below (g := gb109) (o := .cells #[.int .i64 a1_0, .int .i64 a1_1] 23 (0, 0)) (by (with_reducible repeat (first | refine blk_drewN ?_ _ | refine blk_drew ?_ | refine blk_alloc ?_ _)); exact BK109.out) hb); have n2_ := Aside0.mk (below_step (by repeat (first | (with_reducible first | exact HB.out | apply below_alloc | apply pw_below_drewN | apply below_drew1 | refine below_set ?_ GE108.out | refine below_set ?_ GE109.out) | exact HB.out)) hb); clear BK108; clear BK109; clear HB; have BK108 := n0_; have BK109 := n1_; have HB := n2_; clear n0_ n1_ n2_; (try clear hb); (try clear hb2); (try clear hk); (try clear hi)))
                                  go_ret
                                  exact ⟨by first | rfl | (simp [errW_none, errW_some] <;> rfl) | (simp [*, errW_none, errW_some] <;> rfl), by repeat (first | (with_reducible first | exact HB.out | apply below_alloc | apply pw_below_drewN | apply below_drew1 | refine below_set ?_ GE108.out | refine below_set ?_ GE109.out) | exact HB.out)⟩

end Go.Proofs.Ytbecgpjdeophmaa.Q
