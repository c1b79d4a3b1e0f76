import Derived.Test.YtbecgpjdeophmaaQx0
import Derived.Test.YtbecgpjdeophmaaQx1
import Derived.Test.YtbecgpjdeophmaaQj
import Derived.Test.YtbecgpjdeophmaaQk
namespace Go.Proofs.Ytbecgpjdeophmaa.Q
open Go.RowKit Go.Proofs.YtbecgpjdeophmaaW.PrintWords Go.Proofs.YtbecgpjdeophmaaW.PrintLast Go.Proofs.YtbecgpjdeophmaaW.PrintMore
attribute [local go_sem] max2_int min2_int max_two min_two max_three min_three max_four min_four   -- for this text's walks alone
set_option linter.unusedVariables false
set_option linter.unusedSimpArgs false

attribute [local go_sem high] eqA23

/-! ### corporaref11_Normalize: function 16 -/
def corporaref11_Normalize.l0 : Nat → List (S23) → List (S23) → Int → Int → Option ((List (S23)) × Int)
  | 0, _, _, _, _ => none
  | k + 1, x5, x13, x14, x15 => if x15 < x14 then (if 0 ≤ x15 then (if x15 < (x13.length : Int) then ((corporaref11_insert.f k x5 ((rd_T23 x13 x15).f0) ((rd_T23 x13 x15).f1)).bind fun t211 => (corporaref11_Normalize.l0 k t211 x13 x14 (wrap64 (x15 + 1)))) else (none)) else (none)) else (some (x5, 0))
def corporaref11_Normalize.f (k : Nat) (l0 : List (S23)) : Option ((List (S23)) × Int) := (corporaref11_Check.f k l0).bind fun t208 => (if t208 = 0 then (corporaref11_Normalize.l0 k ([] : List (S23)) l0 (l0.length : Int) 0) else (some (([] : List (S23)), t208)))
theorem corporaref11_Normalize.mono_l : ∀ k, (∀ y0 y1 y2 y3, LeO (corporaref11_Normalize.l0 k y0 y1 y2 y3) (corporaref11_Normalize.l0 (k + 1) y0 y1 y2 y3))
  | 0 => fun _ _ _ _ r h => by simp [corporaref11_Normalize.l0] at h
  | k + 1 => by
    have ih0 := corporaref11_Normalize.mono_l k
    · intro y0 y1 y2 y3
      unfold corporaref11_Normalize.l0
      repeat' first
      | (with_reducible exact ih0 _ _ _ _)
      | (with_reducible exact corporaref11_Check.mono _ _)
      | (with_reducible exact corporaref11_insert.mono _ _ _ _)
      | (with_reducible exact LeO.refl _)
      | (with_reducible exact LeO.none _)
      | (with_reducible refine LeO.ite ?_ ?_)
      | (with_reducible refine LeO.bind ?_ (fun _ => ?_))
      | exact ih0 _ _ _ _
      | exact corporaref11_Check.mono _ _
      | exact corporaref11_insert.mono _ _ _ _
      | exact LeO.none _
      | refine LeO.ite ?_ ?_
      | refine LeO.bind ?_ (fun _ => ?_)
theorem corporaref11_Normalize.mono : ∀ a0 k, LeO (corporaref11_Normalize.f k a0) (corporaref11_Normalize.f (k + 1) a0) := by
  intro a0 k
  have ih0 := corporaref11_Normalize.mono_l k
  unfold corporaref11_Normalize.f
  repeat' first
      | (with_reducible exact ih0 _ _ _ _)
      | (with_reducible exact corporaref11_Check.mono _ _)
      | (with_reducible exact corporaref11_insert.mono _ _ _ _)
      | (with_reducible exact LeO.refl _)
      | (with_reducible exact LeO.none _)
      | (with_reducible refine LeO.ite ?_ ?_)
      | (with_reducible refine LeO.bind ?_ (fun _ => ?_))
      | exact ih0 _ _ _ _
      | exact corporaref11_Check.mono _ _
      | exact corporaref11_insert.mono _ _ _ _
      | exact LeO.none _
      | refine LeO.ite ?_ ?_
      | refine LeO.bind ?_ (fun _ => ?_)
set_option maxHeartbeats 8000000 in
set_option maxRecDepth 100000 in
theorem corporaref11_Normalize.calls (k : Nat) (A0 : Option Addr) (c0 : Nat) (l0 : List (S23)) (r1 : List (S23)) (r2 : Int) (w : World) (hr0 : Kd.C k23 w A0 l0.length l0) (hc0 : l0.length ≤ c0) (h : corporaref11_Normalize.f k l0 = some (r1, r2)) :
    Calls Try.prog 16 #[.slice A0 l0.length c0] w fun e w' => ∃ v0_ : Value, e = .returned (.tuple #[v0_, .int .i64 r2]) ∧ Kd.R k23 23 w' w.heap.size (fun _ => True) v0_ r1 ∧ Below w.heap.size w w' := by
  have hu23 := Try.underlying23
  have HR0 := Aside0.mk hr0
  have HC0 := Aside0.mk hc0
  clear hr0 hc0
  have HB := Aside0.mk (Below.refl w.heap.size w)
  have H : ((corporaref11_Check.f k l0).bind fun t208 => (if t208 = 0 then (corporaref11_Normalize.l0 k ([] : List (S23)) l0 (l0.length : Int) 0) else (some (([] : List (S23)), t208)))) = some (r1, r2) := h
  clear h
  replace H := Option.bind_eq_some_iff.mp H
  obtain ⟨t208, A20, H⟩ := H
  replace H : (if t208 = 0 then (corporaref11_Normalize.l0 k ([] : List (S23)) l0 (l0.length : Int) 0) else (some (([] : List (S23)), t208))) = some (r1, r2) := H
  have A2 := Aside0.mk A20
  clear A20
  by_cases c3 : t208 = 0
  · rw [if_pos c3] at H
    have c3b0 : (t208 == 0) = true := beq_iff_eq.mpr c3
    have c3b1 : (t208 != 0) = false := bne_eq_false_iff_eq.mpr c3
    clear c3
    have H' := Aside0.mk H
    clear H
    go_enter Try.func16, Try.ntmps16
    go_wp2_with (first | ((with_reducible refine gate_callee (f := 30) rfl ?_); refine goesL_ (some 9) rfl rfl Try.func30 (by kernel_rfl) rfl #[.slice A0 l0.length c0] rfl (by (try simp only [List.map_toArray, List.map_cons, List.map_nil]); first | done | rfl | (simp only [List.length_drop, List.length_take]; rfl)) ?_; (with_reducible refine (corporaref11_Check.calls k _ _ l0 t208 _ ?side1 ?side2 A2.out).mono ?_); (case side1 => repeat (first | exact HR0.out | (with_reducible refine Kd.C_alloc ?_ _) | (with_reducible refine Kd.C_drewN ?_ _) | (with_reducible refine Kd.C_drew ?_))); (case side2 => exact HC0.out); rintro e w4 ⟨rfl, hb⟩; refine ⟨_, rfl, ?_⟩; have n0_ := Aside0.mk (below_step (by repeat (first | (with_reducible first | exact HB.out | apply below_alloc | apply pw_below_drewN | apply below_drew1) | exact HB.out)) hb); clear HB; have HB := n0_; clear n0_; (try clear hb); (try clear hb2); (try clear hk); (try clear hi)))
    go_loopg [5, 15] k (fun kq v5 v15 w' => ∃ (x5_1 : List (S23)) (x15_1 : Int), v15 = .int .i64 x15_1 ∧ Aside0 (corporaref11_Normalize.l0 kq x5_1 l0 (l0.length : Int) x15_1 = some (r1, r2)) ∧ Aside0 (kq ≤ k) ∧ Aside0 (Kd.R k23 23 w' w.heap.size (fun _ => True) v5 x5_1) ∧ Aside0 (Below w.heap.size w w'))
    case atStart => exact ⟨(([] : List (S23))), (0), (by first | rfl | (simp; done) | (simp [*]; done)), H', ⟨Nat.le_refl _⟩, ⟨by first | exact Kd.R_nil _ _ _ _ _ | exact Kd.N_nil _ _ _ _ _ | exact Kd.V_nil _ _ _ _ _ | exact Kd.Q_nil _ _ _ _ _ | exact Kd.S_nil _ _ _ _ _⟩, ⟨by repeat (first | (with_reducible first | exact HB.out | apply below_alloc | apply pw_below_drewN | apply below_drew1) | exact HB.out)⟩⟩
    case round =>
      clear H'
      try clear c1
      try clear p2
      try clear c3
      try clear c3b0
      try clear c3b1
      obtain ⟨x5_1, x15_1, rfl, HA, HK1, HO_5, HB⟩ := hrel
      cases gk with
      | zero => exact absurd HA.out (by simp [corporaref11_Normalize.l0])
      | succ k1 =>
        have H := HA.out
        clear HA
        simp only [corporaref11_Normalize.l0] at H
        by_cases c5 : x15_1 < (l0.length : Int)
        · rw [if_pos c5] at H
          have c5b0 : decide (x15_1 < (l0.length : Int)) = true := decide_eq_true c5
          clear c5
          by_cases c6 : 0 ≤ x15_1
          · rw [if_pos c6] at H
            have c6b0 : decide (0 ≤ x15_1) = true := decide_eq_true c6
            clear c6
            by_cases c7 : x15_1 < (l0.length : Int)
            · rw [if_pos c7] at H
              have c7b0 : decide (x15_1 < (l0.length : Int)) = true := decide_eq_true c7
              clear c7
              replace H := Option.bind_eq_some_iff.mp H
              obtain ⟨t211, A80, H⟩ := H
              replace H : (corporaref11_Normalize.l0 k1 t211 l0 (l0.length : Int) (wrap64 (x15_1 + 1))) = some (r1, r2) := H
              have A8 := Aside0.mk A80
              clear A80
              have H' := Aside0.mk H
              clear H
              have p209 : 0 ≤ (x15_1 : Int) := of_decide_eq_true (by first | (with_reducible assumption) | assumption)
              have q209 : x15_1 < (l0.length : Int) := of_decide_eq_true (by first | (with_reducible assumption) | assumption)
              obtain ⟨ad209, e209, hx209_0, hx209_1⟩ := at_T23 HR0.out x15_1 p209 q209
              cases e209
              replace hx209_0 := (HB.out.cell (World.block_lt_of_cell? w _ hx209_0)).trans hx209_0
              replace hx209_1 := (HB.out.cell (World.block_lt_of_cell? w _ hx209_1)).trans hx209_1
              replace p209 := eq_true p209
              replace q209 := eq_true q209
              go_wp2_with (first | ((with_reducible refine gate_dst (N := 7) rfl ?_); refine box_event ?hg (N := 7) ?hd (cs := #[.int .i64 0, .int .i64 0]) (t := 23) ?hr ?_; (case hd => rfl); (case hg => rfl); (case hr => first | (go_simp; done) | (go_simp; rfl)); intro gb210 hg w9 hbox hb; have n0_ := Aside0.mk (Kd.R_below (Kd.R_elderB (by (with_reducible repeat (first | apply Kd.R_alloc | apply Kd.R_drewN | apply Kd.R_drew)); exact HO_5.out) gb210 (Nat.le_of_eq hg.symm)) hb); have n1_ := Aside0.mk (below_step (by repeat (first | (with_reducible first | exact HB.out | apply below_alloc | apply pw_below_drewN | apply below_drew1) | exact HB.out)) hb); have n2_ := Aside0.mk (hbox); have n3_ := Aside0.mk ((by rw [hg]; exact (below_size (by repeat (first | (with_reducible first | exact HB.out | apply below_alloc | apply pw_below_drewN | apply below_drew1) | exact HB.out))) : w.heap.size ≤ gb210)); have n4_ := Aside0.mk ((by rw [hg]; exact (below_size (by repeat (first | (with_reducible first | exact HB.out | apply below_alloc | apply pw_below_drewN | apply below_drew1) | exact HB.out))) : w.heap.size ≤ gb210)); clear HO_5; clear HB; have HO_5 := n0_; have HB := n1_; have BK210 := n2_; have GW210 := n3_; have GE210 := n4_; clear n0_ n1_ n2_ n3_ n4_; clear hb hbox hg; have hcz10_0 : w9.cell? ⟨gb210, 0, none⟩ = some (.int .i64 0) := (blk_cell BK210.out 0).trans rfl; have hcz10_1 : w9.cell? ⟨gb210, 1, none⟩ = some (.int .i64 0) := (blk_cell BK210.out 1).trans rfl; have hfz10_0 := blk_frozen BK210.out 0; have hfz10_1 := blk_frozen BK210.out 1) | ((with_reducible refine gate_store (t := 23) (p := 7) rfl ?_); refine store_event (t := 23) (p := 7) (v := ?vo_w11) (w1 := ((w9.setCell ⟨gb210, 0, none⟩ (.int .i64 ((rd_T23 l0 x15_1).f0))).setCell ⟨gb210, 1, none⟩ (.int .i64 ((rd_T23 l0 x15_1).f1)))) ?hg ?ho ?hn ?hr ?_; (case ho => rfl); (case hg => rfl); (case hn => rfl); (case hr => first | (go_simp; done) | (go_simp; rfl)); intro w11 hw; have n0_ : Aside0 (Kd.R k23 23 w11 w.heap.size (fun k_ => k_ ≠ gb210) u5 x5_1) := ⟨(by rw [hw]; exact (by (with_reducible repeat (first | apply Kd.R_alloc | apply Kd.R_drewN | apply Kd.R_drew)); exact Kd.R_mono (Kd.R_far (p := ⟨gb210, 1, none⟩) (Kd.R_far (p := ⟨gb210, 0, none⟩) (Kd.R_mono HO_5.out (fun k_ hk => (⟨hk, hk.2⟩ : _ ∧ k_ ≠ gb210))) (fun _ hk => hk.2) (.int .i64 ((rd_T23 l0 x15_1).f0))) (fun _ hk => hk.2) (.int .i64 ((rd_T23 l0 x15_1).f1))) (fun _ hk => hk.1.2)))⟩; have n1_ : Aside0 (w11.heap[gb210]? = some (.cells #[.int .i64 ((rd_T23 l0 x15_1).f0), .int .i64 ((rd_T23 l0 x15_1).f1)] 23 (0, 0))) := ⟨(by rw [hw]; exact (by (with_reducible repeat (first | refine blk_drewN ?_ _ | refine blk_drew ?_ | refine blk_alloc ?_ _)); refine blk_put (cs := #[.int .i64 ((rd_T23 l0 x15_1).f0), .int .i64 0]) ?_ 1 _ rfl; (with_reducible repeat (first | refine blk_drewN ?_ _ | refine blk_drew ?_ | refine blk_alloc ?_ _)); refine blk_put (cs := #[.int .i64 0, .int .i64 0]) ?_ 0 _ rfl; (with_reducible repeat (first | refine blk_drewN ?_ _ | refine blk_drew ?_ | refine blk_alloc ?_ _)); exact BK210.out))⟩; have n2_ : Aside0 (Below w.heap.size w w11) := ⟨(by rw [hw]; exact (by repeat (first | (with_reducible first | exact HB.out | apply below_alloc | apply pw_below_drewN | apply below_drew1 | refine below_set ?_ GE210.out) | exact HB.out)))⟩; clear hw; clear HO_5; clear BK210; clear HB; have HO_5 := n0_; have BK210 := n1_; have HB := n2_; clear n0_ n1_ n2_; have hcz12_0 : w11.cell? ⟨gb210, 0, none⟩ = some (.int .i64 ((rd_T23 l0 x15_1).f0)) := (blk_cell BK210.out 0).trans rfl; have hcz12_1 : w11.cell? ⟨gb210, 1, none⟩ = some (.int .i64 ((rd_T23 l0 x15_1).f1)) := (blk_cell BK210.out 1).trans rfl; have hfz12_0 := blk_frozen BK210.out 0; have hfz12_1 := blk_frozen BK210.out 1; obtain ⟨Ao13, co13, eo13⟩ := Kd.R_slice HO_5.out; subst eo13) | ((with_reducible refine gate_callee (f := 31) rfl ?_); refine goesL_ (some 21) rfl rfl Try.func31 (by kernel_rfl) rfl #[.slice Ao13 x5_1.length co13, .agg #[.int .i64 ((rd_T23 l0 x15_1).f0), .int .i64 ((rd_T23 l0 x15_1).f1)]] rfl (by (try simp only [List.map_toArray, List.map_cons, List.map_nil]); first | done | rfl | (simp only [List.length_drop, List.length_take]; rfl)) ?_; (with_reducible refine (corporaref11_insert.calls k1 (fun k_ => some k_ = (.slice Ao13 x5_1.length co13 : Value).ownBlock) (.slice Ao13 x5_1.length co13) x5_1 ((rd_T23 l0 x15_1).f0) ((rd_T23 l0 x15_1).f1) t211 w _ ?side1 ?side2 A8.out).mono ?_); (case side1 => repeat (first | (with_reducible first | exact HB.out | apply below_alloc | apply pw_below_drewN | apply below_drew1 | refine below_set ?_ GE210.out) | exact HB.out)); (case side2 => exact Kd.R_tight rfl HO_5.out); rintro e w14 ⟨v212, rfl, ho0, hb, hkp⟩; refine ⟨_, rfl, ?_⟩; have n0_ := Aside0.mk (blk_kept (by (with_reducible repeat (first | refine blk_drewN ?_ _ | refine blk_drew ?_ | refine blk_alloc ?_ _)); exact BK210.out) hkp (fun hs_ => (fun e_ => (Kd.R_away HO_5.out (fun _ hk => hk)) e_) hs_)); have n1_ := Aside0.mk (Kd.R_mono (ok' := fun k_ => k_ ≠ gb210) ho0 (fun k_ hk_ => Or.elim hk_ (fun hs_ => fun e_ => (Kd.R_away HO_5.out (fun _ hk => hk)) (by rw [← e_]; exact hs_)) (fun hn_ => (Kd.freshB (g := gb210) (o := .cells #[.int .i64 ((rd_T23 l0 x15_1).f0), .int .i64 ((rd_T23 l0 x15_1).f1)] 23 (0, 0)) (by (with_reducible repeat (first | refine blk_drewN ?_ _ | refine blk_drew ?_ | refine blk_alloc ?_ _)); exact BK210.out) k_ hn_)))); have n2_ := Aside0.mk (hb); clear BK210; clear HB; clear HO_5; have BK210 := n0_; have HO213 := n1_; have HB := n2_; clear n0_ n1_ n2_; (try clear hb); (try clear hkp); (try clear ho0)))
              go_roundg k1
              case measure => have := HK1.out; omega
              case rel => exact ⟨(t211), (wrap64 (x15_1 + 1)), (by first | rfl | (simp; done) | (simp [*]; done)), H', ⟨by have := HK1.out; omega⟩, ⟨by (with_reducible repeat (first | apply Kd.R_alloc | apply Kd.R_drewN | apply Kd.R_drew)); exact Kd.R_mono HO213.out (fun _ hk => trivial)⟩, ⟨by repeat (first | (with_reducible first | exact HB.out | apply below_alloc | apply pw_below_drewN | apply below_drew1 | refine below_set ?_ GE210.out) | exact HB.out)⟩⟩
            · rw [if_neg c7] at H
              exact absurd H (by simp)
          · rw [if_neg c6] at H
            exact absurd H (by simp)
        · rw [if_neg c5] at H
          have c5b0 : decide (x15_1 < (l0.length : Int)) = false := decide_eq_false c5
          clear c5
          simp only [Option.some.injEq, Prod.mk.injEq] at H
          obtain ⟨rfl, rfl⟩ := H
          go_wp2
          go_ret2
          exact ⟨_, by first | rfl | (simp [errW_none, errW_some] <;> rfl) | (simp [*, errW_none, errW_some] <;> rfl), by (with_reducible repeat (first | apply Kd.R_alloc | apply Kd.R_drewN | apply Kd.R_drew)); exact HO_5.out, by repeat (first | (with_reducible first | exact HB.out | apply below_alloc | apply pw_below_drewN | apply below_drew1) | exact HB.out)⟩
  · rw [if_neg c3] at H
    have c3b0 : (t208 == 0) = false := beq_eq_false_iff_ne.mpr c3
    have c3b1 : (t208 != 0) = true := bne_iff_ne.mpr c3
    simp only [Option.some.injEq, Prod.mk.injEq] at H
    obtain ⟨rfl, rfl⟩ := H
    go_enter Try.func16, Try.ntmps16
    go_wp2_with (first | ((with_reducible refine gate_callee (f := 30) rfl ?_); refine goesL_ (some 9) rfl rfl Try.func30 (by kernel_rfl) rfl #[.slice A0 l0.length c0] rfl (by (try simp only [List.map_toArray, List.map_cons, List.map_nil]); first | done | rfl | (simp only [List.length_drop, List.length_take]; rfl)) ?_; (with_reducible refine (corporaref11_Check.calls k _ _ l0 t208 _ ?side1 ?side2 A2.out).mono ?_); (case side1 => repeat (first | exact HR0.out | (with_reducible refine Kd.C_alloc ?_ _) | (with_reducible refine Kd.C_drewN ?_ _) | (with_reducible refine Kd.C_drew ?_))); (case side2 => exact HC0.out); rintro e w15 ⟨rfl, hb⟩; refine ⟨_, rfl, ?_⟩; have n0_ := Aside0.mk (below_step (by repeat (first | (with_reducible first | exact HB.out | apply below_alloc | apply pw_below_drewN | apply below_drew1) | exact HB.out)) hb); clear HB; have HB := n0_; clear n0_; (try clear hb); (try clear hb2); (try clear hk); (try clear hi)))
    go_ret2
    exact ⟨_, by first | rfl | (simp [errW_none, errW_some] <;> rfl) | (simp [*, errW_none, errW_some] <;> rfl), by first | exact Kd.R_nil _ _ _ _ _ | exact Kd.N_nil _ _ _ _ _ | exact Kd.V_nil _ _ _ _ _ | exact Kd.Q_nil _ _ _ _ _ | exact Kd.S_nil _ _ _ _ _, by repeat (first | (with_reducible first | exact HB.out | apply below_alloc | apply pw_below_drewN | apply below_drew1) | exact HB.out)⟩

end Go.Proofs.Ytbecgpjdeophmaa.Q
