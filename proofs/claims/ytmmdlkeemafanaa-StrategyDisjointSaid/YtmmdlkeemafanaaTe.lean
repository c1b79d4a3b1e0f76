import Derived.Test.YtmmdlkeemafanaaQx0
import Derived.Test.YtmmdlkeemafanaaQx1
import Derived.Test.YtmmdlkeemafanaaY
import Derived.Test.YtmmdlkeemafanaaTb
import Derived.Test.YtmmdlkeemafanaaQb
import Derived.Test.YtmmdlkeemafanaaQj
import Derived.Test.YtmmdlkeemafanaaQr
namespace Go.Proofs.Ytmmdlkeemafanaa.Q
open Go.RowKit Go.Proofs.YtmmdlkeemafanaaW.PrintWords Go.Proofs.YtmmdlkeemafanaaW.PrintLast Go.Proofs.YtmmdlkeemafanaaW.PrintMore
attribute [local go_sem] max2_int min2_int max_two min_two max_three min_three max_four min_four   -- for this text's walks alone
set_option linter.unusedVariables false
set_option linter.unusedSimpArgs false

attribute [local go_sem high] eqA40

/-! ### corporalaw27_StrategyDisjoint: function 8 -/
mutual
def corporalaw27_StrategyDisjoint.l0 : Nat → List (S38) → Int → List (S40) → Int → Option (Bool)
  | 0, _, _, _, _ => none
  | k + 1, x3, x5, x6, x7 => if x7 < (x6.length : Int) then (if 0 ≤ (wrap64 (x7 - 1)) then (if (wrap64 (x7 - 1)) < (x6.length : Int) then (if 0 ≤ x7 then (if ((rd_T40 x6 (wrap64 (x7 - 1))).f1) > ((rd_T40 x6 x7).f0) then (some false) else (corporalaw27_StrategyDisjoint.l0 k x3 x5 x6 (wrap64 (x7 + 1)))) else (none)) else (none)) else (none)) else (corporalaw27_StrategyDisjoint.l1 k x5 x6 x3 (x3.length : Int) 0)
def corporalaw27_StrategyDisjoint.l1 : Nat → Int → List (S40) → List (S38) → Int → Int → Option (Bool)
  | 0, _, _, _, _, _ => none
  | k + 1, x5, x6, x40, x41, x42 => if x42 < x41 then (if 0 ≤ x42 then (if x42 < (x40.length : Int) then (corporalaw27_StrategyDisjoint.l2 k x5 x6 false x40 x41 x42 x6 (x6.length : Int) 0 ((rd_T38 x40 x42).f0) ((rd_T38 x40 x42).f1) ((rd_T38 x40 x42).f2)) else (none)) else (none)) else (if x5 = 0 then ((corporalaw27_known.f k).bind fun t413 => (some t413)) else (some false))
def corporalaw27_StrategyDisjoint.l2 : Nat → Int → List (S40) → Bool → List (S38) → Int → Int → List (S40) → Int → Int → Int → Int → List Int → Option (Bool)
  | 0, _, _, _, _, _, _, _, _, _, _, _, _ => none
  | k + 1, x5, x6, x10, x40, x41, x42, x46, x47, x48, x416000, x416001, x416002 => if x48 < x47 then (if 0 ≤ x48 then (if x48 < (x46.length : Int) then (if x10 = true then (corporalaw27_StrategyDisjoint.l2 k x5 x6 true x40 x41 x42 x46 x47 (wrap64 (x48 + 1)) x416000 x416001 x416002) else (if ((rd_T40 x46 x48).f0) < x416001 then (corporalaw27_StrategyDisjoint.l2 k x5 x6 (decide (x416000 < ((rd_T40 x46 x48).f1))) x40 x41 x42 x46 x47 (wrap64 (x48 + 1)) x416000 x416001 x416002) else (corporalaw27_StrategyDisjoint.l2 k x5 x6 false x40 x41 x42 x46 x47 (wrap64 (x48 + 1)) x416000 x416001 x416002))) else (none)) else (none)) else (if x10 = true then (corporalaw27_StrategyDisjoint.l1 k x5 x6 x40 x41 (wrap64 (x42 + 1))) else (some false))
end
def corporalaw27_StrategyDisjoint.f (k : Nat) (l0 : List Int) : Option (Bool) := (corporalaw27_list.f k l0).bind fun t401 => ((strategy_Choose.f k 3 t401).bind fun bt404 => ((strategy_Spans.f k bt404.1).bind fun t408 => (corporalaw27_StrategyDisjoint.l0 k t401 bt404.2 t408 1)))
theorem corporalaw27_StrategyDisjoint.mono_l : ∀ k, (∀ y0 y1 y2 y3, LeO (corporalaw27_StrategyDisjoint.l0 k y0 y1 y2 y3) (corporalaw27_StrategyDisjoint.l0 (k + 1) y0 y1 y2 y3)) ∧ (∀ y0 y1 y2 y3 y4, LeO (corporalaw27_StrategyDisjoint.l1 k y0 y1 y2 y3 y4) (corporalaw27_StrategyDisjoint.l1 (k + 1) y0 y1 y2 y3 y4)) ∧ (∀ y0 y1 y2 y3 y4 y5 y6 y7 y8 y9 y10 y11, LeO (corporalaw27_StrategyDisjoint.l2 k y0 y1 y2 y3 y4 y5 y6 y7 y8 y9 y10 y11) (corporalaw27_StrategyDisjoint.l2 (k + 1) y0 y1 y2 y3 y4 y5 y6 y7 y8 y9 y10 y11))
  | 0 => ⟨fun _ _ _ _ r h => by simp [corporalaw27_StrategyDisjoint.l0] at h, fun _ _ _ _ _ r h => by simp [corporalaw27_StrategyDisjoint.l1] at h, fun _ _ _ _ _ _ _ _ _ _ _ _ r h => by simp [corporalaw27_StrategyDisjoint.l2] at h⟩
  | k + 1 => by
    obtain ⟨ih0, ih1, ih2⟩ := corporalaw27_StrategyDisjoint.mono_l k
    refine ⟨?_, ?_, ?_⟩
    · intro y0 y1 y2 y3
      unfold corporalaw27_StrategyDisjoint.l0
      repeat' first
      | (with_reducible exact ih0 _ _ _ _)
      | (with_reducible exact ih1 _ _ _ _ _)
      | (with_reducible exact ih2 _ _ _ _ _ _ _ _ _ _ _ _)
      | (with_reducible exact corporalaw27_known.mono _)
      | (with_reducible exact corporalaw27_list.mono _ _)
      | (with_reducible exact strategy_Choose.mono _ _ _)
      | (with_reducible exact strategy_Spans.mono _ _)
      | (with_reducible exact LeO.refl _)
      | (with_reducible exact LeO.none _)
      | (with_reducible refine LeO.ite ?_ ?_)
      | (with_reducible refine LeO.bind ?_ (fun _ => ?_))
      | exact ih0 _ _ _ _
      | exact ih1 _ _ _ _ _
      | exact ih2 _ _ _ _ _ _ _ _ _ _ _ _
      | exact corporalaw27_known.mono _
      | exact corporalaw27_list.mono _ _
      | exact strategy_Choose.mono _ _ _
      | exact strategy_Spans.mono _ _
      | exact LeO.none _
      | refine LeO.ite ?_ ?_
      | refine LeO.bind ?_ (fun _ => ?_)
    · intro y0 y1 y2 y3 y4
      unfold corporalaw27_StrategyDisjoint.l1
      repeat' first
      | (with_reducible exact ih0 _ _ _ _)
      | (with_reducible exact ih1 _ _ _ _ _)
      | (with_reducible exact ih2 _ _ _ _ _ _ _ _ _ _ _ _)
      | (with_reducible exact corporalaw27_known.mono _)
      | (with_reducible exact corporalaw27_list.mono _ _)
      | (with_reducible exact strategy_Choose.mono _ _ _)
      | (with_reducible exact strategy_Spans.mono _ _)
      | (with_reducible exact LeO.refl _)
      | (with_reducible exact LeO.none _)
      | (with_reducible refine LeO.ite ?_ ?_)
      | (with_reducible refine LeO.bind ?_ (fun _ => ?_))
      | exact ih0 _ _ _ _
      | exact ih1 _ _ _ _ _
      | exact ih2 _ _ _ _ _ _ _ _ _ _ _ _
      | exact corporalaw27_known.mono _
      | exact corporalaw27_list.mono _ _
      | exact strategy_Choose.mono _ _ _
      | exact strategy_Spans.mono _ _
      | exact LeO.none _
      | refine LeO.ite ?_ ?_
      | refine LeO.bind ?_ (fun _ => ?_)
    · intro y0 y1 y2 y3 y4 y5 y6 y7 y8 y9 y10 y11
      unfold corporalaw27_StrategyDisjoint.l2
      repeat' first
      | (with_reducible exact ih0 _ _ _ _)
      | (with_reducible exact ih1 _ _ _ _ _)
      | (with_reducible exact ih2 _ _ _ _ _ _ _ _ _ _ _ _)
      | (with_reducible exact corporalaw27_known.mono _)
      | (with_reducible exact corporalaw27_list.mono _ _)
      | (with_reducible exact strategy_Choose.mono _ _ _)
      | (with_reducible exact strategy_Spans.mono _ _)
      | (with_reducible exact LeO.refl _)
      | (with_reducible exact LeO.none _)
      | (with_reducible refine LeO.ite ?_ ?_)
      | (with_reducible refine LeO.bind ?_ (fun _ => ?_))
      | exact ih0 _ _ _ _
      | exact ih1 _ _ _ _ _
      | exact ih2 _ _ _ _ _ _ _ _ _ _ _ _
      | exact corporalaw27_known.mono _
      | exact corporalaw27_list.mono _ _
      | exact strategy_Choose.mono _ _ _
      | exact strategy_Spans.mono _ _
      | exact LeO.none _
      | refine LeO.ite ?_ ?_
      | refine LeO.bind ?_ (fun _ => ?_)
theorem corporalaw27_StrategyDisjoint.mono : ∀ a0 k, LeO (corporalaw27_StrategyDisjoint.f k a0) (corporalaw27_StrategyDisjoint.f (k + 1) a0) := by
  intro a0 k
  obtain ⟨ih0, ih1, ih2⟩ := corporalaw27_StrategyDisjoint.mono_l k
  unfold corporalaw27_StrategyDisjoint.f
  repeat' first
      | (with_reducible exact ih0 _ _ _ _)
      | (with_reducible exact ih1 _ _ _ _ _)
      | (with_reducible exact ih2 _ _ _ _ _ _ _ _ _ _ _ _)
      | (with_reducible exact corporalaw27_known.mono _)
      | (with_reducible exact corporalaw27_list.mono _ _)
      | (with_reducible exact strategy_Choose.mono _ _ _)
      | (with_reducible exact strategy_Spans.mono _ _)
      | (with_reducible exact LeO.refl _)
      | (with_reducible exact LeO.none _)
      | (with_reducible refine LeO.ite ?_ ?_)
      | (with_reducible refine LeO.bind ?_ (fun _ => ?_))
      | exact ih0 _ _ _ _
      | exact ih1 _ _ _ _ _
      | exact ih2 _ _ _ _ _ _ _ _ _ _ _ _
      | exact corporalaw27_known.mono _
      | exact corporalaw27_list.mono _ _
      | exact strategy_Choose.mono _ _ _
      | exact strategy_Spans.mono _ _
      | exact LeO.none _
      | refine LeO.ite ?_ ?_
      | refine LeO.bind ?_ (fun _ => ?_)
set_option maxHeartbeats 8000000 in
set_option maxRecDepth 100000 in
theorem corporalaw27_StrategyDisjoint.calls (k : Nat) (A0 : Option Addr) (c0 : Nat) (l0 : List Int) (r : Bool) (w : World) (hr0 : Kd.C (Kd.int .i64) w A0 l0.length l0) (hc0 : l0.length ≤ c0) (h : corporalaw27_StrategyDisjoint.f k l0 = some r) :
    Calls Try.prog 8 #[.slice A0 l0.length c0] w fun e w' => e = .returned (.bool r) ∧ Below w.heap.size w w' := by
  have hu38 := Try.underlying38
  have hu40 := Try.underlying40
  have HR0 := Aside0.mk hr0
  have HC0 := Aside0.mk hc0
  clear hr0 hc0
  have HB := Aside0.mk (Below.refl w.heap.size w)
  have H : ((corporalaw27_list.f k l0).bind fun t401 => ((strategy_Choose.f k 3 t401).bind fun bt404 => ((strategy_Spans.f k bt404.1).bind fun t408 => (corporalaw27_StrategyDisjoint.l0 k t401 bt404.2 t408 1)))) = some r := h
  clear h
  replace H := Option.bind_eq_some_iff.mp H
  obtain ⟨t401, A20, H⟩ := H
  replace H : ((strategy_Choose.f k 3 t401).bind fun bt404 => ((strategy_Spans.f k bt404.1).bind fun t408 => (corporalaw27_StrategyDisjoint.l0 k t401 bt404.2 t408 1))) = some r := H
  have A2 := Aside0.mk A20
  clear A20
  replace H := Option.bind_eq_some_iff.mp H
  obtain ⟨⟨t404, t405⟩, A30, H⟩ := H
  replace H : ((strategy_Spans.f k t404).bind fun t408 => (corporalaw27_StrategyDisjoint.l0 k t401 t405 t408 1)) = some r := H
  have A3 := Aside0.mk A30
  clear A30
  replace H := Option.bind_eq_some_iff.mp H
  obtain ⟨t408, A40, H⟩ := H
  replace H : (corporalaw27_StrategyDisjoint.l0 k t401 t405 t408 1) = some r := H
  have A4 := Aside0.mk A40
  clear A40
  have H' := Aside0.mk H
  clear H
  go_enter Try.func8, Try.ntmps8
  go_wp2_with (first | (go_at_call 10; (with_reducible refine (corporalaw27_list.calls k _ _ l0 t401 _ ?side1 ?side2 A2.out).mono ?_); (case side1 => repeat (first | exact HR0.out | (with_reducible refine Kd.C_alloc ?_ _) | (with_reducible refine Kd.C_drewN ?_ _) | (with_reducible refine Kd.C_drew ?_))); (case side2 => exact HC0.out); rintro e w5 ⟨v402, rfl, ho0, hb⟩; have n0_ := Aside0.mk (Kd.N_lower (Kd.N_mono (ok' := fun k_ => True) ho0 (fun k_ hk_ => trivial)) (below_size (by repeat (first | (with_reducible first | exact HB.out | apply below_alloc | apply pw_below_drewN | apply below_drew1) | exact HB.out)))); have n1_ := Aside0.mk (below_step (by repeat (first | (with_reducible first | exact HB.out | apply below_alloc | apply pw_below_drewN | apply below_drew1) | exact HB.out)) hb); clear HB; have HO403 := n0_; have HB := n1_; clear n0_ n1_; (try clear hb); (try clear hb2); (try clear hk); (try clear hi); (try clear ho0); obtain ⟨Ao6, co6, eo6⟩ := Kd.N_slice HO403.out; subst eo6) | (go_at_call 12; (with_reducible refine (strategy_Choose.calls k 3 _ _ t401 t404 t405 _ ?side1 ?side2 A3.out).mono ?_); (case side1 => repeat (first | exact (Kd.N_reads' HO403.out).2.2 | (with_reducible refine Kd.C_alloc ?_ _) | (with_reducible refine Kd.C_drewN ?_ _) | (with_reducible refine Kd.C_drew ?_))); (case side2 => exact (Kd.N_reads' HO403.out).2.1); rintro e w7 ⟨v406, rfl, ho0, hb⟩; have n0_ := Aside0.mk (Kd.N_elder' (by (with_reducible repeat (first | apply Kd.N_alloc | apply Kd.N_drewN | apply Kd.N_drew)); exact HO403.out) (Kd.N_base (Kd.S_N ho0)) hb); have n1_ := Aside0.mk (Kd.N_lower (Kd.N_mono (ok' := fun k_ => some k_ ≠ (.slice Ao6 t401.length co6 : Value).ownBlock) (Kd.S_N (Kd.S_bound ho0)) (fun k_ hk_ => (Kd.fresh' (Kd.N_lt (by (with_reducible repeat (first | apply Kd.N_alloc | apply Kd.N_drewN | apply Kd.N_drew)); exact HO403.out)) k_ hk_.2.1))) (below_size (by repeat (first | (with_reducible first | exact HB.out | apply below_alloc | apply pw_below_drewN | apply below_drew1) | exact HB.out)))); have n2_ := Aside0.mk (below_step (by repeat (first | (with_reducible first | exact HB.out | apply below_alloc | apply pw_below_drewN | apply below_drew1) | exact HB.out)) hb); clear HO403; clear HB; have HO403 := n0_; have HO407 := n1_; have HB := n2_; clear n0_ n1_ n2_; (try clear hb); (try clear hb2); (try clear hk); (try clear hi); (try clear ho0); obtain ⟨Ao8, co8, eo8⟩ := Kd.N_slice HO407.out; subst eo8) | (go_at_call 16; (with_reducible refine (strategy_Spans.calls k _ _ t404 t408 _ ?side1 ?side2 A4.out).mono ?_); (case side1 => repeat (first | exact (Kd.N_reads' HO407.out).2.2 | (with_reducible refine Kd.C_alloc ?_ _) | (with_reducible refine Kd.C_drewN ?_ _) | (with_reducible refine Kd.C_drew ?_))); (case side2 => exact (Kd.N_reads' HO407.out).2.1); rintro e w9 ⟨v409, rfl, ho0, hb⟩; have n0_ := Aside0.mk (Kd.N_elder' (by (with_reducible repeat (first | apply Kd.N_alloc | apply Kd.N_drewN | apply Kd.N_drew)); exact HO403.out) (Kd.R_base ho0) hb); have n1_ := Aside0.mk (Kd.N_elder' (by (with_reducible repeat (first | apply Kd.N_alloc | apply Kd.N_drewN | apply Kd.N_drew)); exact HO407.out) (Kd.R_base ho0) hb); have n2_ := Aside0.mk (Kd.R_lower ho0 (below_size (by repeat (first | (with_reducible first | exact HB.out | apply below_alloc | apply pw_below_drewN | apply below_drew1) | exact HB.out)))); have n3_ := Aside0.mk (below_step (by repeat (first | (with_reducible first | exact HB.out | apply below_alloc | apply pw_below_drewN | apply below_drew1) | exact HB.out)) hb); clear HO403; clear HO407; clear HB; have HO403 := n0_; have HO407 := n1_; have HO410 := n2_; have HB := n3_; clear n0_ n1_ n2_ n3_; (try clear hb); (try clear hb2); (try clear hk); (try clear hi); (try clear ho0)))
  repeat (go_quiet (first | (go_at_call 10; (with_reducible refine (corporalaw27_list.calls k _ _ l0 t401 _ ?side1 ?side2 A2.out).mono ?_); (case side1 => repeat (first | exact HR0.out | (with_reducible refine Kd.C_alloc ?_ _) | (with_reducible refine Kd.C_drewN ?_ _) | (with_reducible refine Kd.C_drew ?_))); (case side2 => exact HC0.out); rintro e w5 ⟨v402, rfl, ho0, hb⟩; have n0_ := Aside0.mk (Kd.N_lower (Kd.N_mono (ok' := fun k_ => True) ho0 (fun k_ hk_ => trivial)) (below_size (by repeat (first | (with_reducible first | exact HB.out | apply below_alloc | apply pw_below_drewN | apply below_drew1) | exact HB.out)))); have n1_ := Aside0.mk (below_step (by repeat (first | (with_reducible first | exact HB.out | apply below_alloc | apply pw_below_drewN | apply below_drew1) | exact HB.out)) hb); clear HB; have HO403 := n0_; have HB := n1_; clear n0_ n1_; (try clear hb); (try clear hb2); (try clear hk); (try clear hi); (try clear ho0); obtain ⟨Ao6, co6, eo6⟩ := Kd.N_slice HO403.out; subst eo6) | (go_at_call 12; (with_reducible refine (strategy_Choose.calls k 3 _ _ t401 t404 t405 _ ?side1 ?side2 A3.out).mono ?_); (case side1 => repeat (first | exact (Kd.N_reads' HO403.out).2.2 | (with_reducible refine Kd.C_alloc ?_ _) | (with_reducible refine Kd.C_drewN ?_ _) | (with_reducible refine Kd.C_drew ?_))); (case side2 => exact (Kd.N_reads' HO403.out).2.1); rintro e w7 ⟨v406, rfl, ho0, hb⟩; have n0_ := Aside0.mk (Kd.N_elder' (by (with_reducible repeat (first | apply Kd.N_alloc | apply Kd.N_drewN | apply Kd.N_drew)); exact HO403.out) (Kd.N_base (Kd.S_N ho0)) hb); have n1_ := Aside0.mk (Kd.N_lower (Kd.N_mono (ok' := fun k_ => some k_ ≠ (.slice Ao6 t401.length co6 : Value).ownBlock) (Kd.S_N (Kd.S_bound ho0)) (fun k_ hk_ => (Kd.fresh' (Kd.N_lt (by (with_reducible repeat (first | apply Kd.N_alloc | apply Kd.N_drewN | apply Kd.N_drew)); exact HO403.out)) k_ hk_.2.1))) (below_size (by repeat (first | (with_reducible first | exact HB.out | apply below_alloc | apply pw_below_drewN | apply below_drew1) | exact HB.out)))); have n2_ := Aside0.mk (below_step (by repeat (first | (with_reducible first | exact HB.out | apply below_alloc | apply pw_below_drewN | apply below_drew1) | exact HB.out)) hb); clear HO403; clear HB; have HO403 := n0_; have HO407 := n1_; have HB := n2_; clear n0_ n1_ n2_; (try clear hb); (try clear hb2); (try clear hk); (try clear hi); (try clear ho0); obtain ⟨Ao8, co8, eo8⟩ := Kd.N_slice HO407.out; subst eo8) | (go_at_call 16; (with_reducible refine (strategy_Spans.calls k _ _ t404 t408 _ ?side1 ?side2 A4.out).mono ?_); (case side1 => repeat (first | exact (Kd.N_reads' HO407.out).2.2 | (with_reducible refine Kd.C_alloc ?_ _) | (with_reducible refine Kd.C_drewN ?_ _) | (with_reducible refine Kd.C_drew ?_))); (case side2 => exact (Kd.N_reads' HO407.out).2.1); rintro e w9 ⟨v409, rfl, ho0, hb⟩; have n0_ := Aside0.mk (Kd.N_elder' (by (with_reducible repeat (first | apply Kd.N_alloc | apply Kd.N_drewN | apply Kd.N_drew)); exact HO403.out) (Kd.R_base ho0) hb); have n1_ := Aside0.mk (Kd.N_elder' (by (with_reducible repeat (first | apply Kd.N_alloc | apply Kd.N_drewN | apply Kd.N_drew)); exact HO407.out) (Kd.R_base ho0) hb); have n2_ := Aside0.mk (Kd.R_lower ho0 (below_size (by repeat (first | (with_reducible first | exact HB.out | apply below_alloc | apply pw_below_drewN | apply below_drew1) | exact HB.out)))); have n3_ := Aside0.mk (below_step (by repeat (first | (with_reducible first | exact HB.out | apply below_alloc | apply pw_below_drewN | apply below_drew1) | exact HB.out)) hb); clear HO403; clear HO407; clear HB; have HO403 := n0_; have HO407 := n1_; have HO410 := n2_; have HB := n3_; clear n0_ n1_ n2_ n3_; (try clear hb); (try clear hb2); (try clear hk); (try clear hi); (try clear ho0))); try go_wp2_with (first | (go_at_call 10; (with_reducible refine (corporalaw27_list.calls k _ _ l0 t401 _ ?side1 ?side2 A2.out).mono ?_); (case side1 => repeat (first | exact HR0.out | (with_reducible refine Kd.C_alloc ?_ _) | (with_reducible refine Kd.C_drewN ?_ _) | (with_reducible refine Kd.C_drew ?_))); (case side2 => exact HC0.out); rintro e w5 ⟨v402, rfl, ho0, hb⟩; have n0_ := Aside0.mk (Kd.N_lower (Kd.N_mono (ok' := fun k_ => True) ho0 (fun k_ hk_ => trivial)) (below_size (by repeat (first | (with_reducible first | exact HB.out | apply below_alloc | apply pw_below_drewN | apply below_drew1) | exact HB.out)))); have n1_ := Aside0.mk (below_step (by repeat (first | (with_reducible first | exact HB.out | apply below_alloc | apply pw_below_drewN | apply below_drew1) | exact HB.out)) hb); clear HB; have HO403 := n0_; have HB := n1_; clear n0_ n1_; (try clear hb); (try clear hb2); (try clear hk); (try clear hi); (try clear ho0); obtain ⟨Ao6, co6, eo6⟩ := Kd.N_slice HO403.out; subst eo6) | (go_at_call 12; (with_reducible refine (strategy_Choose.calls k 3 _ _ t401 t404 t405 _ ?side1 ?side2 A3.out).mono ?_); (case side1 => repeat (first | exact (Kd.N_reads' HO403.out).2.2 | (with_reducible refine Kd.C_alloc ?_ _) | (with_reducible refine Kd.C_drewN ?_ _) | (with_reducible refine Kd.C_drew ?_))); (case side2 => exact (Kd.N_reads' HO403.out).2.1); rintro e w7 ⟨v406, rfl, ho0, hb⟩; have n0_ := Aside0.mk (Kd.N_elder' (by (with_reducible repeat (first | apply Kd.N_alloc | apply Kd.N_drewN | apply Kd.N_drew)); exact HO403.out) (Kd.N_base (Kd.S_N ho0)) hb); have n1_ := Aside0.mk (Kd.N_lower (Kd.N_mono (ok' := fun k_ => some k_ ≠ (.slice Ao6 t401.length co6 : Value).ownBlock) (Kd.S_N (Kd.S_bound ho0)) (fun k_ hk_ => (Kd.fresh' (Kd.N_lt (by (with_reducible repeat (first | apply Kd.N_alloc | apply Kd.N_drewN | apply Kd.N_drew)); exact HO403.out)) k_ hk_.2.1))) (below_size (by repeat (first | (with_reducible first | exact HB.out | apply below_alloc | apply pw_below_drewN | apply below_drew1) | exact HB.out)))); have n2_ := Aside0.mk (below_step (by repeat (first | (with_reducible first | exact HB.out | apply below_alloc | apply pw_below_drewN | apply below_drew1) | exact HB.out)) hb); clear HO403; clear HB; have HO403 := n0_; have HO407 := n1_; have HB := n2_; clear n0_ n1_ n2_; (try clear hb); (try clear hb2); (try clear hk); (try clear hi); (try clear ho0); obtain ⟨Ao8, co8, eo8⟩ := Kd.N_slice HO407.out; subst eo8) | (go_at_call 16; (with_reducible refine (strategy_Spans.calls k _ _ t404 t408 _ ?side1 ?side2 A4.out).mono ?_); (case side1 => repeat (first | exact (Kd.N_reads' HO407.out).2.2 | (with_reducible refine Kd.C_alloc ?_ _) | (with_reducible refine Kd.C_drewN ?_ _) | (with_reducible refine Kd.C_drew ?_))); (case side2 => exact (Kd.N_reads' HO407.out).2.1); rintro e w9 ⟨v409, rfl, ho0, hb⟩; have n0_ := Aside0.mk (Kd.N_elder' (by (with_reducible repeat (first | apply Kd.N_alloc | apply Kd.N_drewN | apply Kd.N_drew)); exact HO403.out) (Kd.R_base ho0) hb); have n1_ := Aside0.mk (Kd.N_elder' (by (with_reducible repeat (first | apply Kd.N_alloc | apply Kd.N_drewN | apply Kd.N_drew)); exact HO407.out) (Kd.R_base ho0) hb); have n2_ := Aside0.mk (Kd.R_lower ho0 (below_size (by repeat (first | (with_reducible first | exact HB.out | apply below_alloc | apply pw_below_drewN | apply below_drew1) | exact HB.out)))); have n3_ := Aside0.mk (below_step (by repeat (first | (with_reducible first | exact HB.out | apply below_alloc | apply pw_below_drewN | apply below_drew1) | exact HB.out)) hb); clear HO403; clear HO407; clear HB; have HO403 := n0_; have HO407 := n1_; have HO410 := n2_; have HB := n3_; clear n0_ n1_ n2_ n3_; (try clear hb); (try clear hb2); (try clear hk); (try clear hi); (try clear ho0))))
  go_loopg [7] k (fun kq v7 w' => ∃ (x7_1 : Int), v7 = .int .i64 x7_1 ∧ Aside0 (corporalaw27_StrategyDisjoint.l0 kq t401 t405 t408 x7_1 = some r) ∧ Aside0 (kq ≤ k) ∧ Aside0 (Kd.N k38 38 w' w.heap.size (fun k_ => some k_ ≠ (v409 : Value).ownBlock) (.slice Ao6 t401.length co6) t401) ∧ Aside0 (Kd.R k40 40 w' w.heap.size (fun _ => True) v409 t408) ∧ Aside0 (Below w.heap.size w w'))
  case atStart => exact ⟨(1), (by first | rfl | (simp; done) | (simp [*]; done)), H', ⟨Nat.le_refl _⟩, ⟨by (with_reducible repeat (first | apply Kd.N_alloc | apply Kd.N_drewN | apply Kd.N_drew)); exact Kd.N_mono HO403.out (fun _ hk => hk.2)⟩, ⟨by (with_reducible repeat (first | apply Kd.R_alloc | apply Kd.R_drewN | apply Kd.R_drew)); exact HO410.out⟩, ⟨by repeat (first | (with_reducible first | exact HB.out | apply below_alloc | apply pw_below_drewN | apply below_drew1) | exact HB.out)⟩⟩
  case round =>
    clear H'
    try clear p2
    try clear c8
    obtain ⟨x7_1, rfl, HA, HK1, HO_3, HO_6, HB⟩ := hrel
    cases gk with
    | zero => exact absurd HA.out (by simp [corporalaw27_StrategyDisjoint.l0])
    | succ k1 =>
      have H := HA.out
      clear HA
      simp only [corporalaw27_StrategyDisjoint.l0] at H
      by_cases c10 : x7_1 < (t408.length : Int)
      · rw [if_pos c10] at H
        have c10b0 : decide (x7_1 < (t408.length : Int)) = true := decide_eq_true c10
        clear c10
        obtain ⟨ji11, hji11⟩ : ∃ j_ : Int, (wrap64 (x7_1 - 1)) = j_ := ⟨_, rfl⟩
        replace H : (if 0 ≤ (ji11) then (if (ji11) < (t408.length : Int) then (if 0 ≤ x7_1 then (if ((rd_T40 t408 (ji11)).f1) > ((rd_T40 t408 x7_1).f0) then (some false) else (corporalaw27_StrategyDisjoint.l0 k1 t401 t405 t408 (wrap64 (x7_1 + 1)))) else (none)) else (none)) else (none)) = some r := by first | (rw [hji11] at H; exact H) | (simp only [hji11] at H ⊢; exact H)
        have hji11w : (IntKind.i64.wrap (x7_1 - 1)) = ji11 := (i64_w _).trans hji11
        by_cases c12 : 0 ≤ (ji11)
        · rw [if_pos c12] at H
          have c12b0 : decide (0 ≤ (ji11)) = true := decide_eq_true c12
          clear c12
          by_cases c13 : (ji11) < (t408.length : Int)
          · rw [if_pos c13] at H
            have c13b0 : decide ((ji11) < (t408.length : Int)) = true := decide_eq_true c13
            clear c13
            by_cases c14 : 0 ≤ x7_1
            · rw [if_pos c14] at H
              have c14b0 : decide (0 ≤ x7_1) = true := decide_eq_true c14
              clear c14
              by_cases c15 : ((rd_T40 t408 (ji11)).f1) > ((rd_T40 t408 x7_1).f0)
              · rw [if_pos c15] at H
                have c15b0 : decide (((rd_T40 t408 x7_1).f0) < ((rd_T40 t408 (ji11)).f1)) = true := decide_eq_true c15
                clear c15
                obtain rfl := Option.some.inj H
                obtain ⟨Ao16, co16, eo16⟩ := Kd.R_slice HO_6.out
                subst eo16
                have p411 : 0 ≤ ((ji11) : Int) := of_decide_eq_true (by first | (with_reducible assumption) | assumption)
                have q411 : (ji11) < (t408.length : Int) := of_decide_eq_true (by first | (with_reducible assumption) | assumption)
                obtain ⟨ad411, e411, hx411_0, hx411_1⟩ := at_T40 (Kd.R_reads' HO_6.out).2.2 (ji11) p411 q411
                cases e411
                replace p411 := eq_true p411
                replace q411 := eq_true q411
                have p412 : 0 ≤ (x7_1 : Int) := of_decide_eq_true (by first | (with_reducible assumption) | assumption)
                have q412 : x7_1 < (t408.length : Int) := of_decide_eq_true (by first | (with_reducible assumption) | assumption)
                obtain ⟨ad412, e412, hx412_0, hx412_1⟩ := at_T40 (Kd.R_reads' HO_6.out).2.2 x7_1 p412 q412
                obtain rfl : ad411 = ad412 := (by injection e412)
                replace p412 := eq_true p412
                replace q412 := eq_true q412
                go_wp2
                repeat (go_quiet (fail); try go_wp2)
                go_ret
                exact ⟨by first | rfl | (simp [errW_none, errW_some] <;> rfl) | (simp only [← hji11]; first | rfl | (simp [errW_none, errW_some] <;> rfl)) | (simp [*, errW_none, errW_some] <;> rfl), by repeat (first | (with_reducible first | exact HB.out | apply below_alloc | apply pw_below_drewN | apply below_drew1) | exact HB.out)⟩
              · rw [if_neg c15] at H
                have c15b0 : decide (((rd_T40 t408 x7_1).f0) < ((rd_T40 t408 (ji11)).f1)) = false := decide_eq_false c15
                clear c15
                have H' := Aside0.mk H
                clear H
                obtain ⟨Ao17, co17, eo17⟩ := Kd.R_slice HO_6.out
                subst eo17
                have p411 : 0 ≤ ((ji11) : Int) := of_decide_eq_true (by first | (with_reducible assumption) | assumption)
                have q411 : (ji11) < (t408.length : Int) := of_decide_eq_true (by first | (with_reducible assumption) | assumption)
                obtain ⟨ad411, e411, hx411_0, hx411_1⟩ := at_T40 (Kd.R_reads' HO_6.out).2.2 (ji11) p411 q411
                cases e411
                replace p411 := eq_true p411
                replace q411 := eq_true q411
                have p412 : 0 ≤ (x7_1 : Int) := of_decide_eq_true (by first | (with_reducible assumption) | assumption)
                have q412 : x7_1 < (t408.length : Int) := of_decide_eq_true (by first | (with_reducible assumption) | assumption)
                obtain ⟨ad412, e412, hx412_0, hx412_1⟩ := at_T40 (Kd.R_reads' HO_6.out).2.2 x7_1 p412 q412
                obtain rfl : ad411 = ad412 := (by injection e412)
                replace p412 := eq_true p412
                replace q412 := eq_true q412
                go_wp2
                repeat (go_quiet (fail); try go_wp2)
                go_roundg k1
                case measure => have := HK1.out; omega
                case rel => exact ⟨(wrap64 (x7_1 + 1)), (by first | rfl | (simp; done) | (simp [*]; done)), H', ⟨by have := HK1.out; omega⟩, ⟨by (with_reducible repeat (first | apply Kd.N_alloc | apply Kd.N_drewN | apply Kd.N_drew)); exact HO_3.out⟩, ⟨by (with_reducible repeat (first | apply Kd.R_alloc | apply Kd.R_drewN | apply Kd.R_drew)); exact HO_6.out⟩, ⟨by repeat (first | (with_reducible first | exact HB.out | apply below_alloc | apply pw_below_drewN | apply below_drew1) | exact HB.out)⟩⟩
            · rw [if_neg c14] at H
              exact absurd H (by simp)
          · rw [if_neg c13] at H
            exact absurd H (by simp)
        · rw [if_neg c12] at H
          exact absurd H (by simp)
      · rw [if_neg c10] at H
        have c10b0 : decide (x7_1 < (t408.length : Int)) = false := decide_eq_false c10
        clear c10
        have H' := Aside0.mk H
        clear H
        obtain ⟨Ao18, co18, eo18⟩ := Kd.R_slice HO_6.out
        subst eo18
        go_wp2
        repeat (go_quiet (fail); try go_wp2)
        go_loopg [42] k1 (fun kq v42 w' => ∃ (x42_2 : Int), v42 = .int .i64 x42_2 ∧ Aside0 (corporalaw27_StrategyDisjoint.l1 kq t405 t408 t401 (t401.length : Int) x42_2 = some r) ∧ Aside0 (kq ≤ k1) ∧ Aside0 (Kd.R k40 40 w' w.heap.size (fun _ => True) (.slice Ao18 t408.length co18) t408) ∧ Aside0 (Kd.N k38 38 w' w.heap.size (fun k_ => some k_ ≠ ((.slice Ao18 t408.length co18) : Value).ownBlock) (.slice Ao6 t401.length co6) t401) ∧ Aside0 (Below w.heap.size w w'))
        case atStart => exact ⟨(0), (by first | rfl | (simp; done) | (simp [*]; done)), H', ⟨Nat.le_refl _⟩, ⟨by (with_reducible repeat (first | apply Kd.R_alloc | apply Kd.R_drewN | apply Kd.R_drew)); exact HO_6.out⟩, ⟨by (with_reducible repeat (first | apply Kd.N_alloc | apply Kd.N_drewN | apply Kd.N_drew)); exact HO_3.out⟩, ⟨by repeat (first | (with_reducible first | exact HB.out | apply below_alloc | apply pw_below_drewN | apply below_drew1) | exact HB.out)⟩⟩
        case round =>
          clear H'
          try clear c1
          try clear p2
          try clear p4
          try clear q4
          try clear hx4
          try clear p6
          try clear c8
          try clear c10
          try clear c10b0
          try clear c12
          try clear c12b0
          try clear c13
          try clear c13b0
          try clear c14
          try clear c14b0
          try clear c15
          try clear c15b0
          try clear hx411_0
          try clear hx411_1
          try clear hx412_0
          try clear hx412_1
          try clear p2
          try clear p411
          try clear p412
          try clear q411
          try clear q412
          obtain ⟨x42_2, rfl, HA, HK2, HO_6, HO_40, HB⟩ := hrel
          cases gk with
          | zero => exact absurd HA.out (by simp [corporalaw27_StrategyDisjoint.l1])
          | succ k2 =>
            have H := HA.out
            clear HA
            simp only [corporalaw27_StrategyDisjoint.l1] at H
            by_cases c19 : x42_2 < (t401.length : Int)
            · rw [if_pos c19] at H
              have c19b0 : decide (x42_2 < (t401.length : Int)) = true := decide_eq_true c19
              clear c19
              by_cases c20 : 0 ≤ x42_2
              · rw [if_pos c20] at H
                have c20b0 : decide (0 ≤ x42_2) = true := decide_eq_true c20
                clear c20
                by_cases c21 : x42_2 < (t401.length : Int)
                · rw [if_pos c21] at H
                  have c21b0 : decide (x42_2 < (t401.length : Int)) = true := decide_eq_true c21
                  clear c21
                  have H' := Aside0.mk H
                  clear H
                  have p414 : 0 ≤ (x42_2 : Int) := of_decide_eq_true (by first | (with_reducible assumption) | assumption)
                  have q414 : x42_2 < (t401.length : Int) := of_decide_eq_true (by first | (with_reducible assumption) | assumption)
                  obtain ⟨ad414, A414_2, c414_2, e414, hx414_0, hx414_1, hx414_2, hl414_2, hi414_2⟩ := at_T38 (Kd.N_reads' HO_40.out).2.2 x42_2 p414 q414
                  cases e414
                  obtain ⟨ce414, hce414, hMe414, hcc414⟩ := Kd.N_get HO_40.out z38 x42_2 p414 (by first | exact q414 | exact of_decide_eq_true (by first | (with_reducible assumption) | assumption) | (have e_ := (Kd.N_reads' HO_40.out).1; omega))
                  obtain ⟨ua414_2, uc414_2, rfl, ul414_2, ge414_2⟩ := k38_openF hMe414
                  have hv414_2 := hcc414 2 _ rfl
                  rw [add_field _ _ 2 (by omega)] at hv414_2
                  replace hv414_2 := Option.some.inj (hv414_2.symm.trans hx414_2)
                  injection hv414_2 with hva_ hvn_ hvc_
                  rw [hva_] at ge414_2
                  rw [hvc_] at ul414_2
                  have HL414_2 := Aside0.mk (show Kd.V (Kd.int .i64) 3 _ w.heap.size _ _ ((rd_T38 t401 x42_2).f2) from Kd.V_mk ul414_2 ge414_2)
                  clear hva_ hvn_ hvc_ ge414_2 ul414_2
                  clear hcc414 hce414
                  have HR414_2 := Aside0.mk hi414_2
                  have HC414_2 := Aside0.mk hl414_2
                  clear hi414_2 hl414_2
                  replace p414 := eq_true p414
                  replace q414 := eq_true q414
                  go_wp2_with (first | ((with_reducible refine gate_dst (N := 9) rfl ?_); refine box_event ?hg (N := 9) ?hd (cs := #[.int .i64 0, .int .i64 0, .slice none 0 0]) (t := 38) ?hr ?_; (case hd => rfl); (case hg => rfl); (case hr => first | (go_simp; done) | (go_simp; rfl)); intro gb415 hg w22 hbox hb; have n0_ := Aside0.mk (Kd.R_below (by (with_reducible repeat (first | apply Kd.R_alloc | apply Kd.R_drewN | apply Kd.R_drew)); exact HO_6.out) hb); have n1_ := Aside0.mk (Kd.N_below (Kd.N_elderB (by (with_reducible repeat (first | apply Kd.N_alloc | apply Kd.N_drewN | apply Kd.N_drew)); exact HO_40.out) gb415 (Nat.le_of_eq hg.symm)) hb); have n2_ := Aside0.mk (Kd.V_below (Kd.V_elderB (by (with_reducible repeat (first | apply Kd.V_alloc | apply Kd.V_drewN | apply Kd.V_drew)); exact HL414_2.out) gb415 (Nat.le_of_eq hg.symm)) hb); have n3_ := Aside0.mk (Kd.C_below (by repeat (first | (with_reducible exact HR414_2.out) | (with_reducible refine Kd.C_alloc ?_ _) | (with_reducible refine Kd.C_drewN ?_ _) | (with_reducible refine Kd.C_drew ?_) | exact HR414_2.out)) hb); have n4_ := Aside0.mk (below_step (by repeat (first | (with_reducible first | exact HB.out | apply below_alloc | apply pw_below_drewN | apply below_drew1) | exact HB.out)) hb); have n5_ := Aside0.mk (hbox); have n6_ := Aside0.mk ((by rw [hg]; exact (below_size (by repeat (first | (with_reducible first | exact HB.out | apply below_alloc | apply pw_below_drewN | apply below_drew1) | exact HB.out))) : w.heap.size ≤ gb415)); have n7_ := Aside0.mk ((by rw [hg]; exact (below_size (by repeat (first | (with_reducible first | exact HB.out | apply below_alloc | apply pw_below_drewN | apply below_drew1) | exact HB.out))) : w.heap.size ≤ gb415)); clear HO_6; clear HO_40; clear HL414_2; clear HR414_2; clear HB; have HO_6 := n0_; have HO_40 := n1_; have HL414_2 := n2_; have HR414_2 := n3_; have HB := n4_; have BK415 := n5_; have GW415 := n6_; have GE415 := n7_; clear n0_ n1_ n2_ n3_ n4_ n5_ n6_ n7_; clear hb hbox hg; have hcz23_0 : w22.cell? ⟨gb415, 0, none⟩ = some (.int .i64 0) := (blk_cell BK415.out 0).trans rfl; have hcz23_1 : w22.cell? ⟨gb415, 1, none⟩ = some (.int .i64 0) := (blk_cell BK415.out 1).trans rfl; have hcz23_2 : w22.cell? ⟨gb415, 2, none⟩ = some (.slice none 0 0) := (blk_cell BK415.out 2).trans rfl; have hfz23_0 := blk_frozen BK415.out 0; have hfz23_1 := blk_frozen BK415.out 1; have hfz23_2 := blk_frozen BK415.out 2))
                  repeat (go_quiet (first | ((with_reducible refine gate_dst (N := 9) rfl ?_); refine box_event ?hg (N := 9) ?hd (cs := #[.int .i64 0, .int .i64 0, .slice none 0 0]) (t := 38) ?hr ?_; (case hd => rfl); (case hg => rfl); (case hr => first | (go_simp; done) | (go_simp; rfl)); intro gb415 hg w22 hbox hb; have n0_ := Aside0.mk (Kd.R_below (by (with_reducible repeat (first | apply Kd.R_alloc | apply Kd.R_drewN | apply Kd.R_drew)); exact HO_6.out) hb); have n1_ := Aside0.mk (Kd.N_below (Kd.N_elderB (by (with_reducible repeat (first | apply Kd.N_alloc | apply Kd.N_drewN | apply Kd.N_drew)); exact HO_40.out) gb415 (Nat.le_of_eq hg.symm)) hb); have n2_ := Aside0.mk (Kd.V_below (Kd.V_elderB (by (with_reducible repeat (first | apply Kd.V_alloc | apply Kd.V_drewN | apply Kd.V_drew)); exact HL414_2.out) gb415 (Nat.le_of_eq hg.symm)) hb); have n3_ := Aside0.mk (Kd.C_below (by repeat (first | (with_reducible exact HR414_2.out) | (with_reducible refine Kd.C_alloc ?_ _) | (with_reducible refine Kd.C_drewN ?_ _) | (with_reducible refine Kd.C_drew ?_) | exact HR414_2.out)) hb); have n4_ := Aside0.mk (below_step (by repeat (first | (with_reducible first | exact HB.out | apply below_alloc | apply pw_below_drewN | apply below_drew1) | exact HB.out)) hb); have n5_ := Aside0.mk (hbox); have n6_ := Aside0.mk ((by rw [hg]; exact (below_size (by repeat (first | (with_reducible first | exact HB.out | apply below_alloc | apply pw_below_drewN | apply below_drew1) | exact HB.out))) : w.heap.size ≤ gb415)); have n7_ := Aside0.mk ((by rw [hg]; exact (below_size (by repeat (first | (with_reducible first | exact HB.out | apply below_alloc | apply pw_below_drewN | apply below_drew1) | exact HB.out))) : w.heap.size ≤ gb415)); clear HO_6; clear HO_40; clear HL414_2; clear HR414_2; clear HB; have HO_6 := n0_; have HO_40 := n1_; have HL414_2 := n2_; have HR414_2 := n3_; have HB := n4_; have BK415 := n5_; have GW415 := n6_; have GE415 := n7_; clear n0_ n1_ n2_ n3_ n4_ n5_ n6_ n7_; clear hb hbox hg; have hcz23_0 : w22.cell? ⟨gb415, 0, none⟩ = some (.int .i64 0) := (blk_cell BK415.out 0).trans rfl; have hcz23_1 : w22.cell? ⟨gb415, 1, none⟩ = some (.int .i64 0) := (blk_cell BK415.out 1).trans rfl; have hcz23_2 : w22.cell? ⟨gb415, 2, none⟩ = some (.slice none 0 0) := (blk_cell BK415.out 2).trans rfl; have hfz23_0 := blk_frozen BK415.out 0; have hfz23_1 := blk_frozen BK415.out 1; have hfz23_2 := blk_frozen BK415.out 2)); try go_wp2_with (first | ((with_reducible refine gate_dst (N := 9) rfl ?_); refine box_event ?hg (N := 9) ?hd (cs := #[.int .i64 0, .int .i64 0, .slice none 0 0]) (t := 38) ?hr ?_; (case hd => rfl); (case hg => rfl); (case hr => first | (go_simp; done) | (go_simp; rfl)); intro gb415 hg w22 hbox hb; have n0_ := Aside0.mk (Kd.R_below (by (with_reducible repeat (first | apply Kd.R_alloc | apply Kd.R_drewN | apply Kd.R_drew)); exact HO_6.out) hb); have n1_ := Aside0.mk (Kd.N_below (Kd.N_elderB (by (with_reducible repeat (first | apply Kd.N_alloc | apply Kd.N_drewN | apply Kd.N_drew)); exact HO_40.out) gb415 (Nat.le_of_eq hg.symm)) hb); have n2_ := Aside0.mk (Kd.V_below (Kd.V_elderB (by (with_reducible repeat (first | apply Kd.V_alloc | apply Kd.V_drewN | apply Kd.V_drew)); exact HL414_2.out) gb415 (Nat.le_of_eq hg.symm)) hb); have n3_ := Aside0.mk (Kd.C_below (by repeat (first | (with_reducible exact HR414_2.out) | (with_reducible refine Kd.C_alloc ?_ _) | (with_reducible refine Kd.C_drewN ?_ _) | (with_reducible refine Kd.C_drew ?_) | exact HR414_2.out)) hb); have n4_ := Aside0.mk (below_step (by repeat (first | (with_reducible first | exact HB.out | apply below_alloc | apply pw_below_drewN | apply below_drew1) | exact HB.out)) hb); have n5_ := Aside0.mk (hbox); have n6_ := Aside0.mk ((by rw [hg]; exact (below_size (by repeat (first | (with_reducible first | exact HB.out | apply below_alloc | apply pw_below_drewN | apply below_drew1) | exact HB.out))) : w.heap.size ≤ gb415)); have n7_ := Aside0.mk ((by rw [hg]; exact (below_size (by repeat (first | (with_reducible first | exact HB.out | apply below_alloc | apply pw_below_drewN | apply below_drew1) | exact HB.out))) : w.heap.size ≤ gb415)); clear HO_6; clear HO_40; clear HL414_2; clear HR414_2; clear HB; have HO_6 := n0_; have HO_40 := n1_; have HL414_2 := n2_; have HR414_2 := n3_; have HB := n4_; have BK415 := n5_; have GW415 := n6_; have GE415 := n7_; clear n0_ n1_ n2_ n3_ n4_ n5_ n6_ n7_; clear hb hbox hg; have hcz23_0 : w22.cell? ⟨gb415, 0, none⟩ = some (.int .i64 0) := (blk_cell BK415.out 0).trans rfl; have hcz23_1 : w22.cell? ⟨gb415, 1, none⟩ = some (.int .i64 0) := (blk_cell BK415.out 1).trans rfl; have hcz23_2 : w22.cell? ⟨gb415, 2, none⟩ = some (.slice none 0 0) := (blk_cell BK415.out 2).trans rfl; have hfz23_0 := blk_frozen BK415.out 0; have hfz23_1 := blk_frozen BK415.out 1; have hfz23_2 := blk_frozen BK415.out 2)))
                  go_loopg [10, 48] k2 (fun kq v10 v48 w' => ∃ (x10_3 : Bool) (x48_3 : Int), v10 = .bool x10_3 ∧ v48 = .int .i64 x48_3 ∧ Aside0 (corporalaw27_StrategyDisjoint.l2 kq t405 t408 x10_3 t401 (t401.length : Int) x42_2 t408 (t408.length : Int) x48_3 ((rd_T38 t401 x42_2).f0) ((rd_T38 t401 x42_2).f1) ((rd_T38 t401 x42_2).f2) = some r) ∧ Aside0 (kq ≤ k2) ∧ Aside0 (Kd.R k40 40 w' w.heap.size (fun _ => True) (.slice Ao18 t408.length co18) t408) ∧ Aside0 (Kd.N k38 38 w' w.heap.size (fun k_ => some k_ ≠ ((.slice Ao18 t408.length co18) : Value).ownBlock ∧ some k_ ≠ ((.slice Ao18 t408.length co18) : Value).ownBlock ∧ k_ ≠ gb415) (.slice (some ad414) t401.length co6) t401) ∧ Aside0 (Kd.R k40 40 w' w.heap.size (fun _ => True) (.slice Ao18 t408.length co18) t408) ∧ Aside0 (w'.heap[gb415]? = some (.cells #[.int .i64 ((rd_T38 t401 x42_2).f0), .int .i64 ((rd_T38 t401 x42_2).f1), (.slice A414_2 ((rd_T38 t401 x42_2).f2).length c414_2)] 38 (0, 0))) ∧ Aside0 (Below w.heap.size w w'))
                  case atStart => exact ⟨(false), (0), (by first | rfl | (simp; done) | (simp [*]; done)), (by first | rfl | (simp; done) | (simp [*]; done)), H', ⟨Nat.le_refl _⟩, ⟨by (with_reducible repeat (first | apply Kd.R_alloc | apply Kd.R_drewN | apply Kd.R_drew)); exact Kd.R_mono (Kd.R_far (p := ⟨gb415, 2, none⟩) (Kd.R_far (p := ⟨gb415, 1, none⟩) (Kd.R_far (p := ⟨gb415, 0, none⟩) (Kd.R_types HO_6.out BK415.out (by decide)) (fun _ hk => hk.2) (.int .i64 ((rd_T38 t401 x42_2).f0))) (fun _ hk => hk.2) (.int .i64 ((rd_T38 t401 x42_2).f1))) (fun _ hk => hk.2) (.slice A414_2 ((rd_T38 t401 x42_2).f2).length c414_2)) (fun _ hk => trivial)⟩, ⟨by (with_reducible repeat (first | apply Kd.N_alloc | apply Kd.N_drewN | apply Kd.N_drew)); exact Kd.N_mono (Kd.N_far (p := ⟨gb415, 2, none⟩) (Kd.N_far (p := ⟨gb415, 1, none⟩) (Kd.N_far (p := ⟨gb415, 0, none⟩) (Kd.N_mono HO_40.out (fun k_ hk => (⟨hk, hk.2⟩ : _ ∧ k_ ≠ gb415))) (fun _ hk => hk.2) (.int .i64 ((rd_T38 t401 x42_2).f0))) (fun _ hk => hk.2) (.int .i64 ((rd_T38 t401 x42_2).f1))) (fun _ hk => hk.2) (.slice A414_2 ((rd_T38 t401 x42_2).f2).length c414_2)) (fun _ hk => ⟨hk.1.1, ⟨hk.1.1, hk.1.2⟩⟩)⟩, ⟨by (with_reducible repeat (first | apply Kd.R_alloc | apply Kd.R_drewN | apply Kd.R_drew)); exact Kd.R_mono (Kd.R_far (p := ⟨gb415, 2, none⟩) (Kd.R_far (p := ⟨gb415, 1, none⟩) (Kd.R_far (p := ⟨gb415, 0, none⟩) (Kd.R_types HO_6.out BK415.out (by decide)) (fun _ hk => hk.2) (.int .i64 ((rd_T38 t401 x42_2).f0))) (fun _ hk => hk.2) (.int .i64 ((rd_T38 t401 x42_2).f1))) (fun _ hk => hk.2) (.slice A414_2 ((rd_T38 t401 x42_2).f2).length c414_2)) (fun _ hk => trivial)⟩, ⟨by (with_reducible repeat (first | refine blk_drewN ?_ _ | refine blk_drew ?_ | refine blk_alloc ?_ _)); refine blk_put (cs := #[.int .i64 ((rd_T38 t401 x42_2).f0), .int .i64 ((rd_T38 t401 x42_2).f1), .slice none 0 0]) ?_ 2 _ rfl; (with_reducible repeat (first | refine blk_drewN ?_ _ | refine blk_drew ?_ | refine blk_alloc ?_ _)); refine blk_put (cs := #[.int .i64 ((rd_T38 t401 x42_2).f0), .int .i64 0, .slice none 0 0]) ?_ 1 _ rfl; (with_reducible repeat (first | refine blk_drewN ?_ _ | refine blk_drew ?_ | refine blk_alloc ?_ _)); refine blk_put (cs := #[.int .i64 0, .int .i64 0, .slice none 0 0]) ?_ 0 _ rfl; (with_reducible repeat (first | refine blk_drewN ?_ _ | refine blk_drew ?_ | refine blk_alloc ?_ _)); exact BK415.out⟩, ⟨by repeat (first | (with_reducible first | exact HB.out | apply below_alloc | apply pw_below_drewN | apply below_drew1 | refine below_set ?_ GE415.out) | exact HB.out)⟩⟩
                  case round =>
                    clear H'
                    try clear c1
                    try clear c2
                    try clear p2
                    try clear c4
                    try clear p4
                    try clear q4
                    try clear hx4
                    try clear p6
                    try clear c8
                    try clear c10
                    try clear c10b0
                    try clear c12
                    try clear c12b0
                    try clear c13
                    try clear c13b0
                    try clear c14
                    try clear c14b0
                    try clear c15
                    try clear c15b0
                    try clear c19
                    try clear c19b0
                    try clear c20
                    try clear c20b0
                    try clear c21
                    try clear c21b0
                    try clear hcz23_0
                    try clear hcz23_1
                    try clear hcz23_2
                    try clear hfz23_0
                    try clear hfz23_1
                    try clear hfz23_2
                    try clear hx411_0
                    try clear hx411_1
                    try clear hx412_0
                    try clear hx412_1
                    try clear hx414_0
                    try clear hx414_1
                    try clear hx414_2
                    try clear p2
                    try clear p4
                    try clear p411
                    try clear p412
                    try clear p414
                    try clear p6
                    try clear q4
                    try clear q411
                    try clear q412
                    try clear q414
                    obtain ⟨x10_3, x48_3, rfl, rfl, HA, HK3, HO_6, HO_40, HO_46, BK415, HB⟩ := hrel
                    cases gk with
                    | zero => exact absurd HA.out (by simp [corporalaw27_StrategyDisjoint.l2])
                    | succ k3 =>
                      have H := HA.out
                      clear HA
                      simp only [corporalaw27_StrategyDisjoint.l2] at H
                      by_cases c24 : x48_3 < (t408.length : Int)
                      · rw [if_pos c24] at H
                        have c24b0 : decide (x48_3 < (t408.length : Int)) = true := decide_eq_true c24
                        clear c24
                        by_cases c25 : 0 ≤ x48_3
                        · rw [if_pos c25] at H
                          have c25b0 : decide (0 ≤ x48_3) = true := decide_eq_true c25
                          clear c25
                          by_cases c26 : x48_3 < (t408.length : Int)
                          · rw [if_pos c26] at H
                            have c26b0 : decide (x48_3 < (t408.length : Int)) = true := decide_eq_true c26
                            clear c26
                            by_cases c27 : x10_3 = true
                            · subst c27
                              have H1 : (corporalaw27_StrategyDisjoint.l2 k3 t405 t408 true t401 (t401.length : Int) x42_2 t408 (t408.length : Int) (wrap64 (x48_3 + 1)) ((rd_T38 t401 x42_2).f0) ((rd_T38 t401 x42_2).f1) ((rd_T38 t401 x42_2).f2)) = some r := by rw [if_pos rfl] at H; exact H
                              clear H
                              have H := H1
                              clear H1
                              have H' := Aside0.mk H
                              clear H
                              have p416 : 0 ≤ (x48_3 : Int) := of_decide_eq_true (by first | (with_reducible assumption) | assumption)
                              have q416 : x48_3 < (t408.length : Int) := of_decide_eq_true (by first | (with_reducible assumption) | assumption)
                              obtain ⟨ad416, e416, hx416_0, hx416_1⟩ := at_T40 (Kd.R_reads' HO_46.out).2.2 x48_3 p416 q416
                              cases e416
                              replace p416 := eq_true p416
                              replace q416 := eq_true q416
                              go_wp2_with (first | ((with_reducible refine gate_dst (N := 12) rfl ?_); refine box_event ?hg (N := 12) ?hd (cs := #[.int .i64 0, .int .i64 0]) (t := 40) ?hr ?_; (case hd => rfl); (case hg => rfl); (case hr => first | (go_simp; done) | (go_simp; rfl)); intro gb417 hg w28 hbox hb; have n0_ := Aside0.mk (Kd.R_below (Kd.R_elderB (by (with_reducible repeat (first | apply Kd.R_alloc | apply Kd.R_drewN | apply Kd.R_drew)); exact HO_6.out) gb417 (Nat.le_of_eq hg.symm)) hb); have n1_ := Aside0.mk (Kd.N_below (Kd.N_elderB (by (with_reducible repeat (first | apply Kd.N_alloc | apply Kd.N_drewN | apply Kd.N_drew)); exact HO_40.out) gb417 (Nat.le_of_eq hg.symm)) hb); have n2_ := Aside0.mk (Kd.R_below (Kd.R_elderB (by (with_reducible repeat (first | apply Kd.R_alloc | apply Kd.R_drewN | apply Kd.R_drew)); exact HO_46.out) gb417 (Nat.le_of_eq hg.symm)) hb); have n3_ := Aside0.mk (blk_below (g := gb415) (o := .cells #[.int .i64 ((rd_T38 t401 x42_2).f0), .int .i64 ((rd_T38 t401 x42_2).f1), .slice A414_2 ((rd_T38 t401 x42_2).f2).length c414_2] 38 (0, 0)) (by (with_reducible repeat (first | refine blk_drewN ?_ _ | refine blk_drew ?_ | refine blk_alloc ?_ _)); exact BK415.out) hb); have n4_ := Aside0.mk (below_step (by repeat (first | (with_reducible first | exact HB.out | apply below_alloc | apply pw_below_drewN | apply below_drew1 | refine below_set ?_ GE415.out) | exact HB.out)) hb); have n5_ := Aside0.mk (hbox); have n6_ := Aside0.mk ((by rw [hg]; exact (below_size (by repeat (first | (with_reducible first | exact HB.out | apply below_alloc | apply pw_below_drewN | apply below_drew1 | refine below_set ?_ GE415.out) | exact HB.out))) : w.heap.size ≤ gb417)); have n7_ := Aside0.mk ((by rw [hg]; exact (below_size (by repeat (first | (with_reducible first | exact HB.out | apply below_alloc | apply pw_below_drewN | apply below_drew1 | refine below_set ?_ GE415.out) | exact HB.out))) : w.heap.size ≤ gb417)); have n8_ := Aside0.mk ((by rw [hg]; exact Nat.ne_of_lt (blk_lt (g := gb415) (o := .cells #[.int .i64 ((rd_T38 t401 x42_2).f0), .int .i64 ((rd_T38 t401 x42_2).f1), .slice A414_2 ((rd_T38 t401 x42_2).f2).length c414_2] 38 (0, 0)) (by (with_reducible repeat (first | refine blk_drewN ?_ _ | refine blk_drew ?_ | refine blk_alloc ?_ _)); exact BK415.out)) : gb415 ≠ gb417)); have n9_ := Aside0.mk ((by rw [hg]; exact Nat.ne_of_gt (blk_lt (g := gb415) (o := .cells #[.int .i64 ((rd_T38 t401 x42_2).f0), .int .i64 ((rd_T38 t401 x42_2).f1), .slice A414_2 ((rd_T38 t401 x42_2).f2).length c414_2] 38 (0, 0)) (by (with_reducible repeat (first | refine blk_drewN ?_ _ | refine blk_drew ?_ | refine blk_alloc ?_ _)); exact BK415.out)) : gb417 ≠ gb415)); clear HO_6; clear HO_40; clear HO_46; clear BK415; clear HB; have HO_6 := n0_; have HO_40 := n1_; have HO_46 := n2_; have BK415 := n3_; have HB := n4_; have BK417 := n5_; have GW417 := n6_; have GE417 := n7_; have NB415_417 := n8_; have NB417_415 := n9_; clear n0_ n1_ n2_ n3_ n4_ n5_ n6_ n7_ n8_ n9_; clear hb hbox hg; have hnb29 := NB417_415.out; have hnc29 := NB415_417.out; have hcz30_0 : w28.cell? ⟨gb417, 0, none⟩ = some (.int .i64 0) := (blk_cell BK417.out 0).trans rfl; have hcz30_1 : w28.cell? ⟨gb417, 1, none⟩ = some (.int .i64 0) := (blk_cell BK417.out 1).trans rfl; have hfz30_0 := blk_frozen BK417.out 0; have hfz30_1 := blk_frozen BK417.out 1))
                              repeat (go_quiet (first | ((with_reducible refine gate_dst (N := 12) rfl ?_); refine box_event ?hg (N := 12) ?hd (cs := #[.int .i64 0, .int .i64 0]) (t := 40) ?hr ?_; (case hd => rfl); (case hg => rfl); (case hr => first | (go_simp; done) | (go_simp; rfl)); intro gb417 hg w28 hbox hb; have n0_ := Aside0.mk (Kd.R_below (Kd.R_elderB (by (with_reducible repeat (first | apply Kd.R_alloc | apply Kd.R_drewN | apply Kd.R_drew)); exact HO_6.out) gb417 (Nat.le_of_eq hg.symm)) hb); have n1_ := Aside0.mk (Kd.N_below (Kd.N_elderB (by (with_reducible repeat (first | apply Kd.N_alloc | apply Kd.N_drewN | apply Kd.N_drew)); exact HO_40.out) gb417 (Nat.le_of_eq hg.symm)) hb); have n2_ := Aside0.mk (Kd.R_below (Kd.R_elderB (by (with_reducible repeat (first | apply Kd.R_alloc | apply Kd.R_drewN | apply Kd.R_drew)); exact HO_46.out) gb417 (Nat.le_of_eq hg.symm)) hb); have n3_ := Aside0.mk (blk_below (g := gb415) (o := .cells #[.int .i64 ((rd_T38 t401 x42_2).f0), .int .i64 ((rd_T38 t401 x42_2).f1), .slice A414_2 ((rd_T38 t401 x42_2).f2).length c414_2] 38 (0, 0)) (by (with_reducible repeat (first | refine blk_drewN ?_ _ | refine blk_drew ?_ | refine blk_alloc ?_ _)); exact BK415.out) hb); have n4_ := Aside0.mk (below_step (by repeat (first | (with_reducible first | exact HB.out | apply below_alloc | apply pw_below_drewN | apply below_drew1 | refine below_set ?_ GE415.out) | exact HB.out)) hb); have n5_ := Aside0.mk (hbox); have n6_ := Aside0.mk ((by rw [hg]; exact (below_size (by repeat (first | (with_reducible first | exact HB.out | apply below_alloc | apply pw_below_drewN | apply below_drew1 | refine below_set ?_ GE415.out) | exact HB.out))) : w.heap.size ≤ gb417)); have n7_ := Aside0.mk ((by rw [hg]; exact (below_size (by repeat (first | (with_reducible first | exact HB.out | apply below_alloc | apply pw_below_drewN | apply below_drew1 | refine below_set ?_ GE415.out) | exact HB.out))) : w.heap.size ≤ gb417)); have n8_ := Aside0.mk ((by rw [hg]; exact Nat.ne_of_lt (blk_lt (g := gb415) (o := .cells #[.int .i64 ((rd_T38 t401 x42_2).f0), .int .i64 ((rd_T38 t401 x42_2).f1), .slice A414_2 ((rd_T38 t401 x42_2).f2).length c414_2] 38 (0, 0)) (by (with_reducible repeat (first | refine blk_drewN ?_ _ | refine blk_drew ?_ | refine blk_alloc ?_ _)); exact BK415.out)) : gb415 ≠ gb417)); have n9_ := Aside0.mk ((by rw [hg]; exact Nat.ne_of_gt (blk_lt (g := gb415) (o := .cells #[.int .i64 ((rd_T38 t401 x42_2).f0), .int .i64 ((rd_T38 t401 x42_2).f1), .slice A414_2 ((rd_T38 t401 x42_2).f2).length c414_2] 38 (0, 0)) (by (with_reducible repeat (first | refine blk_drewN ?_ _ | refine blk_drew ?_ | refine blk_alloc ?_ _)); exact BK415.out)) : gb417 ≠ gb415)); clear HO_6; clear HO_40; clear HO_46; clear BK415; clear HB; have HO_6 := n0_; have HO_40 := n1_; have HO_46 := n2_; have BK415 := n3_; have HB := n4_; have BK417 := n5_; have GW417 := n6_; have GE417 := n7_; have NB415_417 := n8_; have NB417_415 := n9_; clear n0_ n1_ n2_ n3_ n4_ n5_ n6_ n7_ n8_ n9_; clear hb hbox hg; have hnb29 := NB417_415.out; have hnc29 := NB415_417.out; have hcz30_0 : w28.cell? ⟨gb417, 0, none⟩ = some (.int .i64 0) := (blk_cell BK417.out 0).trans rfl; have hcz30_1 : w28.cell? ⟨gb417, 1, none⟩ = some (.int .i64 0) := (blk_cell BK417.out 1).trans rfl; have hfz30_0 := blk_frozen BK417.out 0; have hfz30_1 := blk_frozen BK417.out 1)); try go_wp2_with (first | ((with_reducible refine gate_dst (N := 12) rfl ?_); refine box_event ?hg (N := 12) ?hd (cs := #[.int .i64 0, .int .i64 0]) (t := 40) ?hr ?_; (case hd => rfl); (case hg => rfl); (case hr => first | (go_simp; done) | (go_simp; rfl)); intro gb417 hg w28 hbox hb; have n0_ := Aside0.mk (Kd.R_below (Kd.R_elderB (by (with_reducible repeat (first | apply Kd.R_alloc | apply Kd.R_drewN | apply Kd.R_drew)); exact HO_6.out) gb417 (Nat.le_of_eq hg.symm)) hb); have n1_ := Aside0.mk (Kd.N_below (Kd.N_elderB (by (with_reducible repeat (first | apply Kd.N_alloc | apply Kd.N_drewN | apply Kd.N_drew)); exact HO_40.out) gb417 (Nat.le_of_eq hg.symm)) hb); have n2_ := Aside0.mk (Kd.R_below (Kd.R_elderB (by (with_reducible repeat (first | apply Kd.R_alloc | apply Kd.R_drewN | apply Kd.R_drew)); exact HO_46.out) gb417 (Nat.le_of_eq hg.symm)) hb); have n3_ := Aside0.mk (blk_below (g := gb415) (o := .cells #[.int .i64 ((rd_T38 t401 x42_2).f0), .int .i64 ((rd_T38 t401 x42_2).f1), .slice A414_2 ((rd_T38 t401 x42_2).f2).length c414_2] 38 (0, 0)) (by (with_reducible repeat (first | refine blk_drewN ?_ _ | refine blk_drew ?_ | refine blk_alloc ?_ _)); exact BK415.out) hb); have n4_ := Aside0.mk (below_step (by repeat (first | (with_reducible first | exact HB.out | apply below_alloc | apply pw_below_drewN | apply below_drew1 | refine below_set ?_ GE415.out) | exact HB.out)) hb); have n5_ := Aside0.mk (hbox); have n6_ := Aside0.mk ((by rw [hg]; exact (below_size (by repeat (first | (with_reducible first | exact HB.out | apply below_alloc | apply pw_below_drewN | apply below_drew1 | refine below_set ?_ GE415.out) | exact HB.out))) : w.heap.size ≤ gb417)); have n7_ := Aside0.mk ((by rw [hg]; exact (below_size (by repeat (first | (with_reducible first | exact HB.out | apply below_alloc | apply pw_below_drewN | apply below_drew1 | refine below_set ?_ GE415.out) | exact HB.out))) : w.heap.size ≤ gb417)); have n8_ := Aside0.mk ((by rw [hg]; exact Nat.ne_of_lt (blk_lt (g := gb415) (o := .cells #[.int .i64 ((rd_T38 t401 x42_2).f0), .int .i64 ((rd_T38 t401 x42_2).f1), .slice A414_2 ((rd_T38 t401 x42_2).f2).length c414_2] 38 (0, 0)) (by (with_reducible repeat (first | refine blk_drewN ?_ _ | refine blk_drew ?_ | refine blk_alloc ?_ _)); exact BK415.out)) : gb415 ≠ gb417)); have n9_ := Aside0.mk ((by rw [hg]; exact Nat.ne_of_gt (blk_lt (g := gb415) (o := .cells #[.int .i64 ((rd_T38 t401 x42_2).f0), .int .i64 ((rd_T38 t401 x42_2).f1), .slice A414_2 ((rd_T38 t401 x42_2).f2).length c414_2] 38 (0, 0)) (by (with_reducible repeat (first | refine blk_drewN ?_ _ | refine blk_drew ?_ | refine blk_alloc ?_ _)); exact BK415.out)) : gb417 ≠ gb415)); clear HO_6; clear HO_40; clear HO_46; clear BK415; clear HB; have HO_6 := n0_; have HO_40 := n1_; have HO_46 := n2_; have BK415 := n3_; have HB := n4_; have BK417 := n5_; have GW417 := n6_; have GE417 := n7_; have NB415_417 := n8_; have NB417_415 := n9_; clear n0_ n1_ n2_ n3_ n4_ n5_ n6_ n7_ n8_ n9_; clear hb hbox hg; have hnb29 := NB417_415.out; have hnc29 := NB415_417.out; have hcz30_0 : w28.cell? ⟨gb417, 0, none⟩ = some (.int .i64 0) := (blk_cell BK417.out 0).trans rfl; have hcz30_1 : w28.cell? ⟨gb417, 1, none⟩ = some (.int .i64 0) := (blk_cell BK417.out 1).trans rfl; have hfz30_0 := blk_frozen BK417.out 0; have hfz30_1 := blk_frozen BK417.out 1)))
                              go_roundg k3
                              case measure => have := HK1.out; have := HK2.out; have := HK3.out; omega
                              case rel => exact ⟨(true), (wrap64 (x48_3 + 1)), (by first | rfl | (simp; done) | (simp [*]; done)), (by first | rfl | (simp; done) | (simp [*]; done)), H', ⟨by have := HK1.out; have := HK2.out; have := HK3.out; omega⟩, ⟨by (with_reducible repeat (first | apply Kd.R_alloc | apply Kd.R_drewN | apply Kd.R_drew)); exact Kd.R_mono (Kd.R_far (p := ⟨gb417, 1, none⟩) (Kd.R_far (p := ⟨gb417, 0, none⟩) (Kd.R_mono HO_6.out (fun k_ hk => (⟨hk, hk.2⟩ : _ ∧ k_ ≠ gb417))) (fun _ hk => hk.2) (.int .i64 ((rd_T40 t408 x48_3).f0))) (fun _ hk => hk.2) (.int .i64 ((rd_T40 t408 x48_3).f1))) (fun _ hk => trivial)⟩, ⟨by (with_reducible repeat (first | apply Kd.N_alloc | apply Kd.N_drewN | apply Kd.N_drew)); exact Kd.N_mono (Kd.N_far (p := ⟨gb417, 1, none⟩) (Kd.N_far (p := ⟨gb417, 0, none⟩) (Kd.N_mono HO_40.out (fun k_ hk => (⟨hk, hk.2⟩ : _ ∧ k_ ≠ gb417))) (fun _ hk => hk.2) (.int .i64 ((rd_T40 t408 x48_3).f0))) (fun _ hk => hk.2) (.int .i64 ((rd_T40 t408 x48_3).f1))) (fun _ hk => ⟨hk.1.1.1, ⟨hk.1.1.2.1, hk.1.1.2.2⟩⟩)⟩, ⟨by (with_reducible repeat (first | apply Kd.R_alloc | apply Kd.R_drewN | apply Kd.R_drew)); exact Kd.R_mono (Kd.R_far (p := ⟨gb417, 1, none⟩) (Kd.R_far (p := ⟨gb417, 0, none⟩) (Kd.R_mono HO_46.out (fun k_ hk => (⟨hk, hk.2⟩ : _ ∧ k_ ≠ gb417))) (fun _ hk => hk.2) (.int .i64 ((rd_T40 t408 x48_3).f0))) (fun _ hk => hk.2) (.int .i64 ((rd_T40 t408 x48_3).f1))) (fun _ hk => trivial)⟩, ⟨by (with_reducible repeat (first | refine blk_drewN ?_ _ | refine blk_drew ?_ | refine blk_alloc ?_ _)); refine blk_far ?_ NB415_417.out _; (with_reducible repeat (first | refine blk_drewN ?_ _ | refine blk_drew ?_ | refine blk_alloc ?_ _)); refine blk_far ?_ NB415_417.out _; (with_reducible repeat (first | refine blk_drewN ?_ _ | refine blk_drew ?_ | refine blk_alloc ?_ _)); exact BK415.out⟩, ⟨by repeat (first | (with_reducible first | exact HB.out | apply below_alloc | apply pw_below_drewN | apply below_drew1 | refine below_set ?_ GE415.out | refine below_set ?_ GE417.out) | exact HB.out)⟩⟩
                            · replace c27 := Bool.eq_false_iff.mpr c27
                              subst c27
                              have H1 : (if ((rd_T40 t408 x48_3).f0) < ((rd_T38 t401 x42_2).f1) then (corporalaw27_StrategyDisjoint.l2 k3 t405 t408 (decide (((rd_T38 t401 x42_2).f0) < ((rd_T40 t408 x48_3).f1))) t401 (t401.length : Int) x42_2 t408 (t408.length : Int) (wrap64 (x48_3 + 1)) ((rd_T38 t401 x42_2).f0) ((rd_T38 t401 x42_2).f1) ((rd_T38 t401 x42_2).f2)) else (corporalaw27_StrategyDisjoint.l2 k3 t405 t408 false t401 (t401.length : Int) x42_2 t408 (t408.length : Int) (wrap64 (x48_3 + 1)) ((rd_T38 t401 x42_2).f0) ((rd_T38 t401 x42_2).f1) ((rd_T38 t401 x42_2).f2))) = some r := by rw [if_neg (show ¬ (false = true) by decide)] at H; exact H
                              clear H
                              have H := H1
                              clear H1
                              by_cases c31 : ((rd_T40 t408 x48_3).f0) < ((rd_T38 t401 x42_2).f1)
                              · rw [if_pos c31] at H
                                have c31b0 : decide (((rd_T40 t408 x48_3).f0) < ((rd_T38 t401 x42_2).f1)) = true := decide_eq_true c31
                                clear c31
                                have H' := Aside0.mk H
                                clear H
                                have p416 : 0 ≤ (x48_3 : Int) := of_decide_eq_true (by first | (with_reducible assumption) | assumption)
                                have q416 : x48_3 < (t408.length : Int) := of_decide_eq_true (by first | (with_reducible assumption) | assumption)
                                obtain ⟨ad416, e416, hx416_0, hx416_1⟩ := at_T40 (Kd.R_reads' HO_46.out).2.2 x48_3 p416 q416
                                cases e416
                                replace p416 := eq_true p416
                                replace q416 := eq_true q416
                                go_wp2_with (first | ((with_reducible refine gate_dst (N := 12) rfl ?_); refine box_event ?hg (N := 12) ?hd (cs := #[.int .i64 0, .int .i64 0]) (t := 40) ?hr ?_; (case hd => rfl); (case hg => rfl); (case hr => first | (go_simp; done) | (go_simp; rfl)); intro gb417 hg w32 hbox hb; have n0_ := Aside0.mk (Kd.R_below (Kd.R_elderB (by (with_reducible repeat (first | apply Kd.R_alloc | apply Kd.R_drewN | apply Kd.R_drew)); exact HO_6.out) gb417 (Nat.le_of_eq hg.symm)) hb); have n1_ := Aside0.mk (Kd.N_below (Kd.N_elderB (by (with_reducible repeat (first | apply Kd.N_alloc | apply Kd.N_drewN | apply Kd.N_drew)); exact HO_40.out) gb417 (Nat.le_of_eq hg.symm)) hb); have n2_ := Aside0.mk (Kd.R_below (Kd.R_elderB (by (with_reducible repeat (first | apply Kd.R_alloc | apply Kd.R_drewN | apply Kd.R_drew)); exact HO_46.out) gb417 (Nat.le_of_eq hg.symm)) hb); have n3_ := Aside0.mk (blk_below (g := gb415) (o := .cells #[.int .i64 ((rd_T38 t401 x42_2).f0), .int .i64 ((rd_T38 t401 x42_2).f1), .slice A414_2 ((rd_T38 t401 x42_2).f2).length c414_2] 38 (0, 0)) (by (with_reducible repeat (first | refine blk_drewN ?_ _ | refine blk_drew ?_ | refine blk_alloc ?_ _)); exact BK415.out) hb); have n4_ := Aside0.mk (below_step (by repeat (first | (with_reducible first | exact HB.out | apply below_alloc | apply pw_below_drewN | apply below_drew1 | refine below_set ?_ GE415.out) | exact HB.out)) hb); have n5_ := Aside0.mk (hbox); have n6_ := Aside0.mk ((by rw [hg]; exact (below_size (by repeat (first | (with_reducible first | exact HB.out | apply below_alloc | apply pw_below_drewN | apply below_drew1 | refine below_set ?_ GE415.out) | exact HB.out))) : w.heap.size ≤ gb417)); have n7_ := Aside0.mk ((by rw [hg]; exact (below_size (by repeat (first | (with_reducible first | exact HB.out | apply below_alloc | apply pw_below_drewN | apply below_drew1 | refine below_set ?_ GE415.out) | exact HB.out))) : w.heap.size ≤ gb417)); have n8_ := Aside0.mk ((by rw [hg]; exact Nat.ne_of_lt (blk_lt (g := gb415) (o := .cells #[.int .i64 ((rd_T38 t401 x42_2).f0), .int .i64 ((rd_T38 t401 x42_2).f1), .slice A414_2 ((rd_T38 t401 x42_2).f2).length c414_2] 38 (0, 0)) (by (with_reducible repeat (first | refine blk_drewN ?_ _ | refine blk_drew ?_ | refine blk_alloc ?_ _)); exact BK415.out)) : gb415 ≠ gb417)); have n9_ := Aside0.mk ((by rw [hg]; exact Nat.ne_of_gt (blk_lt (g := gb415) (o := .cells #[.int .i64 ((rd_T38 t401 x42_2).f0), .int .i64 ((rd_T38 t401 x42_2).f1), .slice A414_2 ((rd_T38 t401 x42_2).f2).length c414_2] 38 (0, 0)) (by (with_reducible repeat (first | refine blk_drewN ?_ _ | refine blk_drew ?_ | refine blk_alloc ?_ _)); exact BK415.out)) : gb417 ≠ gb415)); clear HO_6; clear HO_40; clear HO_46; clear BK415; clear HB; have HO_6 := n0_; have HO_40 := n1_; have HO_46 := n2_; have BK415 := n3_; have HB := n4_; have BK417 := n5_; have GW417 := n6_; have GE417 := n7_; have NB415_417 := n8_; have NB417_415 := n9_; clear n0_ n1_ n2_ n3_ n4_ n5_ n6_ n7_ n8_ n9_; clear hb hbox hg; have hnb33 := NB417_415.out; have hnc33 := NB415_417.out; have hcz34_0 : w32.cell? ⟨gb417, 0, none⟩ = some (.int .i64 0) := (blk_cell BK417.out 0).trans rfl; have hcz34_1 : w32.cell? ⟨gb417, 1, none⟩ = some (.int .i64 0) := (blk_cell BK417.out 1).trans rfl; have hfz34_0 := blk_frozen BK417.out 0; have hfz34_1 := blk_frozen BK417.out 1; have hcz35_0 : w32.cell? ⟨gb415, 0, none⟩ = some (.int .i64 ((rd_T38 t401 x42_2).f0)) := (blk_cell BK415.out 0).trans rfl; have hcz35_1 : w32.cell? ⟨gb415, 1, none⟩ = some (.int .i64 ((rd_T38 t401 x42_2).f1)) := (blk_cell BK415.out 1).trans rfl; have hcz35_2 : w32.cell? ⟨gb415, 2, none⟩ = some (.slice A414_2 ((rd_T38 t401 x42_2).f2).length c414_2) := (blk_cell BK415.out 2).trans rfl; have hfz35_0 := blk_frozen BK415.out 0; have hfz35_1 := blk_frozen BK415.out 1; have hfz35_2 := blk_frozen BK415.out 2))
                                repeat (go_quiet (first | ((with_reducible refine gate_dst (N := 12) rfl ?_); refine box_event ?hg (N := 12) ?hd (cs := #[.int .i64 0, .int .i64 0]) (t := 40) ?hr ?_; (case hd => rfl); (case hg => rfl); (case hr => first | (go_simp; done) | (go_simp; rfl)); intro gb417 hg w32 hbox hb; have n0_ := Aside0.mk (Kd.R_below (Kd.R_elderB (by (with_reducible repeat (first | apply Kd.R_alloc | apply Kd.R_drewN | apply Kd.R_drew)); exact HO_6.out) gb417 (Nat.le_of_eq hg.symm)) hb); have n1_ := Aside0.mk (Kd.N_below (Kd.N_elderB (by (with_reducible repeat (first | apply Kd.N_alloc | apply Kd.N_drewN | apply Kd.N_drew)); exact HO_40.out) gb417 (Nat.le_of_eq hg.symm)) hb); have n2_ := Aside0.mk (Kd.R_below (Kd.R_elderB (by (with_reducible repeat (first | apply Kd.R_alloc | apply Kd.R_drewN | apply Kd.R_drew)); exact HO_46.out) gb417 (Nat.le_of_eq hg.symm)) hb); have n3_ := Aside0.mk (blk_below (g := gb415) (o := .cells #[.int .i64 ((rd_T38 t401 x42_2).f0), .int .i64 ((rd_T38 t401 x42_2).f1), .slice A414_2 ((rd_T38 t401 x42_2).f2).length c414_2] 38 (0, 0)) (by (with_reducible repeat (first | refine blk_drewN ?_ _ | refine blk_drew ?_ | refine blk_alloc ?_ _)); exact BK415.out) hb); have n4_ := Aside0.mk (below_step (by repeat (first | (with_reducible first | exact HB.out | apply below_alloc | apply pw_below_drewN | apply below_drew1 | refine below_set ?_ GE415.out) | exact HB.out)) hb); have n5_ := Aside0.mk (hbox); have n6_ := Aside0.mk ((by rw [hg]; exact (below_size (by repeat (first | (with_reducible first | exact HB.out | apply below_alloc | apply pw_below_drewN | apply below_drew1 | refine below_set ?_ GE415.out) | exact HB.out))) : w.heap.size ≤ gb417)); have n7_ := Aside0.mk ((by rw [hg]; exact (below_size (by repeat (first | (with_reducible first | exact HB.out | apply below_alloc | apply pw_below_drewN | apply below_drew1 | refine below_set ?_ GE415.out) | exact HB.out))) : w.heap.size ≤ gb417)); have n8_ := Aside0.mk ((by rw [hg]; exact Nat.ne_of_lt (blk_lt (g := gb415) (o := .cells #[.int .i64 ((rd_T38 t401 x42_2).f0), .int .i64 ((rd_T38 t401 x42_2).f1), .slice A414_2 ((rd_T38 t401 x42_2).f2).length c414_2] 38 (0, 0)) (by (with_reducible repeat (first | refine blk_drewN ?_ _ | refine blk_drew ?_ | refine blk_alloc ?_ _)); exact BK415.out)) : gb415 ≠ gb417)); have n9_ := Aside0.mk ((by rw [hg]; exact Nat.ne_of_gt (blk_lt (g := gb415) (o := .cells #[.int .i64 ((rd_T38 t401 x42_2).f0), .int .i64 ((rd_T38 t401 x42_2).f1), .slice A414_2 ((rd_T38 t401 x42_2).f2).length c414_2] 38 (0, 0)) (by (with_reducible repeat (first | refine blk_drewN ?_ _ | refine blk_drew ?_ | refine blk_alloc ?_ _)); exact BK415.out)) : gb417 ≠ gb415)); clear HO_6; clear HO_40; clear HO_46; clear BK415; clear HB; have HO_6 := n0_; have HO_40 := n1_; have HO_46 := n2_; have BK415 := n3_; have HB := n4_; have BK417 := n5_; have GW417 := n6_; have GE417 := n7_; have NB415_417 := n8_; have NB417_415 := n9_; clear n0_ n1_ n2_ n3_ n4_ n5_ n6_ n7_ n8_ n9_; clear hb hbox hg; have hnb33 := NB417_415.out; have hnc33 := NB415_417.out; have hcz34_0 : w32.cell? ⟨gb417, 0, none⟩ = some (.int .i64 0) := (blk_cell BK417.out 0).trans rfl; have hcz34_1 : w32.cell? ⟨gb417, 1, none⟩ = some (.int .i64 0) := (blk_cell BK417.out 1).trans rfl; have hfz34_0 := blk_frozen BK417.out 0; have hfz34_1 := blk_frozen BK417.out 1; have hcz35_0 : w32.cell? ⟨gb415, 0, none⟩ = some (.int .i64 ((rd_T38 t401 x42_2).f0)) := (blk_cell BK415.out 0).trans rfl; have hcz35_1 : w32.cell? ⟨gb415, 1, none⟩ = some (.int .i64 ((rd_T38 t401 x42_2).f1)) := (blk_cell BK415.out 1).trans rfl; have hcz35_2 : w32.cell? ⟨gb415, 2, none⟩ = some (.slice A414_2 ((rd_T38 t401 x42_2).f2).length c414_2) := (blk_cell BK415.out 2).trans rfl; have hfz35_0 := blk_frozen BK415.out 0; have hfz35_1 := blk_frozen BK415.out 1; have hfz35_2 := blk_frozen BK415.out 2)); try go_wp2_with (first | ((with_reducible refine gate_dst (N := 12) rfl ?_); refine box_event ?hg (N := 12) ?hd (cs := #[.int .i64 0, .int .i64 0]) (t := 40) ?hr ?_; (case hd => rfl); (case hg => rfl); (case hr => first | (go_simp; done) | (go_simp; rfl)); intro gb417 hg w32 hbox hb; have n0_ := Aside0.mk (Kd.R_below (Kd.R_elderB (by (with_reducible repeat (first | apply Kd.R_alloc | apply Kd.R_drewN | apply Kd.R_drew)); exact HO_6.out) gb417 (Nat.le_of_eq hg.symm)) hb); have n1_ := Aside0.mk (Kd.N_below (Kd.N_elderB (by (with_reducible repeat (first | apply Kd.N_alloc | apply Kd.N_drewN | apply Kd.N_drew)); exact HO_40.out) gb417 (Nat.le_of_eq hg.symm)) hb); have n2_ := Aside0.mk (Kd.R_below (Kd.R_elderB (by (with_reducible repeat (first | apply Kd.R_alloc | apply Kd.R_drewN | apply Kd.R_drew)); exact HO_46.out) gb417 (Nat.le_of_eq hg.symm)) hb); have n3_ := Aside0.mk (blk_below (g := gb415) (o := .cells #[.int .i64 ((rd_T38 t401 x42_2).f0), .int .i64 ((rd_T38 t401 x42_2).f1), .slice A414_2 ((rd_T38 t401 x42_2).f2).length c414_2] 38 (0, 0)) (by (with_reducible repeat (first | refine blk_drewN ?_ _ | refine blk_drew ?_ | refine blk_alloc ?_ _)); exact BK415.out) hb); have n4_ := Aside0.mk (below_step (by repeat (first | (with_reducible first | exact HB.out | apply below_alloc | apply pw_below_drewN | apply below_drew1 | refine below_set ?_ GE415.out) | exact HB.out)) hb); have n5_ := Aside0.mk (hbox); have n6_ := Aside0.mk ((by rw [hg]; exact (below_size (by repeat (first | (with_reducible first | exact HB.out | apply below_alloc | apply pw_below_drewN | apply below_drew1 | refine below_set ?_ GE415.out) | exact HB.out))) : w.heap.size ≤ gb417)); have n7_ := Aside0.mk ((by rw [hg]; exact (below_size (by repeat (first | (with_reducible first | exact HB.out | apply below_alloc | apply pw_below_drewN | apply below_drew1 | refine below_set ?_ GE415.out) | exact HB.out))) : w.heap.size ≤ gb417)); have n8_ := Aside0.mk ((by rw [hg]; exact Nat.ne_of_lt (blk_lt (g := gb415) (o := .cells #[.int .i64 ((rd_T38 t401 x42_2).f0), .int .i64 ((rd_T38 t401 x42_2).f1), .slice A414_2 ((rd_T38 t401 x42_2).f2).length c414_2] 38 (0, 0)) (by (with_reducible repeat (first | refine blk_drewN ?_ _ | refine blk_drew ?_ | refine blk_alloc ?_ _)); exact BK415.out)) : gb415 ≠ gb417)); have n9_ := Aside0.mk ((by rw [hg]; exact Nat.ne_of_gt (blk_lt (g := gb415) (o := .cells #[.int .i64 ((rd_T38 t401 x42_2).f0), .int .i64 ((rd_T38 t401 x42_2).f1), .slice A414_2 ((rd_T38 t401 x42_2).f2).length c414_2] 38 (0, 0)) (by (with_reducible repeat (first | refine blk_drewN ?_ _ | refine blk_drew ?_ | refine blk_alloc ?_ _)); exact BK415.out)) : gb417 ≠ gb415)); clear HO_6; clear HO_40; clear HO_46; clear BK415; clear HB; have HO_6 := n0_; have HO_40 := n1_; have HO_46 := n2_; have BK415 := n3_; have HB := n4_; have BK417 := n5_; have GW417 := n6_; have GE417 := n7_; have NB415_417 := n8_; have NB417_415 := n9_; clear n0_ n1_ n2_ n3_ n4_ n5_ n6_ n7_ n8_ n9_; clear hb hbox hg; have hnb33 := NB417_415.out; have hnc33 := NB415_417.out; have hcz34_0 : w32.cell? ⟨gb417, 0, none⟩ = some (.int .i64 0) := (blk_cell BK417.out 0).trans rfl; have hcz34_1 : w32.cell? ⟨gb417, 1, none⟩ = some (.int .i64 0) := (blk_cell BK417.out 1).trans rfl; have hfz34_0 := blk_frozen BK417.out 0; have hfz34_1 := blk_frozen BK417.out 1; have hcz35_0 : w32.cell? ⟨gb415, 0, none⟩ = some (.int .i64 ((rd_T38 t401 x42_2).f0)) := (blk_cell BK415.out 0).trans rfl; have hcz35_1 : w32.cell? ⟨gb415, 1, none⟩ = some (.int .i64 ((rd_T38 t401 x42_2).f1)) := (blk_cell BK415.out 1).trans rfl; have hcz35_2 : w32.cell? ⟨gb415, 2, none⟩ = some (.slice A414_2 ((rd_T38 t401 x42_2).f2).length c414_2) := (blk_cell BK415.out 2).trans rfl; have hfz35_0 := blk_frozen BK415.out 0; have hfz35_1 := blk_frozen BK415.out 1; have hfz35_2 := blk_frozen BK415.out 2)))
                                go_roundg k3
                                case measure => have := HK1.out; have := HK2.out; have := HK3.out; omega
                                case rel => exact ⟨(decide (((rd_T38 t401 x42_2).f0) < ((rd_T40 t408 x48_3).f1))), (wrap64 (x48_3 + 1)), (by first | rfl | (simp; done) | (simp [*]; done)), (by first | rfl | (simp; done) | (simp [*]; done)), H', ⟨by have := HK1.out; have := HK2.out; have := HK3.out; omega⟩, ⟨by (with_reducible repeat (first | apply Kd.R_alloc | apply Kd.R_drewN | apply Kd.R_drew)); exact Kd.R_mono (Kd.R_far (p := ⟨gb417, 1, none⟩) (Kd.R_far (p := ⟨gb417, 0, none⟩) (Kd.R_mono HO_6.out (fun k_ hk => (⟨hk, hk.2⟩ : _ ∧ k_ ≠ gb417))) (fun _ hk => hk.2) (.int .i64 ((rd_T40 t408 x48_3).f0))) (fun _ hk => hk.2) (.int .i64 ((rd_T40 t408 x48_3).f1))) (fun _ hk => trivial)⟩, ⟨by (with_reducible repeat (first | apply Kd.N_alloc | apply Kd.N_drewN | apply Kd.N_drew)); exact Kd.N_mono (Kd.N_far (p := ⟨gb417, 1, none⟩) (Kd.N_far (p := ⟨gb417, 0, none⟩) (Kd.N_mono HO_40.out (fun k_ hk => (⟨hk, hk.2⟩ : _ ∧ k_ ≠ gb417))) (fun _ hk => hk.2) (.int .i64 ((rd_T40 t408 x48_3).f0))) (fun _ hk => hk.2) (.int .i64 ((rd_T40 t408 x48_3).f1))) (fun _ hk => ⟨hk.1.1.1, ⟨hk.1.1.2.1, hk.1.1.2.2⟩⟩)⟩, ⟨by (with_reducible repeat (first | apply Kd.R_alloc | apply Kd.R_drewN | apply Kd.R_drew)); exact Kd.R_mono (Kd.R_far (p := ⟨gb417, 1, none⟩) (Kd.R_far (p := ⟨gb417, 0, none⟩) (Kd.R_mono HO_46.out (fun k_ hk => (⟨hk, hk.2⟩ : _ ∧ k_ ≠ gb417))) (fun _ hk => hk.2) (.int .i64 ((rd_T40 t408 x48_3).f0))) (fun _ hk => hk.2) (.int .i64 ((rd_T40 t408 x48_3).f1))) (fun _ hk => trivial)⟩, ⟨by (with_reducible repeat (first | refine blk_drewN ?_ _ | refine blk_drew ?_ | refine blk_alloc ?_ _)); refine blk_far ?_ NB415_417.out _; (with_reducible repeat (first | refine blk_drewN ?_ _ | refine blk_drew ?_ | refine blk_alloc ?_ _)); refine blk_far ?_ NB415_417.out _; (with_reducible repeat (first | refine blk_drewN ?_ _ | refine blk_drew ?_ | refine blk_alloc ?_ _)); exact BK415.out⟩, ⟨by repeat (first | (with_reducible first | exact HB.out | apply below_alloc | apply pw_below_drewN | apply below_drew1 | refine below_set ?_ GE415.out | refine below_set ?_ GE417.out) | exact HB.out)⟩⟩
                              · rw [if_neg c31] at H
                                have c31b0 : decide (((rd_T40 t408 x48_3).f0) < ((rd_T38 t401 x42_2).f1)) = false := decide_eq_false c31
                                clear c31
                                have H' := Aside0.mk H
                                clear H
                                have p416 : 0 ≤ (x48_3 : Int) := of_decide_eq_true (by first | (with_reducible assumption) | assumption)
                                have q416 : x48_3 < (t408.length : Int) := of_decide_eq_true (by first | (with_reducible assumption) | assumption)
                                obtain ⟨ad416, e416, hx416_0, hx416_1⟩ := at_T40 (Kd.R_reads' HO_46.out).2.2 x48_3 p416 q416
                                cases e416
                                replace p416 := eq_true p416
                                replace q416 := eq_true q416
                                go_wp2_with (first | ((with_reducible refine gate_dst (N := 12) rfl ?_); refine box_event ?hg (N := 12) ?hd (cs := #[.int .i64 0, .int .i64 0]) (t := 40) ?hr ?_; (case hd => rfl); (case hg => rfl); (case hr => first | (go_simp; done) | (go_simp; rfl)); intro gb417 hg w36 hbox hb; have n0_ := Aside0.mk (Kd.R_below (Kd.R_elderB (by (with_reducible repeat (first | apply Kd.R_alloc | apply Kd.R_drewN | apply Kd.R_drew)); exact HO_6.out) gb417 (Nat.le_of_eq hg.symm)) hb); have n1_ := Aside0.mk (Kd.N_below (Kd.N_elderB (by (with_reducible repeat (first | apply Kd.N_alloc | apply Kd.N_drewN | apply Kd.N_drew)); exact HO_40.out) gb417 (Nat.le_of_eq hg.symm)) hb); have n2_ := Aside0.mk (Kd.R_below (Kd.R_elderB (by (with_reducible repeat (first | apply Kd.R_alloc | apply Kd.R_drewN | apply Kd.R_drew)); exact HO_46.out) gb417 (Nat.le_of_eq hg.symm)) hb); have n3_ := Aside0.mk (blk_below (g := gb415) (o := .cells #[.int .i64 ((rd_T38 t401 x42_2).f0), .int .i64 ((rd_T38 t401 x42_2).f1), .slice A414_2 ((rd_T38 t401 x42_2).f2).length c414_2] 38 (0, 0)) (by (with_reducible repeat (first | refine blk_drewN ?_ _ | refine blk_drew ?_ | refine blk_alloc ?_ _)); exact BK415.out) hb); have n4_ := Aside0.mk (below_step (by repeat (first | (with_reducible first | exact HB.out | apply below_alloc | apply pw_below_drewN | apply below_drew1 | refine below_set ?_ GE415.out) | exact HB.out)) hb); have n5_ := Aside0.mk (hbox); have n6_ := Aside0.mk ((by rw [hg]; exact (below_size (by repeat (first | (with_reducible first | exact HB.out | apply below_alloc | apply pw_below_drewN | apply below_drew1 | refine below_set ?_ GE415.out) | exact HB.out))) : w.heap.size ≤ gb417)); have n7_ := Aside0.mk ((by rw [hg]; exact (below_size (by repeat (first | (with_reducible first | exact HB.out | apply below_alloc | apply pw_below_drewN | apply below_drew1 | refine below_set ?_ GE415.out) | exact HB.out))) : w.heap.size ≤ gb417)); have n8_ := Aside0.mk ((by rw [hg]; exact Nat.ne_of_lt (blk_lt (g := gb415) (o := .cells #[.int .i64 ((rd_T38 t401 x42_2).f0), .int .i64 ((rd_T38 t401 x42_2).f1), .slice A414_2 ((rd_T38 t401 x42_2).f2).length c414_2] 38 (0, 0)) (by (with_reducible repeat (first | refine blk_drewN ?_ _ | refine blk_drew ?_ | refine blk_alloc ?_ _)); exact BK415.out)) : gb415 ≠ gb417)); have n9_ := Aside0.mk ((by rw [hg]; exact Nat.ne_of_gt (blk_lt (g := gb415) (o := .cells #[.int .i64 ((rd_T38 t401 x42_2).f0), .int .i64 ((rd_T38 t401 x42_2).f1), .slice A414_2 ((rd_T38 t401 x42_2).f2).length c414_2] 38 (0, 0)) (by (with_reducible repeat (first | refine blk_drewN ?_ _ | refine blk_drew ?_ | refine blk_alloc ?_ _)); exact BK415.out)) : gb417 ≠ gb415)); clear HO_6; clear HO_40; clear HO_46; clear BK415; clear HB; have HO_6 := n0_; have HO_40 := n1_; have HO_46 := n2_; have BK415 := n3_; have HB := n4_; have BK417 := n5_; have GW417 := n6_; have GE417 := n7_; have NB415_417 := n8_; have NB417_415 := n9_; clear n0_ n1_ n2_ n3_ n4_ n5_ n6_ n7_ n8_ n9_; clear hb hbox hg; have hnb37 := NB417_415.out; have hnc37 := NB415_417.out; have hcz38_0 : w36.cell? ⟨gb417, 0, none⟩ = some (.int .i64 0) := (blk_cell BK417.out 0).trans rfl; have hcz38_1 : w36.cell? ⟨gb417, 1, none⟩ = some (.int .i64 0) := (blk_cell BK417.out 1).trans rfl; have hfz38_0 := blk_frozen BK417.out 0; have hfz38_1 := blk_frozen BK417.out 1; have hcz39_0 : w36.cell? ⟨gb415, 0, none⟩ = some (.int .i64 ((rd_T38 t401 x42_2).f0)) := (blk_cell BK415.out 0).trans rfl; have hcz39_1 : w36.cell? ⟨gb415, 1, none⟩ = some (.int .i64 ((rd_T38 t401 x42_2).f1)) := (blk_cell BK415.out 1).trans rfl; have hcz39_2 : w36.cell? ⟨gb415, 2, none⟩ = some (.slice A414_2 ((rd_T38 t401 x42_2).f2).length c414_2) := (blk_cell BK415.out 2).trans rfl; have hfz39_0 := blk_frozen BK415.out 0; have hfz39_1 := blk_frozen BK415.out 1; have hfz39_2 := blk_frozen BK415.out 2))
                                repeat (go_quiet (first | ((with_reducible refine gate_dst (N := 12) rfl ?_); refine box_event ?hg (N := 12) ?hd (cs := #[.int .i64 0, .int .i64 0]) (t := 40) ?hr ?_; (case hd => rfl); (case hg => rfl); (case hr => first | (go_simp; done) | (go_simp; rfl)); intro gb417 hg w36 hbox hb; have n0_ := Aside0.mk (Kd.R_below (Kd.R_elderB (by (with_reducible repeat (first | apply Kd.R_alloc | apply Kd.R_drewN | apply Kd.R_drew)); exact HO_6.out) gb417 (Nat.le_of_eq hg.symm)) hb); have n1_ := Aside0.mk (Kd.N_below (Kd.N_elderB (by (with_reducible repeat (first | apply Kd.N_alloc | apply Kd.N_drewN | apply Kd.N_drew)); exact HO_40.out) gb417 (Nat.le_of_eq hg.symm)) hb); have n2_ := Aside0.mk (Kd.R_below (Kd.R_elderB (by (with_reducible repeat (first | apply Kd.R_alloc | apply Kd.R_drewN | apply Kd.R_drew)); exact HO_46.out) gb417 (Nat.le_of_eq hg.symm)) hb); have n3_ := Aside0.mk (blk_below (g := gb415) (o := .cells #[.int .i64 ((rd_T38 t401 x42_2).f0), .int .i64 ((rd_T38 t401 x42_2).f1), .slice A414_2 ((rd_T38 t401 x42_2).f2).length c414_2] 38 (0, 0)) (by (with_reducible repeat (first | refine blk_drewN ?_ _ | refine blk_drew ?_ | refine blk_alloc ?_ _)); exact BK415.out) hb); have n4_ := Aside0.mk (below_step (by repeat (first | (with_reducible first | exact HB.out | apply below_alloc | apply pw_below_drewN | apply below_drew1 | refine below_set ?_ GE415.out) | exact HB.out)) hb); have n5_ := Aside0.mk (hbox); have n6_ := Aside0.mk ((by rw [hg]; exact (below_size (by repeat (first | (with_reducible first | exact HB.out | apply below_alloc | apply pw_below_drewN | apply below_drew1 | refine below_set ?_ GE415.out) | exact HB.out))) : w.heap.size ≤ gb417)); have n7_ := Aside0.mk ((by rw [hg]; exact (below_size (by repeat (first | (with_reducible first | exact HB.out | apply below_alloc | apply pw_below_drewN | apply below_drew1 | refine below_set ?_ GE415.out) | exact HB.out))) : w.heap.size ≤ gb417)); have n8_ := Aside0.mk ((by rw [hg]; exact Nat.ne_of_lt (blk_lt (g := gb415) (o := .cells #[.int .i64 ((rd_T38 t401 x42_2).f0), .int .i64 ((rd_T38 t401 x42_2).f1), .slice A414_2 ((rd_T38 t401 x42_2).f2).length c414_2] 38 (0, 0)) (by (with_reducible repeat (first | refine blk_drewN ?_ _ | refine blk_drew ?_ | refine blk_alloc ?_ _)); exact BK415.out)) : gb415 ≠ gb417)); have n9_ := Aside0.mk ((by rw [hg]; exact Nat.ne_of_gt (blk_lt (g := gb415) (o := .cells #[.int .i64 ((rd_T38 t401 x42_2).f0), .int .i64 ((rd_T38 t401 x42_2).f1), .slice A414_2 ((rd_T38 t401 x42_2).f2).length c414_2] 38 (0, 0)) (by (with_reducible repeat (first | refine blk_drewN ?_ _ | refine blk_drew ?_ | refine blk_alloc ?_ _)); exact BK415.out)) : gb417 ≠ gb415)); clear HO_6; clear HO_40; clear HO_46; clear BK415; clear HB; have HO_6 := n0_; have HO_40 := n1_; have HO_46 := n2_; have BK415 := n3_; have HB := n4_; have BK417 := n5_; have GW417 := n6_; have GE417 := n7_; have NB415_417 := n8_; have NB417_415 := n9_; clear n0_ n1_ n2_ n3_ n4_ n5_ n6_ n7_ n8_ n9_; clear hb hbox hg; have hnb37 := NB417_415.out; have hnc37 := NB415_417.out; have hcz38_0 : w36.cell? ⟨gb417, 0, none⟩ = some (.int .i64 0) := (blk_cell BK417.out 0).trans rfl; have hcz38_1 : w36.cell? ⟨gb417, 1, none⟩ = some (.int .i64 0) := (blk_cell BK417.out 1).trans rfl; have hfz38_0 := blk_frozen BK417.out 0; have hfz38_1 := blk_frozen BK417.out 1; have hcz39_0 : w36.cell? ⟨gb415, 0, none⟩ = some (.int .i64 ((rd_T38 t401 x42_2).f0)) := (blk_cell BK415.out 0).trans rfl; have hcz39_1 : w36.cell? ⟨gb415, 1, none⟩ = some (.int .i64 ((rd_T38 t401 x42_2).f1)) := (blk_cell BK415.out 1).trans rfl; have hcz39_2 : w36.cell? ⟨gb415, 2, none⟩ = some (.slice A414_2 ((rd_T38 t401 x42_2).f2).length c414_2) := (blk_cell BK415.out 2).trans rfl; have hfz39_0 := blk_frozen BK415.out 0; have hfz39_1 := blk_frozen BK415.out 1; have hfz39_2 := blk_frozen BK415.out 2)); try go_wp2_with (first | ((with_reducible refine gate_dst (N := 12) rfl ?_); refine box_event ?hg (N := 12) ?hd (cs := #[.int .i64 0, .int .i64 0]) (t := 40) ?hr ?_; (case hd => rfl); (case hg => rfl); (case hr => first | (go_simp; done) | (go_simp; rfl)); intro gb417 hg w36 hbox hb; have n0_ := Aside0.mk (Kd.R_below (Kd.R_elderB (by (with_reducible repeat (first | apply Kd.R_alloc | apply Kd.R_drewN | apply Kd.R_drew)); exact HO_6.out) gb417 (Nat.le_of_eq hg.symm)) hb); have n1_ := Aside0.mk (Kd.N_below (Kd.N_elderB (by (with_reducible repeat (first | apply Kd.N_alloc | apply Kd.N_drewN | apply Kd.N_drew)); exact HO_40.out) gb417 (Nat.le_of_eq hg.symm)) hb); have n2_ := Aside0.mk (Kd.R_below (Kd.R_elderB (by (with_reducible repeat (first | apply Kd.R_alloc | apply Kd.R_drewN | apply Kd.R_drew)); exact HO_46.out) gb417 (Nat.le_of_eq hg.symm)) hb); have n3_ := Aside0.mk (blk_below (g := gb415) (o := .cells #[.int .i64 ((rd_T38 t401 x42_2).f0), .int .i64 ((rd_T38 t401 x42_2).f1), .slice A414_2 ((rd_T38 t401 x42_2).f2).length c414_2] 38 (0, 0)) (by (with_reducible repeat (first | refine blk_drewN ?_ _ | refine blk_drew ?_ | refine blk_alloc ?_ _)); exact BK415.out) hb); have n4_ := Aside0.mk (below_step (by repeat (first | (with_reducible first | exact HB.out | apply below_alloc | apply pw_below_drewN | apply below_drew1 | refine below_set ?_ GE415.out) | exact HB.out)) hb); have n5_ := Aside0.mk (hbox); have n6_ := Aside0.mk ((by rw [hg]; exact (below_size (by repeat (first | (with_reducible first | exact HB.out | apply below_alloc | apply pw_below_drewN | apply below_drew1 | refine below_set ?_ GE415.out) | exact HB.out))) : w.heap.size ≤ gb417)); have n7_ := Aside0.mk ((by rw [hg]; exact (below_size (by repeat (first | (with_reducible first | exact HB.out | apply below_alloc | apply pw_below_drewN | apply below_drew1 | refine below_set ?_ GE415.out) | exact HB.out))) : w.heap.size ≤ gb417)); have n8_ := Aside0.mk ((by rw [hg]; exact Nat.ne_of_lt (blk_lt (g := gb415) (o := .cells #[.int .i64 ((rd_T38 t401 x42_2).f0), .int .i64 ((rd_T38 t401 x42_2).f1), .slice A414_2 ((rd_T38 t401 x42_2).f2).length c414_2] 38 (0, 0)) (by (with_reducible repeat (first | refine blk_drewN ?_ _ | refine blk_drew ?_ | refine blk_alloc ?_ _)); exact BK415.out)) : gb415 ≠ gb417)); have n9_ := Aside0.mk ((by rw [hg]; exact Nat.ne_of_gt (blk_lt (g := gb415) (o := .cells #[.int .i64 ((rd_T38 t401 x42_2).f0), .int .i64 ((rd_T38 t401 x42_2).f1), .slice A414_2 ((rd_T38 t401 x42_2).f2).length c414_2] 38 (0, 0)) (by (with_reducible repeat (first | refine blk_drewN ?_ _ | refine blk_drew ?_ | refine blk_alloc ?_ _)); exact BK415.out)) : gb417 ≠ gb415)); clear HO_6; clear HO_40; clear HO_46; clear BK415; clear HB; have HO_6 := n0_; have HO_40 := n1_; have HO_46 := n2_; have BK415 := n3_; have HB := n4_; have BK417 := n5_; have GW417 := n6_; have GE417 := n7_; have NB415_417 := n8_; have NB417_415 := n9_; clear n0_ n1_ n2_ n3_ n4_ n5_ n6_ n7_ n8_ n9_; clear hb hbox hg; have hnb37 := NB417_415.out; have hnc37 := NB415_417.out; have hcz38_0 : w36.cell? ⟨gb417, 0, none⟩ = some (.int .i64 0) := (blk_cell BK417.out 0).trans rfl; have hcz38_1 : w36.cell? ⟨gb417, 1, none⟩ = some (.int .i64 0) := (blk_cell BK417.out 1).trans rfl; have hfz38_0 := blk_frozen BK417.out 0; have hfz38_1 := blk_frozen BK417.out 1; have hcz39_0 : w36.cell? ⟨gb415, 0, none⟩ = some (.int .i64 ((rd_T38 t401 x42_2).f0)) := (blk_cell BK415.out 0).trans rfl; have hcz39_1 : w36.cell? ⟨gb415, 1, none⟩ = some (.int .i64 ((rd_T38 t401 x42_2).f1)) := (blk_cell BK415.out 1).trans rfl; have hcz39_2 : w36.cell? ⟨gb415, 2, none⟩ = some (.slice A414_2 ((rd_T38 t401 x42_2).f2).length c414_2) := (blk_cell BK415.out 2).trans rfl; have hfz39_0 := blk_frozen BK415.out 0; have hfz39_1 := blk_frozen BK415.out 1; have hfz39_2 := blk_frozen BK415.out 2)))
                                go_roundg k3
                                case measure => have := HK1.out; have := HK2.out; have := HK3.out; omega
                                case rel => exact ⟨(false), (wrap64 (x48_3 + 1)), (by first | rfl | (simp; done) | (simp [*]; done)), (by first | rfl | (simp; done) | (simp [*]; done)), H', ⟨by have := HK1.out; have := HK2.out; have := HK3.out; omega⟩, ⟨by (with_reducible repeat (first | apply Kd.R_alloc | apply Kd.R_drewN | apply Kd.R_drew)); exact Kd.R_mono (Kd.R_far (p := ⟨gb417, 1, none⟩) (Kd.R_far (p := ⟨gb417, 0, none⟩) (Kd.R_mono HO_6.out (fun k_ hk => (⟨hk, hk.2⟩ : _ ∧ k_ ≠ gb417))) (fun _ hk => hk.2) (.int .i64 ((rd_T40 t408 x48_3).f0))) (fun _ hk => hk.2) (.int .i64 ((rd_T40 t408 x48_3).f1))) (fun _ hk => trivial)⟩, ⟨by (with_reducible repeat (first | apply Kd.N_alloc | apply Kd.N_drewN | apply Kd.N_drew)); exact Kd.N_mono (Kd.N_far (p := ⟨gb417, 1, none⟩) (Kd.N_far (p := ⟨gb417, 0, none⟩) (Kd.N_mono HO_40.out (fun k_ hk => (⟨hk, hk.2⟩ : _ ∧ k_ ≠ gb417))) (fun _ hk => hk.2) (.int .i64 ((rd_T40 t408 x48_3).f0))) (fun _ hk => hk.2) (.int .i64 ((rd_T40 t408 x48_3).f1))) (fun _ hk => ⟨hk.1.1.1, ⟨hk.1.1.2.1, hk.1.1.2.2⟩⟩)⟩, ⟨by (with_reducible repeat (first | apply Kd.R_alloc | apply Kd.R_drewN | apply Kd.R_drew)); exact Kd.R_mono (Kd.R_far (p := ⟨gb417, 1, none⟩) (Kd.R_far (p := ⟨gb417, 0, none⟩) (Kd.R_mono HO_46.out (fun k_ hk => (⟨hk, hk.2⟩ : _ ∧ k_ ≠ gb417))) (fun _ hk => hk.2) (.int .i64 ((rd_T40 t408 x48_3).f0))) (fun _ hk => hk.2) (.int .i64 ((rd_T40 t408 x48_3).f1))) (fun _ hk => trivial)⟩, ⟨by (with_reducible repeat (first | refine blk_drewN ?_ _ | refine blk_drew ?_ | refine blk_alloc ?_ _)); refine blk_far ?_ NB415_417.out _; (with_reducible repeat (first | refine blk_drewN ?_ _ | refine blk_drew ?_ | refine blk_alloc ?_ _)); refine blk_far ?_ NB415_417.out _; (with_reducible repeat (first | refine blk_drewN ?_ _ | refine blk_drew ?_ | refine blk_alloc ?_ _)); exact BK415.out⟩, ⟨by repeat (first | (with_reducible first | exact HB.out | apply below_alloc | apply pw_below_drewN | apply below_drew1 | refine below_set ?_ GE415.out | refine below_set ?_ GE417.out) | exact HB.out)⟩⟩
                          · rw [if_neg c26] at H
                            exact absurd H (by simp)
                        · rw [if_neg c25] at H
                          exact absurd H (by simp)
                      · rw [if_neg c24] at H
                        have c24b0 : decide (x48_3 < (t408.length : Int)) = false := decide_eq_false c24
                        clear c24
                        by_cases c40 : x10_3 = true
                        · subst c40
                          have H1 : (corporalaw27_StrategyDisjoint.l1 k3 t405 t408 t401 (t401.length : Int) (wrap64 (x42_2 + 1))) = some r := by rw [if_pos rfl] at H; exact H
                          clear H
                          have H := H1
                          clear H1
                          have H' := Aside0.mk H
                          clear H
                          go_wp2
                          repeat (go_quiet (fail); try go_wp2)
                          go_roundg k3
                          case measure => have := HK1.out; have := HK2.out; have := HK3.out; omega
                          case rel => exact ⟨(wrap64 (x42_2 + 1)), (by first | rfl | (simp; done) | (simp [*]; done)), H', ⟨by have := HK1.out; have := HK2.out; have := HK3.out; omega⟩, ⟨by (with_reducible repeat (first | apply Kd.R_alloc | apply Kd.R_drewN | apply Kd.R_drew)); exact HO_6.out⟩, ⟨by (with_reducible repeat (first | apply Kd.N_alloc | apply Kd.N_drewN | apply Kd.N_drew)); exact Kd.N_mono HO_40.out (fun _ hk => hk.1)⟩, ⟨by repeat (first | (with_reducible first | exact HB.out | apply below_alloc | apply pw_below_drewN | apply below_drew1 | refine below_set ?_ GE415.out) | exact HB.out)⟩⟩
                        · replace c40 := Bool.eq_false_iff.mpr c40
                          subst c40
                          have H1 : (some false) = some r := by rw [if_neg (show ¬ (false = true) by decide)] at H; exact H
                          clear H
                          have H := H1
                          clear H1
                          obtain rfl := Option.some.inj H
                          go_wp2
                          repeat (go_quiet (fail); try go_wp2)
                          go_ret
                          exact ⟨by first | rfl | (simp [errW_none, errW_some] <;> rfl) | (simp [*, errW_none, errW_some] <;> rfl), by repeat (first | (with_reducible first | exact HB.out | apply below_alloc | apply pw_below_drewN | apply below_drew1 | refine below_set ?_ GE415.out) | exact HB.out)⟩
                · rw [if_neg c21] at H
                  exact absurd H (by simp)
              · rw [if_neg c20] at H
                exact absurd H (by simp)
            · rw [if_neg c19] at H
              have c19b0 : decide (x42_2 < (t401.length : Int)) = false := decide_eq_false c19
              clear c19
              by_cases c41 : t405 = 0
              · rw [if_pos c41] at H
                have c41b0 : (t405 == 0) = true := beq_iff_eq.mpr c41
                have c41b1 : (t405 != 0) = false := bne_eq_false_iff_eq.mpr c41
                clear c41
                replace H := Option.bind_eq_some_iff.mp H
                obtain ⟨t413, A420, H⟩ := H
                replace H : (some t413) = some r := H
                have A42 := Aside0.mk A420
                clear A420
                obtain rfl := Option.some.inj H
                go_wp2_with (first | (go_at_call 18; (with_reducible refine (corporalaw27_known.calls k2  t413 _ A42.out).mono ?_); rintro e w43 ⟨rfl, hb⟩; have n0_ := Aside0.mk (Kd.R_below (by (with_reducible repeat (first | apply Kd.R_alloc | apply Kd.R_drewN | apply Kd.R_drew)); exact HO_6.out) hb); have n1_ := Aside0.mk (Kd.N_below (by (with_reducible repeat (first | apply Kd.N_alloc | apply Kd.N_drewN | apply Kd.N_drew)); exact HO_40.out) hb); have n2_ := Aside0.mk (below_step (by repeat (first | (with_reducible first | exact HB.out | apply below_alloc | apply pw_below_drewN | apply below_drew1) | exact HB.out)) hb); clear HO_6; clear HO_40; clear HB; have HO_6 := n0_; have HO_40 := n1_; have HB := n2_; clear n0_ n1_ n2_; (try clear hb); (try clear hb2); (try clear hk); (try clear hi)))
                repeat (go_quiet (first | (go_at_call 18; (with_reducible refine (corporalaw27_known.calls k2  t413 _ A42.out).mono ?_); rintro e w43 ⟨rfl, hb⟩; have n0_ := Aside0.mk (Kd.R_below (by (with_reducible repeat (first | apply Kd.R_alloc | apply Kd.R_drewN | apply Kd.R_drew)); exact HO_6.out) hb); have n1_ := Aside0.mk (Kd.N_below (by (with_reducible repeat (first | apply Kd.N_alloc | apply Kd.N_drewN | apply Kd.N_drew)); exact HO_40.out) hb); have n2_ := Aside0.mk (below_step (by repeat (first | (with_reducible first | exact HB.out | apply below_alloc | apply pw_below_drewN | apply below_drew1) | exact HB.out)) hb); clear HO_6; clear HO_40; clear HB; have HO_6 := n0_; have HO_40 := n1_; have HB := n2_; clear n0_ n1_ n2_; (try clear hb); (try clear hb2); (try clear hk); (try clear hi))); try go_wp2_with (first | (go_at_call 18; (with_reducible refine (corporalaw27_known.calls k2  t413 _ A42.out).mono ?_); rintro e w43 ⟨rfl, hb⟩; have n0_ := Aside0.mk (Kd.R_below (by (with_reducible repeat (first | apply Kd.R_alloc | apply Kd.R_drewN | apply Kd.R_drew)); exact HO_6.out) hb); have n1_ := Aside0.mk (Kd.N_below (by (with_reducible repeat (first | apply Kd.N_alloc | apply Kd.N_drewN | apply Kd.N_drew)); exact HO_40.out) hb); have n2_ := Aside0.mk (below_step (by repeat (first | (with_reducible first | exact HB.out | apply below_alloc | apply pw_below_drewN | apply below_drew1) | exact HB.out)) hb); clear HO_6; clear HO_40; clear HB; have HO_6 := n0_; have HO_40 := n1_; have HB := n2_; clear n0_ n1_ n2_; (try clear hb); (try clear hb2); (try clear hk); (try clear hi))))
                go_ret
                exact ⟨by first | rfl | (simp [errW_none, errW_some] <;> rfl) | (simp [*, errW_none, errW_some] <;> rfl), by repeat (first | (with_reducible first | exact HB.out | apply below_alloc | apply pw_below_drewN | apply below_drew1) | exact HB.out)⟩
              · rw [if_neg c41] at H
                have c41b0 : (t405 == 0) = false := beq_eq_false_iff_ne.mpr c41
                have c41b1 : (t405 != 0) = true := bne_iff_ne.mpr c41
                obtain rfl := Option.some.inj H
                go_wp2
                repeat (go_quiet (fail); try go_wp2)
                go_ret
                exact ⟨by first | rfl | (simp [errW_none, errW_some] <;> rfl) | (simp [*, errW_none, errW_some] <;> rfl), by repeat (first | (with_reducible first | exact HB.out | apply below_alloc | apply pw_below_drewN | apply below_drew1) | exact HB.out)⟩

/-- THE ONE PURE STATEMENT of corporalaw27_StrategyDisjoint: yours. -/
def corporalaw27_StrategyDisjoint.Pure : Prop := ∀ (l0 : List Int), l0.length ≤ maxLen → l0.length * 8 ≤ 140737488351232 → (∀ x ∈ l0, (Lit.int .i64 x).wf = true) → ∃ k, corporalaw27_StrategyDisjoint.f k l0 = some true
theorem corporalaw27_StrategyDisjoint.walk (P : corporalaw27_StrategyDisjoint.Pure) (a0 : Option Addr) (len0 cap0 : Nat) (z0 : List Int) (w : World) (w0 : (a0 = none ∧ len0 = 0 ∧ cap0 = 0 ∧ z0 = []) ∨ ∃ x, a0 = some x ∧ len0 ≤ cap0 ∧ cap0 ≤ maxLen ∧ z0.length = cap0 ∧ (∀ i, i < z0.length → w.cell? (x.add i) = some (.int .i64 (z0.getD i 0))) ∧ ∀ n ∈ z0, (Lit.int .i64 n).wf = true) (y0 : len0 * 8 ≤ 140737488351232) :
    Calls Try.prog 8 #[.slice a0 len0 cap0] w fun e w' => e = .returned (.bool true) ∧ Below w.heap.size w w' := by
  obtain ⟨l0, rfl, hr0, hm0, hw0, hc0⟩ := ReadsInt.ofRowC w0
  obtain ⟨k, h⟩ := P l0 hm0 y0 hw0
  refine (corporalaw27_StrategyDisjoint.calls k _ _ l0 true w (Kd.C_of_reads (d := (0 : Int)) (h1 := fun _ => rfl) hr0) hc0 h).mono ?_
  rintro e w' ⟨rfl, hd⟩
  exact ⟨rfl, hd⟩

end Go.Proofs.Ytmmdlkeemafanaa.Q
