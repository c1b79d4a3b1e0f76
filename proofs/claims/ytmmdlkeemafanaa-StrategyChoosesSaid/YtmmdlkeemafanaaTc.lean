import Derived.Test.YtmmdlkeemafanaaQx0
import Derived.Test.YtmmdlkeemafanaaQx1
import Derived.Test.YtmmdlkeemafanaaTa
import Derived.Test.YtmmdlkeemafanaaTb
import Derived.Test.YtmmdlkeemafanaaQb
import Derived.Test.YtmmdlkeemafanaaQj
import Derived.Test.YtmmdlkeemafanaaQl
import Derived.Test.YtmmdlkeemafanaaQs
import Derived.Test.YtmmdlkeemafanaaQp
import Derived.Test.YtmmdlkeemafanaaQr
namespace Go.Proofs.Ytmmdlkeemafanaa.Q
open Go.RowKit Go.Proofs.YtmmdlkeemafanaaW.PrintWords Go.Proofs.YtmmdlkeemafanaaW.PrintLast Go.Proofs.YtmmdlkeemafanaaW.PrintMore
attribute [local go_sem] max2_int min2_int max_two min_two max_three min_three max_four min_four   -- for this text's walks alone
set_option linter.unusedVariables false
set_option linter.unusedSimpArgs false

attribute [local go_sem high] eqA40

/-! ### corporalaw27_StrategyChooses: function 3 -/
def corporalaw27_StrategyChooses.f (k : Nat) (l0 : List Int) (a1 : Int) : Option (Bool) := (corporalaw27_list.f k l0).bind fun t454 => ((corporamade_Mod.f a1 4).bind fun t457 => ((strategy_Choose.f k t457 t454).bind fun bt458 => ((corporaref27_Choose.f k t457 t454).bind fun bt462 => (if bt458.2 = bt462.2 then ((corporaref24_Same.f k bt458.1 bt462.1).bind fun t466 => (if t466 = true then ((strategy_Spans.f k t454).bind fun t467 => ((corporaref27_Spans.f k t454).bind fun t470 => ((corporaref27_Same.f k t467 t470).bind fun t473 => (if t473 = true then ((corporalaw27_known.f k).bind fun t474 => (some t474)) else none)))) else none)) else none))))
theorem corporalaw27_StrategyChooses.mono : ∀ a0 a1 k, LeO (corporalaw27_StrategyChooses.f k a0 a1) (corporalaw27_StrategyChooses.f (k + 1) a0 a1) := by
  intro a0 a1 k
  unfold corporalaw27_StrategyChooses.f
  repeat' first
      | (with_reducible exact corporalaw27_known.mono _)
      | (with_reducible exact corporalaw27_list.mono _ _)
      | (with_reducible exact corporaref24_Same.mono _ _ _)
      | (with_reducible exact corporaref27_Choose.mono _ _ _)
      | (with_reducible exact corporaref27_Same.mono _ _ _)
      | (with_reducible exact corporaref27_Spans.mono _ _)
      | (with_reducible exact strategy_Choose.mono _ _ _)
      | (with_reducible exact strategy_Spans.mono _ _)
      | (with_reducible exact LeO.refl _)
      | (with_reducible exact LeO.none _)
      | (with_reducible refine LeO.ite ?_ ?_)
      | (with_reducible refine LeO.bind ?_ (fun _ => ?_))
      | exact corporalaw27_known.mono _
      | exact corporalaw27_list.mono _ _
      | exact corporaref24_Same.mono _ _ _
      | exact corporaref27_Choose.mono _ _ _
      | exact corporaref27_Same.mono _ _ _
      | exact corporaref27_Spans.mono _ _
      | exact strategy_Choose.mono _ _ _
      | exact strategy_Spans.mono _ _
      | exact LeO.none _
      | refine LeO.ite ?_ ?_
      | refine LeO.bind ?_ (fun _ => ?_)
set_option maxHeartbeats 8000000 in
set_option maxRecDepth 100000 in
theorem corporalaw27_StrategyChooses.calls (k : Nat) (A0 : Option Addr) (c0 : Nat) (l0 : List Int) (a1 : Int) (r : Bool) (w : World) (hr0 : Kd.C (Kd.int .i64) w A0 l0.length l0) (hc0 : l0.length ≤ c0) (h : corporalaw27_StrategyChooses.f k l0 a1 = some r) :
    Calls Try.prog 3 #[.slice A0 l0.length c0, .int .i64 a1] w fun e w' => e = .returned (.bool r) ∧ Below w.heap.size w w' := by
  have HR0 := Aside0.mk hr0
  have HC0 := Aside0.mk hc0
  clear hr0 hc0
  have HB := Aside0.mk (Below.refl w.heap.size w)
  have H : ((corporalaw27_list.f k l0).bind fun t454 => ((corporamade_Mod.f a1 4).bind fun t457 => ((strategy_Choose.f k t457 t454).bind fun bt458 => ((corporaref27_Choose.f k t457 t454).bind fun bt462 => (if bt458.2 = bt462.2 then ((corporaref24_Same.f k bt458.1 bt462.1).bind fun t466 => (if t466 = true then ((strategy_Spans.f k t454).bind fun t467 => ((corporaref27_Spans.f k t454).bind fun t470 => ((corporaref27_Same.f k t467 t470).bind fun t473 => (if t473 = true then ((corporalaw27_known.f k).bind fun t474 => (some t474)) else none)))) else none)) else none))))) = some r := h
  clear h
  replace H := Option.bind_eq_some_iff.mp H
  obtain ⟨t454, A30, H⟩ := H
  replace H : ((corporamade_Mod.f a1 4).bind fun t457 => ((strategy_Choose.f k t457 t454).bind fun bt458 => ((corporaref27_Choose.f k t457 t454).bind fun bt462 => (if bt458.2 = bt462.2 then ((corporaref24_Same.f k bt458.1 bt462.1).bind fun t466 => (if t466 = true then ((strategy_Spans.f k t454).bind fun t467 => ((corporaref27_Spans.f k t454).bind fun t470 => ((corporaref27_Same.f k t467 t470).bind fun t473 => (if t473 = true then ((corporalaw27_known.f k).bind fun t474 => (some t474)) else none)))) else none)) else none)))) = some r := H
  have A3 := Aside0.mk A30
  clear A30
  replace H := Option.bind_eq_some_iff.mp H
  obtain ⟨t457, A40, H⟩ := H
  replace H : ((strategy_Choose.f k t457 t454).bind fun bt458 => ((corporaref27_Choose.f k t457 t454).bind fun bt462 => (if bt458.2 = bt462.2 then ((corporaref24_Same.f k bt458.1 bt462.1).bind fun t466 => (if t466 = true then ((strategy_Spans.f k t454).bind fun t467 => ((corporaref27_Spans.f k t454).bind fun t470 => ((corporaref27_Same.f k t467 t470).bind fun t473 => (if t473 = true then ((corporalaw27_known.f k).bind fun t474 => (some t474)) else none)))) else none)) else none))) = some r := H
  have A4 := Aside0.mk A40
  clear A40
  replace H := Option.bind_eq_some_iff.mp H
  obtain ⟨⟨t458, t459⟩, A50, H⟩ := H
  replace H : ((corporaref27_Choose.f k t457 t454).bind fun bt462 => (if t459 = bt462.2 then ((corporaref24_Same.f k t458 bt462.1).bind fun t466 => (if t466 = true then ((strategy_Spans.f k t454).bind fun t467 => ((corporaref27_Spans.f k t454).bind fun t470 => ((corporaref27_Same.f k t467 t470).bind fun t473 => (if t473 = true then ((corporalaw27_known.f k).bind fun t474 => (some t474)) else none)))) else none)) else none)) = some r := H
  have A5 := Aside0.mk A50
  clear A50
  replace H := Option.bind_eq_some_iff.mp H
  obtain ⟨⟨t462, t463⟩, A60, H⟩ := H
  replace H : (if t459 = t463 then ((corporaref24_Same.f k t458 t462).bind fun t466 => (if t466 = true then ((strategy_Spans.f k t454).bind fun t467 => ((corporaref27_Spans.f k t454).bind fun t470 => ((corporaref27_Same.f k t467 t470).bind fun t473 => (if t473 = true then ((corporalaw27_known.f k).bind fun t474 => (some t474)) else none)))) else none)) else none) = some r := H
  have A6 := Aside0.mk A60
  clear A60
  by_cases c7 : t459 = t463
  · rw [if_pos c7] at H
    have c7b0 : (t459 == t463) = true := beq_iff_eq.mpr c7
    have c7b1 : (t459 != t463) = false := bne_eq_false_iff_eq.mpr c7
    clear c7
    replace H := Option.bind_eq_some_iff.mp H
    obtain ⟨t466, A80, H⟩ := H
    replace H : (if t466 = true then ((strategy_Spans.f k t454).bind fun t467 => ((corporaref27_Spans.f k t454).bind fun t470 => ((corporaref27_Same.f k t467 t470).bind fun t473 => (if t473 = true then ((corporalaw27_known.f k).bind fun t474 => (some t474)) else none)))) else none) = some r := H
    have A8 := Aside0.mk A80
    clear A80
    by_cases c9 : t466 = true
    · subst c9
      have H1 : ((strategy_Spans.f k t454).bind fun t467 => ((corporaref27_Spans.f k t454).bind fun t470 => ((corporaref27_Same.f k t467 t470).bind fun t473 => (if t473 = true then ((corporalaw27_known.f k).bind fun t474 => (some t474)) else none)))) = some r := by rw [if_pos rfl] at H; exact H
      clear H
      have H := H1
      clear H1
      replace H := Option.bind_eq_some_iff.mp H
      obtain ⟨t467, A100, H⟩ := H
      replace H : ((corporaref27_Spans.f k t454).bind fun t470 => ((corporaref27_Same.f k t467 t470).bind fun t473 => (if t473 = true then ((corporalaw27_known.f k).bind fun t474 => (some t474)) else none))) = some r := H
      have A10 := Aside0.mk A100
      clear A100
      replace H := Option.bind_eq_some_iff.mp H
      obtain ⟨t470, A110, H⟩ := H
      replace H : ((corporaref27_Same.f k t467 t470).bind fun t473 => (if t473 = true then ((corporalaw27_known.f k).bind fun t474 => (some t474)) else none)) = some r := H
      have A11 := Aside0.mk A110
      clear A110
      replace H := Option.bind_eq_some_iff.mp H
      obtain ⟨t473, A120, H⟩ := H
      replace H : (if t473 = true then ((corporalaw27_known.f k).bind fun t474 => (some t474)) else none) = some r := H
      have A12 := Aside0.mk A120
      clear A120
      by_cases c13 : t473 = true
      · subst c13
        have H1 : ((corporalaw27_known.f k).bind fun t474 => (some t474)) = some r := by rw [if_pos rfl] at H; exact H
        clear H
        have H := H1
        clear H1
        replace H := Option.bind_eq_some_iff.mp H
        obtain ⟨t474, A140, H⟩ := H
        replace H : (some t474) = some r := H
        have A14 := Aside0.mk A140
        clear A140
        obtain rfl := Option.some.inj H
        go_enter Try.func3, Try.ntmps3
        go_wp2_with (first | ((with_reducible refine gate_callee (f := 10) rfl ?_); refine goesL_ (some 11) rfl rfl Try.func10 (by kernel_rfl) rfl #[.slice A0 l0.length c0] rfl (by (try simp only [List.map_toArray, List.map_cons, List.map_nil]); first | done | rfl | (simp only [List.length_drop, List.length_take]; rfl)) ?_; (with_reducible refine (corporalaw27_list.calls k _ _ l0 t454 _ ?side1 ?side2 A3.out).mono ?_); (case side1 => repeat (first | exact HR0.out | (with_reducible refine Kd.C_alloc ?_ _) | (with_reducible refine Kd.C_drewN ?_ _) | (with_reducible refine Kd.C_drew ?_))); (case side2 => exact HC0.out); rintro e w15 ⟨v455, rfl, ho0, hb⟩; refine ⟨_, rfl, ?_⟩; have n0_ := Aside0.mk (Kd.N_lower (Kd.N_mono (ok' := fun k_ => True) ho0 (fun k_ hk_ => trivial)) (below_size (by repeat (first | (with_reducible first | exact HB.out | apply below_alloc | apply pw_below_drewN | apply below_drew1) | exact HB.out)))); have n1_ := Aside0.mk (below_step (by repeat (first | (with_reducible first | exact HB.out | apply below_alloc | apply pw_below_drewN | apply below_drew1) | exact HB.out)) hb); clear HB; have HO456 := n0_; have HB := n1_; clear n0_ n1_; (try clear hb); (try clear hb2); (try clear hk); (try clear hi); (try clear ho0)) | ((with_reducible refine gate_callee (f := 11) rfl ?_); refine goesL_ (some 13) rfl rfl Try.func11 (by kernel_rfl) rfl #[.int .i64 a1, .int .i64 4] rfl (by (try simp only [List.map_toArray, List.map_cons, List.map_nil]); first | done | rfl | (simp only [List.length_drop, List.length_take]; rfl)) ?_; (with_reducible refine (corporamade_Mod.calls a1 4 t457 _ A4.out).mono ?_); rintro e w' ⟨rfl, ⟨nd, rfl⟩⟩; refine ⟨_, rfl, ?_⟩; obtain ⟨Ao16, co16, eo16⟩ := Kd.N_slice HO456.out; subst eo16) | ((with_reducible refine gate_callee (f := 12) rfl ?_); refine goesL_ (some 17) rfl rfl Try.func12 (by kernel_rfl) rfl #[.int .i64 t457, .slice Ao16 t454.length co16] rfl (by (try simp only [List.map_toArray, List.map_cons, List.map_nil]); first | done | rfl | (simp only [List.length_drop, List.length_take]; rfl)) ?_; (with_reducible refine (strategy_Choose.calls k t457 _ _ t454 t458 t459 _ ?side1 ?side2 A5.out).mono ?_); (case side1 => repeat (first | exact (Kd.N_reads' HO456.out).2.2 | (with_reducible refine Kd.C_alloc ?_ _) | (with_reducible refine Kd.C_drewN ?_ _) | (with_reducible refine Kd.C_drew ?_))); (case side2 => exact (Kd.N_reads' HO456.out).2.1); rintro e w17 ⟨v460, rfl, ho0, hb⟩; refine ⟨_, rfl, ?_⟩; have n0_ := Aside0.mk (Kd.N_elder' (by (with_reducible repeat (first | apply Kd.N_alloc | apply Kd.N_drewN | apply Kd.N_drew)); exact HO456.out) (Kd.N_base (Kd.S_N ho0)) hb); have n1_ := Aside0.mk (Kd.N_lower (Kd.N_mono (ok' := fun k_ => some k_ ≠ (.slice Ao16 t454.length co16 : Value).ownBlock) (Kd.S_N (Kd.S_bound ho0)) (fun k_ hk_ => (Kd.fresh' (Kd.N_lt (by (with_reducible repeat (first | apply Kd.N_alloc | apply Kd.N_drewN | apply Kd.N_drew)); exact HO456.out)) k_ hk_.2.1))) (below_size (by repeat (first | (with_reducible first | exact HB.out | apply below_alloc | apply pw_below_drewN | apply below_drew1) | exact HB.out)))); have n2_ := Aside0.mk (below_step (by repeat (first | (with_reducible first | exact HB.out | apply below_alloc | apply pw_below_drewN | apply below_drew1) | exact HB.out)) hb); clear HO456; clear HB; have HO456 := n0_; have HO461 := n1_; have HB := n2_; clear n0_ n1_ n2_; (try clear hb); (try clear hb2); (try clear hk); (try clear hi); (try clear ho0)) | ((with_reducible refine gate_callee (f := 13) rfl ?_); refine goesL_ (some 23) rfl rfl Try.func13 (by kernel_rfl) rfl #[.int .i64 t457, .slice Ao16 t454.length co16] rfl (by (try simp only [List.map_toArray, List.map_cons, List.map_nil]); first | done | rfl | (simp only [List.length_drop, List.length_take]; rfl)) ?_; (with_reducible refine (corporaref27_Choose.calls k t457 _ _ t454 t462 t463 _ ?side1 ?side2 A6.out).mono ?_); (case side1 => repeat (first | exact (Kd.N_reads' HO456.out).2.2 | (with_reducible refine Kd.C_alloc ?_ _) | (with_reducible refine Kd.C_drewN ?_ _) | (with_reducible refine Kd.C_drew ?_))); (case side2 => exact (Kd.N_reads' HO456.out).2.1); rintro e w18 ⟨v464, rfl, ho0, hb⟩; refine ⟨_, rfl, ?_⟩; have n0_ := Aside0.mk (Kd.N_elder' (by (with_reducible repeat (first | apply Kd.N_alloc | apply Kd.N_drewN | apply Kd.N_drew)); exact HO456.out) (Kd.N_base ho0) hb); have n1_ := Aside0.mk (Kd.N_elder' (by (with_reducible repeat (first | apply Kd.N_alloc | apply Kd.N_drewN | apply Kd.N_drew)); exact HO461.out) (Kd.N_base ho0) hb); have n2_ := Aside0.mk (Kd.N_lower ho0 (below_size (by repeat (first | (with_reducible first | exact HB.out | apply below_alloc | apply pw_below_drewN | apply below_drew1) | exact HB.out)))); have n3_ := Aside0.mk (below_step (by repeat (first | (with_reducible first | exact HB.out | apply below_alloc | apply pw_below_drewN | apply below_drew1) | exact HB.out)) hb); clear HO456; clear HO461; clear HB; have HO456 := n0_; have HO461 := n1_; have HO465 := n2_; have HB := n3_; clear n0_ n1_ n2_ n3_; (try clear hb); (try clear hb2); (try clear hk); (try clear hi); (try clear ho0); obtain ⟨Ao19, co19, eo19⟩ := Kd.N_slice HO461.out; subst eo19; obtain ⟨Ao20, co20, eo20⟩ := Kd.N_slice HO465.out; subst eo20) | (go_at_call 14; (with_reducible refine (corporaref24_Same.calls k _ _ t458 _ _ t462 true _ ?side1 ?side2 ?side3 ?side4 A8.out).mono ?_); (case side1 => repeat (first | exact (Kd.N_reads' HO461.out).2.2 | (with_reducible refine Kd.C_alloc ?_ _) | (with_reducible refine Kd.C_drewN ?_ _) | (with_reducible refine Kd.C_drew ?_))); (case side2 => exact (Kd.N_reads' HO461.out).2.1); (case side3 => repeat (first | exact (Kd.N_reads' HO465.out).2.2 | (with_reducible refine Kd.C_alloc ?_ _) | (with_reducible refine Kd.C_drewN ?_ _) | (with_reducible refine Kd.C_drew ?_))); (case side4 => exact (Kd.N_reads' HO465.out).2.1); rintro e w21 ⟨rfl, hb⟩; have n0_ := Aside0.mk (Kd.N_below (by (with_reducible repeat (first | apply Kd.N_alloc | apply Kd.N_drewN | apply Kd.N_drew)); exact HO456.out) hb); have n1_ := Aside0.mk (Kd.N_below (by (with_reducible repeat (first | apply Kd.N_alloc | apply Kd.N_drewN | apply Kd.N_drew)); exact HO461.out) hb); have n2_ := Aside0.mk (Kd.N_below (by (with_reducible repeat (first | apply Kd.N_alloc | apply Kd.N_drewN | apply Kd.N_drew)); exact HO465.out) hb); have n3_ := Aside0.mk (below_step (by repeat (first | (with_reducible first | exact HB.out | apply below_alloc | apply pw_below_drewN | apply below_drew1) | exact HB.out)) hb); clear HO456; clear HO461; clear HO465; clear HB; have HO456 := n0_; have HO461 := n1_; have HO465 := n2_; have HB := n3_; clear n0_ n1_ n2_ n3_; (try clear hb); (try clear hb2); (try clear hk); (try clear hi)) | (go_at_call 16; (with_reducible refine (strategy_Spans.calls k _ _ t454 t467 _ ?side1 ?side2 A10.out).mono ?_); (case side1 => repeat (first | exact (Kd.N_reads' HO456.out).2.2 | (with_reducible refine Kd.C_alloc ?_ _) | (with_reducible refine Kd.C_drewN ?_ _) | (with_reducible refine Kd.C_drew ?_))); (case side2 => exact (Kd.N_reads' HO456.out).2.1); rintro e w22 ⟨v468, rfl, ho0, hb⟩; have n0_ := Aside0.mk (Kd.N_elder' (by (with_reducible repeat (first | apply Kd.N_alloc | apply Kd.N_drewN | apply Kd.N_drew)); exact HO456.out) (Kd.R_base ho0) hb); have n1_ := Aside0.mk (Kd.N_elder' (by (with_reducible repeat (first | apply Kd.N_alloc | apply Kd.N_drewN | apply Kd.N_drew)); exact HO461.out) (Kd.R_base ho0) hb); have n2_ := Aside0.mk (Kd.N_elder' (by (with_reducible repeat (first | apply Kd.N_alloc | apply Kd.N_drewN | apply Kd.N_drew)); exact HO465.out) (Kd.R_base ho0) hb); have n3_ := Aside0.mk (Kd.R_lower ho0 (below_size (by repeat (first | (with_reducible first | exact HB.out | apply below_alloc | apply pw_below_drewN | apply below_drew1) | exact HB.out)))); have n4_ := Aside0.mk (below_step (by repeat (first | (with_reducible first | exact HB.out | apply below_alloc | apply pw_below_drewN | apply below_drew1) | exact HB.out)) hb); clear HO456; clear HO461; clear HO465; clear HB; have HO456 := n0_; have HO461 := n1_; have HO465 := n2_; have HO469 := n3_; have HB := n4_; clear n0_ n1_ n2_ n3_ n4_; (try clear hb); (try clear hb2); (try clear hk); (try clear hi); (try clear ho0)) | (go_at_call 17; (with_reducible refine (corporaref27_Spans.calls k _ _ t454 t470 _ ?side1 ?side2 A11.out).mono ?_); (case side1 => repeat (first | exact (Kd.N_reads' HO456.out).2.2 | (with_reducible refine Kd.C_alloc ?_ _) | (with_reducible refine Kd.C_drewN ?_ _) | (with_reducible refine Kd.C_drew ?_))); (case side2 => exact (Kd.N_reads' HO456.out).2.1); rintro e w23 ⟨v471, rfl, ho0, hb⟩; have n0_ := Aside0.mk (Kd.N_elder' (by (with_reducible repeat (first | apply Kd.N_alloc | apply Kd.N_drewN | apply Kd.N_drew)); exact HO456.out) (Kd.R_base ho0) hb); have n1_ := Aside0.mk (Kd.N_elder' (by (with_reducible repeat (first | apply Kd.N_alloc | apply Kd.N_drewN | apply Kd.N_drew)); exact HO461.out) (Kd.R_base ho0) hb); have n2_ := Aside0.mk (Kd.N_elder' (by (with_reducible repeat (first | apply Kd.N_alloc | apply Kd.N_drewN | apply Kd.N_drew)); exact HO465.out) (Kd.R_base ho0) hb); have n3_ := Aside0.mk (Kd.R_elder' (by (with_reducible repeat (first | apply Kd.R_alloc | apply Kd.R_drewN | apply Kd.R_drew)); exact HO469.out) (Kd.R_base ho0) hb); have n4_ := Aside0.mk (Kd.R_lower (Kd.R_new' ho0 (Kd.R_lt (by (with_reducible repeat (first | apply Kd.R_alloc | apply Kd.R_drewN | apply Kd.R_drew)); exact HO469.out))) (below_size (by repeat (first | (with_reducible first | exact HB.out | apply below_alloc | apply pw_below_drewN | apply below_drew1) | exact HB.out)))); have n5_ := Aside0.mk (below_step (by repeat (first | (with_reducible first | exact HB.out | apply below_alloc | apply pw_below_drewN | apply below_drew1) | exact HB.out)) hb); clear HO456; clear HO461; clear HO465; clear HO469; clear HB; have HO456 := n0_; have HO461 := n1_; have HO465 := n2_; have HO469 := n3_; have HO472 := n4_; have HB := n5_; clear n0_ n1_ n2_ n3_ n4_ n5_; (try clear hb); (try clear hb2); (try clear hk); (try clear hi); (try clear ho0); obtain ⟨Ao24, co24, eo24⟩ := Kd.R_slice HO469.out; subst eo24; obtain ⟨Ao25, co25, eo25⟩ := Kd.R_slice HO472.out; subst eo25) | (go_at_call 15; (with_reducible refine (corporaref27_Same.calls k _ _ t467 _ _ t470 true _ ?side1 ?side2 ?side3 ?side4 A12.out).mono ?_); (case side1 => repeat (first | exact (Kd.R_reads' HO469.out).2.2 | (with_reducible refine Kd.C_alloc ?_ _) | (with_reducible refine Kd.C_drewN ?_ _) | (with_reducible refine Kd.C_drew ?_))); (case side2 => exact (Kd.R_reads' HO469.out).2.1); (case side3 => repeat (first | exact (Kd.R_reads' HO472.out).2.2 | (with_reducible refine Kd.C_alloc ?_ _) | (with_reducible refine Kd.C_drewN ?_ _) | (with_reducible refine Kd.C_drew ?_))); (case side4 => exact (Kd.R_reads' HO472.out).2.1); rintro e w' ⟨rfl, ⟨nd, rfl⟩⟩) | (go_at_call 18; (with_reducible refine (corporalaw27_known.calls k  t474 _ A14.out).mono ?_); rintro e w26 ⟨rfl, hb⟩; have n0_ := Aside0.mk (Kd.N_below (by (with_reducible repeat (first | apply Kd.N_alloc | apply Kd.N_drewN | apply Kd.N_drew)); exact HO456.out) hb); have n1_ := Aside0.mk (Kd.N_below (by (with_reducible repeat (first | apply Kd.N_alloc | apply Kd.N_drewN | apply Kd.N_drew)); exact HO461.out) hb); have n2_ := Aside0.mk (Kd.N_below (by (with_reducible repeat (first | apply Kd.N_alloc | apply Kd.N_drewN | apply Kd.N_drew)); exact HO465.out) hb); have n3_ := Aside0.mk (Kd.R_below (by (with_reducible repeat (first | apply Kd.R_alloc | apply Kd.R_drewN | apply Kd.R_drew)); exact HO469.out) hb); have n4_ := Aside0.mk (Kd.R_below (by (with_reducible repeat (first | apply Kd.R_alloc | apply Kd.R_drewN | apply Kd.R_drew)); exact HO472.out) hb); have n5_ := Aside0.mk (below_step (by repeat (first | (with_reducible first | exact HB.out | apply below_alloc | apply pw_below_drewN | apply below_drew1) | exact HB.out)) hb); clear HO456; clear HO461; clear HO465; clear HO469; clear HO472; clear HB; have HO456 := n0_; have HO461 := n1_; have HO465 := n2_; have HO469 := n3_; have HO472 := n4_; have HB := n5_; clear n0_ n1_ n2_ n3_ n4_ n5_; (try clear hb); (try clear hb2); (try clear hk); (try clear hi)))
        go_ret
        exact ⟨by first | rfl | (simp [errW_none, errW_some] <;> rfl) | (simp [*, errW_none, errW_some] <;> rfl), by repeat (first | (with_reducible first | exact HB.out | apply below_alloc | apply pw_below_drewN | apply below_drew1) | exact HB.out)⟩
      · replace c13 := Bool.eq_false_iff.mpr c13
        subst c13
        rw [if_neg (show ¬ (false = true) by decide)] at H
        exact absurd H (by simp)
    · replace c9 := Bool.eq_false_iff.mpr c9
      subst c9
      rw [if_neg (show ¬ (false = true) by decide)] at H
      exact absurd H (by simp)
  · rw [if_neg c7] at H
    exact absurd H (by simp)
/-- THE ONE PURE STATEMENT of corporalaw27_StrategyChooses: yours. -/
def corporalaw27_StrategyChooses.Pure : Prop := ∀ (l0 : List Int) (a1 : Int), l0.length ≤ maxLen → l0.length * 8 ≤ 140737488351232 → (∀ x ∈ l0, (Lit.int .i64 x).wf = true) → (Lit.int .i64 a1).wf = true → ∃ k, corporalaw27_StrategyChooses.f k l0 a1 = some true
theorem corporalaw27_StrategyChooses.walk (P : corporalaw27_StrategyChooses.Pure) (a0 : Option Addr) (len0 cap0 : Nat) (z0 : List Int) (a1 : Int) (w : World) (w0 : (a0 = none ∧ len0 = 0 ∧ cap0 = 0 ∧ z0 = []) ∨ ∃ x, a0 = some x ∧ len0 ≤ cap0 ∧ cap0 ≤ maxLen ∧ z0.length = cap0 ∧ (∀ i, i < z0.length → w.cell? (x.add i) = some (.int .i64 (z0.getD i 0))) ∧ ∀ n ∈ z0, (Lit.int .i64 n).wf = true) (y0 : len0 * 8 ≤ 140737488351232) (w1 : (Lit.int .i64 a1).wf = true) :
    Calls Try.prog 3 #[.slice a0 len0 cap0, .int .i64 a1] w fun e w' => e = .returned (.bool true) ∧ Below w.heap.size w w' := by
  obtain ⟨l0, rfl, hr0, hm0, hw0, hc0⟩ := ReadsInt.ofRowC w0
  obtain ⟨k, h⟩ := P l0 a1 hm0 y0 hw0 w1
  refine (corporalaw27_StrategyChooses.calls k _ _ l0 a1 true w (Kd.C_of_reads (d := (0 : Int)) (h1 := fun _ => rfl) hr0) hc0 h).mono ?_
  rintro e w' ⟨rfl, hd⟩
  exact ⟨rfl, hd⟩

end Go.Proofs.Ytmmdlkeemafanaa.Q
