import Derived.Test.YtbecgpjdeophmaaQ10
namespace Go.Proofs.Ytbecgpjdeophmaa.Q
open Go.RowKit Go.Proofs.YtbecgpjdeophmaaW.PrintWords Go.Proofs.YtbecgpjdeophmaaW.PrintLast Go.Proofs.YtbecgpjdeophmaaW.PrintMore
attribute [local go_sem] max2_int min2_int max_two min_two max_three min_three max_four min_four   -- for this text's walks alone
set_option linter.unusedVariables false
set_option linter.unusedSimpArgs false

set_option maxHeartbeats 8000000 in
set_option maxRecDepth 100000 in
theorem corporalaw11_IntervalAllen.calls (k : Nat) (A0 : Option Addr) (c0 : Nat) (l0 : List (S23)) (A1 : Option Addr) (c1 : Nat) (l1 : List (S23)) (r : Bool) (w : World) (hr0 : Kd.C k23 w A0 l0.length l0) (hc0 : l0.length ≤ c0) (hr1 : Kd.C k23 w A1 l1.length l1) (hc1 : l1.length ≤ c1) (h : corporalaw11_IntervalAllen.f k l0 l1 = some r) :
    Calls Try.prog 10 #[.slice A0 l0.length c0, .slice A1 l1.length c1] w fun e w' => e = .returned (.bool r) ∧ Below w.heap.size w w' := by
  have hu23 := Try.underlying23
  have HR0 := Aside0.mk hr0
  have HC0 := Aside0.mk hc0
  clear hr0 hc0
  have HR1 := Aside0.mk hr1
  have HC1 := Aside0.mk hc1
  clear hr1 hc1
  have HB := Aside0.mk (Below.refl w.heap.size w)
  have H : (if (l0.length : Int) > 12 then (corporalaw11_IntervalAllen.j0 k l0 l1 true) else (corporalaw11_IntervalAllen.j0 k l0 l1 (decide ((l1.length : Int) > 12)))) = some r := h
  clear h
  have HC3 := Aside0.mk H
  clear H
  go_enter Try.func10, Try.ntmps10
  go_upto_region 1 with (fail)
  go_cut [26] (fun v26 wc => ∃ (kq : Nat) (x26_2 : Bool), v26 = .bool x26_2 ∧ Aside0 (corporalaw11_IntervalAllen.j0 kq l0 l1 x26_2 = some r) ∧ Aside0 (kq ≤ k) ∧ Aside0 (Below w.heap.size w wc))
  case first =>
    have H := HC3.out
    clear HC3
    by_cases c4 : (l0.length : Int) > 12
    · rw [if_pos c4] at H
      have c4b0 : decide (12 < (l0.length : Int)) = true := decide_eq_true c4
      have c4b1 : decide (12 < l0.length) = true := decide_eq_true (by omega)
      clear c4
      (first | rw [c4b0] | (simp only [i64_w, i32_w]; rw [c4b0]) | skip)
      have H' := Aside0.mk H
      clear H
      go_wp2
      go_meet
      case rel => exact ⟨_, (true), (by first | rfl | (simp; done) | (simp [*]; done)), H', ⟨by first | omega | exact Nat.le_refl _⟩, ⟨by repeat (first | (with_reducible first | exact HB.out | apply below_alloc | apply pw_below_drewN | apply below_drew1) | exact HB.out)⟩⟩
    rw [if_neg c4] at H
    have c4b0 : decide (12 < (l0.length : Int)) = false := decide_eq_false c4
    have c4b1 : decide (12 < l0.length) = false := decide_eq_false (by omega)
    clear c4
    (first | rw [c4b0] | (simp only [i64_w, i32_w]; rw [c4b0]) | skip)
    have H' := Aside0.mk H
    clear H
    go_wp2
    go_meet
    case rel => exact ⟨_, (decide ((l1.length : Int) > 12)), (by first | rfl | (simp; done) | (simp [*]; done)), H', ⟨by first | omega | exact Nat.le_refl _⟩, ⟨by repeat (first | (with_reducible first | exact HB.out | apply below_alloc | apply pw_below_drewN | apply below_drew1) | exact HB.out)⟩⟩
  case rest =>
    clear HC3
    try clear c1
    try clear p2
    try clear c4
    try clear c4b0
    try clear c4b1
    obtain ⟨kq, x26_2, rfl, HA, HJ2, HB⟩ := hcut
    cases kq with
    | zero => exact absurd HA.out (by simp [corporalaw11_IntervalAllen.j0])
    | succ kj2 =>
      have H := HA.out
      clear HA
      simp only [corporalaw11_IntervalAllen.j0] at H
      by_cases c5 : x26_2 = true
      · subst c5
        have H1 : (some true) = some r := by rw [if_pos rfl] at H; exact H
        clear H
        have H := H1
        clear H1
        obtain rfl := Option.some.inj H
        go_wp2
        go_ret
        exact ⟨by first | rfl | (simp [errW_none, errW_some] <;> rfl) | (simp [*, errW_none, errW_some] <;> rfl), by repeat (first | (with_reducible first | exact HB.out | apply below_alloc | apply pw_below_drewN | apply below_drew1) | exact HB.out)⟩
      replace c5 := Bool.eq_false_iff.mpr c5
      subst c5
      have H1 : ((interval_Within.f kj2 l0 l1).bind fun bt448 => ((interval_Containing.f kj2 l0 l1).bind fun bt452 => ((interval_Overlapping.f kj2 l0 l1).bind fun bt456 => (if bt448.2 = 0 then (if bt452.2 = 0 then (corporalaw11_IntervalAllen.j1 kj2 l0 l1 bt448.1 bt448.2 bt452.1 bt452.2 bt456.1 bt456.2 (bt456.2 != 0)) else (corporalaw11_IntervalAllen.j1 kj2 l0 l1 bt448.1 bt448.2 bt452.1 bt452.2 bt456.1 bt456.2 true)) else (corporalaw11_IntervalAllen.j1 kj2 l0 l1 bt448.1 bt448.2 bt452.1 bt452.2 bt456.1 bt456.2 true))))) = some r := by rw [if_neg (show ¬ (false = true) by decide)] at H; exact H
      clear H
      have H := H1
      clear H1
      replace H := Option.bind_eq_some_iff.mp H
      obtain ⟨⟨t448, t451⟩, A60, H⟩ := H
      replace H : ((interval_Containing.f kj2 l0 l1).bind fun bt452 => ((interval_Overlapping.f kj2 l0 l1).bind fun bt456 => (if t451 = 0 then (if bt452.2 = 0 then (corporalaw11_IntervalAllen.j1 kj2 l0 l1 t448 t451 bt452.1 bt452.2 bt456.1 bt456.2 (bt456.2 != 0)) else (corporalaw11_IntervalAllen.j1 kj2 l0 l1 t448 t451 bt452.1 bt452.2 bt456.1 bt456.2 true)) else (corporalaw11_IntervalAllen.j1 kj2 l0 l1 t448 t451 bt452.1 bt452.2 bt456.1 bt456.2 true)))) = some r := H
      have A6 := Aside0.mk A60
      clear A60
      replace H := Option.bind_eq_some_iff.mp H
      obtain ⟨⟨t452, t455⟩, A70, H⟩ := H
      replace H : ((interval_Overlapping.f kj2 l0 l1).bind fun bt456 => (if t451 = 0 then (if t455 = 0 then (corporalaw11_IntervalAllen.j1 kj2 l0 l1 t448 t451 t452 t455 bt456.1 bt456.2 (bt456.2 != 0)) else (corporalaw11_IntervalAllen.j1 kj2 l0 l1 t448 t451 t452 t455 bt456.1 bt456.2 true)) else (corporalaw11_IntervalAllen.j1 kj2 l0 l1 t448 t451 t452 t455 bt456.1 bt456.2 true))) = some r := H
      have A7 := Aside0.mk A70
      clear A70
      replace H := Option.bind_eq_some_iff.mp H
      obtain ⟨⟨t456, t459⟩, A80, H⟩ := H
      replace H : (if t451 = 0 then (if t455 = 0 then (corporalaw11_IntervalAllen.j1 kj2 l0 l1 t448 t451 t452 t455 t456 t459 (t459 != 0)) else (corporalaw11_IntervalAllen.j1 kj2 l0 l1 t448 t451 t452 t455 t456 t459 true)) else (corporalaw11_IntervalAllen.j1 kj2 l0 l1 t448 t451 t452 t455 t456 t459 true)) = some r := H
      have A8 := Aside0.mk A80
      clear A80
      have HC9 := Aside0.mk H
      clear H
      go_upto_region 6 with (first | ((with_reducible refine gate_callee (f := 21) rfl ?_); refine goesL_ (some 30) rfl rfl Try.func21 (by kernel_rfl) rfl #[.slice A0 l0.length c0, .slice A1 l1.length c1] rfl (by (try simp only [List.map_toArray, List.map_cons, List.map_nil]); first | done | rfl | (simp only [List.length_drop, List.length_take]; rfl)) ?_; (with_reducible refine (interval_Within.calls kj2 (fun k_ => k_ < w.heap.size) _ _ l0 (fun k_ => k_ < w.heap.size) _ _ l1 t448 t451 _ ?side1 ?side2 A6.out).mono ?_); (case side1 => exact Kd.V_mk HC0.out (Kd.F_below (Kd.C_F k23_heap HR0.out) (by repeat (first | (with_reducible first | exact HB.out | apply below_alloc | apply pw_below_drewN | apply below_drew1) | exact HB.out)))); (case side2 => exact Kd.V_mk HC1.out (Kd.F_below (Kd.C_F k23_heap HR1.out) (by repeat (first | (with_reducible first | exact HB.out | apply below_alloc | apply pw_below_drewN | apply below_drew1) | exact HB.out)))); rintro e w10 ⟨v449, rfl, ho0, hb⟩; refine ⟨_, rfl, ?_⟩; have n0_ := Aside0.mk (Kd.R_lower (Kd.R_mono (ok' := fun k_ => True) ho0 (fun _ hk_ => trivial)) (below_size (by repeat (first | (with_reducible first | exact HB.out | apply below_alloc | apply pw_below_drewN | apply below_drew1) | exact HB.out)))); have n1_ := Aside0.mk (below_step (by repeat (first | (with_reducible first | exact HB.out | apply below_alloc | apply pw_below_drewN | apply below_drew1) | exact HB.out)) hb); clear HB; have HO450 := n0_; have HB := n1_; clear n0_ n1_; (try clear hb); (try clear hb2); (try clear hk); (try clear hi); (try clear ho0)) | ((with_reducible refine gate_callee (f := 23) rfl ?_); refine goesL_ (some 36) rfl rfl Try.func23 (by kernel_rfl) rfl #[.slice A0 l0.length c0, .slice A1 l1.length c1] rfl (by (try simp only [List.map_toArray, List.map_cons, List.map_nil]); first | done | rfl | (simp only [List.length_drop, List.length_take]; rfl)) ?_; (with_reducible refine (interval_Containing.calls kj2 (fun k_ => k_ < w.heap.size) _ _ l0 (fun k_ => k_ < w.heap.size) _ _ l1 t452 t455 _ ?side1 ?side2 A7.out).mono ?_); (case side1 => exact Kd.V_mk HC0.out (Kd.F_below (Kd.C_F k23_heap HR0.out) (by repeat (first | (with_reducible first | exact HB.out | apply below_alloc | apply pw_below_drewN | apply below_drew1) | exact HB.out)))); (case side2 => exact Kd.V_mk HC1.out (Kd.F_below (Kd.C_F k23_heap HR1.out) (by repeat (first | (with_reducible first | exact HB.out | apply below_alloc | apply pw_below_drewN | apply below_drew1) | exact HB.out)))); rintro e w11 ⟨v453, rfl, ho0, hb⟩; refine ⟨_, rfl, ?_⟩; have n0_ := Aside0.mk (Kd.R_elder' (by (with_reducible repeat (first | apply Kd.R_alloc | apply Kd.R_drewN | apply Kd.R_drew)); exact HO450.out) (Kd.R_base ho0) hb); have n1_ := Aside0.mk (Kd.R_lower (Kd.R_new' (Kd.R_mono (ok' := fun k_ => True) ho0 (fun _ hk_ => trivial)) (Kd.R_lt (by (with_reducible repeat (first | apply Kd.R_alloc | apply Kd.R_drewN | apply Kd.R_drew)); exact HO450.out))) (below_size (by repeat (first | (with_reducible first | exact HB.out | apply below_alloc | apply pw_below_drewN | apply below_drew1) | exact HB.out)))); have n2_ := Aside0.mk (below_step (by repeat (first | (with_reducible first | exact HB.out | apply below_alloc | apply pw_below_drewN | apply below_drew1) | exact HB.out)) hb); clear HO450; clear HB; have HO450 := n0_; have HO454 := n1_; have HB := n2_; clear n0_ n1_ n2_; (try clear hb); (try clear hb2); (try clear hk); (try clear hi); (try clear ho0)) | ((with_reducible refine gate_callee (f := 25) rfl ?_); refine goesL_ (some 42) rfl rfl Try.func25 (by kernel_rfl) rfl #[.slice A0 l0.length c0, .slice A1 l1.length c1] rfl (by (try simp only [List.map_toArray, List.map_cons, List.map_nil]); first | done | rfl | (simp only [List.length_drop, List.length_take]; rfl)) ?_; (with_reducible refine (interval_Overlapping.calls kj2 (fun k_ => k_ < w.heap.size) _ _ l0 (fun k_ => k_ < w.heap.size) _ _ l1 t456 t459 _ ?side1 ?side2 A8.out).mono ?_); (case side1 => exact Kd.V_mk HC0.out (Kd.F_below (Kd.C_F k23_heap HR0.out) (by repeat (first | (with_reducible first | exact HB.out | apply below_alloc | apply pw_below_drewN | apply below_drew1) | exact HB.out)))); (case side2 => exact Kd.V_mk HC1.out (Kd.F_below (Kd.C_F k23_heap HR1.out) (by repeat (first | (with_reducible first | exact HB.out | apply below_alloc | apply pw_below_drewN | apply below_drew1) | exact HB.out)))); rintro e w12 ⟨v457, rfl, ho0, hb⟩; refine ⟨_, rfl, ?_⟩; have n0_ := Aside0.mk (Kd.R_elder' (by (with_reducible repeat (first | apply Kd.R_alloc | apply Kd.R_drewN | apply Kd.R_drew)); exact HO450.out) (Kd.R_base ho0) hb); have n1_ := Aside0.mk (Kd.R_elder' (by (with_reducible repeat (first | apply Kd.R_alloc | apply Kd.R_drewN | apply Kd.R_drew)); exact HO454.out) (Kd.R_base ho0) hb); have n2_ := Aside0.mk (Kd.R_lower (Kd.R_new' (Kd.R_new' (Kd.R_mono (ok' := fun k_ => True) ho0 (fun _ hk_ => trivial)) (Kd.R_lt (by (with_reducible repeat (first | apply Kd.R_alloc | apply Kd.R_drewN | apply Kd.R_drew)); exact HO450.out))) (Kd.R_lt (by (with_reducible repeat (first | apply Kd.R_alloc | apply Kd.R_drewN | apply Kd.R_drew)); exact HO454.out))) (below_size (by repeat (first | (with_reducible first | exact HB.out | apply below_alloc | apply pw_below_drewN | apply below_drew1) | exact HB.out)))); have n3_ := Aside0.mk (below_step (by repeat (first | (with_reducible first | exact HB.out | apply below_alloc | apply pw_below_drewN | apply below_drew1) | exact HB.out)) hb); clear HO450; clear HO454; clear HB; have HO450 := n0_; have HO454 := n1_; have HO458 := n2_; have HB := n3_; clear n0_ n1_ n2_ n3_; (try clear hb); (try clear hb2); (try clear hk); (try clear hi); (try clear ho0)))
      (try simp only [Act.put, List.setIfInBounds_toArray, List.set_cons_zero, List.set_cons_succ])
      go_cut [54] (fun v54 wc => ∃ (kq : Nat) (x54_8 : Bool), v54 = .bool x54_8 ∧ Aside0 (corporalaw11_IntervalAllen.j1 kq l0 l1 t448 t451 t452 t455 t456 t459 x54_8 = some r) ∧ Aside0 (kq ≤ kj2) ∧ Aside0 (Kd.R k23 23 wc w.heap.size (fun k_ => some k_ ≠ (v453 : Value).ownBlock ∧ some k_ ≠ (v457 : Value).ownBlock) v449 t448) ∧ Aside0 (Kd.R k23 23 wc w.heap.size (fun k_ => some k_ ≠ (v449 : Value).ownBlock ∧ some k_ ≠ (v457 : Value).ownBlock) v453 t452) ∧ Aside0 (Kd.R k23 23 wc w.heap.size (fun k_ => some k_ ≠ (v449 : Value).ownBlock ∧ some k_ ≠ (v453 : Value).ownBlock) v457 t456) ∧ Aside0 (Below w.heap.size w wc))
      case first =>
        have H := HC9.out
        clear HC9
        by_cases c13 : t451 = 0
        · rw [if_pos c13] at H
          have c13b0 : (t451 == 0) = true := beq_iff_eq.mpr c13
          have c13b1 : (t451 != 0) = false := bne_eq_false_iff_eq.mpr c13
          clear c13
          (first | rw [c13b0] | (simp only [i64_w, i32_w]; rw [c13b0]) | skip)
          by_cases c14 : t455 = 0
          · rw [if_pos c14] at H
            have c14b0 : (t455 == 0) = true := beq_iff_eq.mpr c14
            have c14b1 : (t455 != 0) = false := bne_eq_false_iff_eq.mpr c14
            clear c14
            have H' := Aside0.mk H
            clear H
            go_wp2
            go_meet
            case rel => exact ⟨_, ((t459 != 0)), (by first | rfl | (simp; done) | (simp [*]; done)), H', ⟨by have := HJ2.out; first | omega | exact Nat.le_refl _⟩, ⟨by (with_reducible repeat (first | apply Kd.R_alloc | apply Kd.R_drewN | apply Kd.R_drew)); exact Kd.R_mono HO450.out (fun _ hk => ⟨hk.1.2, hk.2⟩)⟩, ⟨by (with_reducible repeat (first | apply Kd.R_alloc | apply Kd.R_drewN | apply Kd.R_drew)); exact Kd.R_mono HO454.out (fun _ hk => ⟨hk.1.2, hk.2⟩)⟩, ⟨by (with_reducible repeat (first | apply Kd.R_alloc | apply Kd.R_drewN | apply Kd.R_drew)); exact Kd.R_mono HO458.out (fun _ hk => ⟨hk.1.2, hk.2⟩)⟩, ⟨by repeat (first | (with_reducible first | exact HB.out | apply below_alloc | apply pw_below_drewN | apply below_drew1) | exact HB.out)⟩⟩
          rw [if_neg c14] at H
          have c14b0 : (t455 == 0) = false := beq_eq_false_iff_ne.mpr c14
          have c14b1 : (t455 != 0) = true := bne_iff_ne.mpr c14
          have H' := Aside0.mk H
          clear H
          go_wp2
          go_meet
          case rel => exact ⟨_, (true), (by first | rfl | (simp; done) | (simp [*]; done)), H', ⟨by have := HJ2.out; first | omega | exact Nat.le_refl _⟩, ⟨by (with_reducible repeat (first | apply Kd.R_alloc | apply Kd.R_drewN | apply Kd.R_drew)); exact Kd.R_mono HO450.out (fun _ hk => ⟨hk.1.2, hk.2⟩)⟩, ⟨by (with_reducible repeat (first | apply Kd.R_alloc | apply Kd.R_drewN | apply Kd.R_drew)); exact Kd.R_mono HO454.out (fun _ hk => ⟨hk.1.2, hk.2⟩)⟩, ⟨by (with_reducible repeat (first | apply Kd.R_alloc | apply Kd.R_drewN | apply Kd.R_drew)); exact Kd.R_mono HO458.out (fun _ hk => ⟨hk.1.2, hk.2⟩)⟩, ⟨by repeat (first | (with_reducible first | exact HB.out | apply below_alloc | apply pw_below_drewN | apply below_drew1) | exact HB.out)⟩⟩
        rw [if_neg c13] at H
        have c13b0 : (t451 == 0) = false := beq_eq_false_iff_ne.mpr c13
        have c13b1 : (t451 != 0) = true := bne_iff_ne.mpr c13
        (first | rw [c13b0] | (simp only [i64_w, i32_w]; rw [c13b0]) | skip)
        have H' := Aside0.mk H
        clear H
        go_wp2
        go_meet
        case rel => exact ⟨_, (true), (by first | rfl | (simp; done) | (simp [*]; done)), H', ⟨by have := HJ2.out; first | omega | exact Nat.le_refl _⟩, ⟨by (with_reducible repeat (first | apply Kd.R_alloc | apply Kd.R_drewN | apply Kd.R_drew)); exact Kd.R_mono HO450.out (fun _ hk => ⟨hk.1.2, hk.2⟩)⟩, ⟨by (with_reducible repeat (first | apply Kd.R_alloc | apply Kd.R_drewN | apply Kd.R_drew)); exact Kd.R_mono HO454.out (fun _ hk => ⟨hk.1.2, hk.2⟩)⟩, ⟨by (with_reducible repeat (first | apply Kd.R_alloc | apply Kd.R_drewN | apply Kd.R_drew)); exact Kd.R_mono HO458.out (fun _ hk => ⟨hk.1.2, hk.2⟩)⟩, ⟨by repeat (first | (with_reducible first | exact HB.out | apply below_alloc | apply pw_below_drewN | apply below_drew1) | exact HB.out)⟩⟩
      case rest =>
        clear HC9
        try clear c1
        try clear c2
        try clear p2
        try clear c4
        try clear c4b0
        try clear c4b1
        try clear c5
        try clear c10
        try clear c13
        try clear c13b0
        try clear c13b1
        try clear c14
        try clear c14b0
        try clear c14b1
        try clear p2
        obtain ⟨kq, x54_8, rfl, HA, HJ8, HO_5, HO_7, HO_9, HB⟩ := hcut
        cases kq with
        | zero => exact absurd HA.out (by simp [corporalaw11_IntervalAllen.j1])
        | succ kj8 =>
          have H := HA.out
          clear HA
          simp only [corporalaw11_IntervalAllen.j1] at H
          by_cases c15 : x54_8 = true
          · subst c15
            have H1 : (if t451 = t455 then (if t455 = t459 then ((corporalaw11_awake.f kj8).bind fun t460 => (some t460)) else (some false)) else (some false)) = some r := by rw [if_pos rfl] at H; exact H
            clear H
            have H := H1
            clear H1
            by_cases c16 : t451 = t455
            · rw [if_pos c16] at H
              have c16b0 : (t451 == t455) = true := beq_iff_eq.mpr c16
              have c16b1 : (t451 != t455) = false := bne_eq_false_iff_eq.mpr c16
              clear c16
              by_cases c17 : t455 = t459
              · rw [if_pos c17] at H
                have c17b0 : (t455 == t459) = true := beq_iff_eq.mpr c17
                have c17b1 : (t455 != t459) = false := bne_eq_false_iff_eq.mpr c17
                clear c17
                replace H := Option.bind_eq_some_iff.mp H
                obtain ⟨t460, A180, H⟩ := H
                replace H : (some t460) = some r := H
                have A18 := Aside0.mk A180
                clear A180
                obtain rfl := Option.some.inj H
                go_wp2_with (first | (go_at_call 13; (with_reducible refine (corporalaw11_awake.calls kj8  t460 _ A18.out).mono ?_); rintro e w19 ⟨rfl, hb⟩; have n0_ := Aside0.mk (Kd.R_below (by (with_reducible repeat (first | apply Kd.R_alloc | apply Kd.R_drewN | apply Kd.R_drew)); exact HO_5.out) hb); have n1_ := Aside0.mk (Kd.R_below (by (with_reducible repeat (first | apply Kd.R_alloc | apply Kd.R_drewN | apply Kd.R_drew)); exact HO_7.out) hb); have n2_ := Aside0.mk (Kd.R_below (by (with_reducible repeat (first | apply Kd.R_alloc | apply Kd.R_drewN | apply Kd.R_drew)); exact HO_9.out) hb); have n3_ := Aside0.mk (below_step (by repeat (first | (with_reducible first | exact HB.out | apply below_alloc | apply pw_below_drewN | apply below_drew1) | exact HB.out)) hb); clear HO_5; clear HO_7; clear HO_9; clear HB; have HO_5 := n0_; have HO_7 := n1_; have HO_9 := n2_; have HB := n3_; clear n0_ n1_ n2_ n3_; (try clear hb); (try clear hb2); (try clear hk); (try clear hi)))
                go_ret
                exact ⟨by first | rfl | (simp [errW_none, errW_some] <;> rfl) | (simp [*, errW_none, errW_some] <;> rfl), by repeat (first | (with_reducible first | exact HB.out | apply below_alloc | apply pw_below_drewN | apply below_drew1) | exact HB.out)⟩
              rw [if_neg c17] at H
              have c17b0 : (t455 == t459) = false := beq_eq_false_iff_ne.mpr c17
              have c17b1 : (t455 != t459) = true := bne_iff_ne.mpr c17
              obtain rfl := Option.some.inj H
              go_wp2
              go_ret
              exact ⟨by first | rfl | (simp [errW_none, errW_some] <;> rfl) | (simp [*, errW_none, errW_some] <;> rfl), by repeat (first | (with_reducible first | exact HB.out | apply below_alloc | apply pw_below_drewN | apply below_drew1) | exact HB.out)⟩
            rw [if_neg c16] at H
            have c16b0 : (t451 == t455) = false := beq_eq_false_iff_ne.mpr c16
            have c16b1 : (t451 != t455) = true := bne_iff_ne.mpr c16
            obtain rfl := Option.some.inj H
            go_wp2
            go_ret
            exact ⟨by first | rfl | (simp [errW_none, errW_some] <;> rfl) | (simp [*, errW_none, errW_some] <;> rfl), by repeat (first | (with_reducible first | exact HB.out | apply below_alloc | apply pw_below_drewN | apply below_drew1) | exact HB.out)⟩
          replace c15 := Bool.eq_false_iff.mpr c15
          subst c15
          have H1 : (corporalaw11_IntervalAllen.l0 kj8 l0 l1 t448 t452 t456 l0 (l0.length : Int) 0) = some r := by rw [if_neg (show ¬ (false = true) by decide)] at H; exact H
          clear H
          have H := H1
          clear H1
          have H' := Aside0.mk H
          clear H
          go_wp2
          go_loopg [68] kj8 (fun kq v68 w' => ∃ (x68_3 : Int), v68 = .int .i64 x68_3 ∧ Aside0 (corporalaw11_IntervalAllen.l0 kq l0 l1 t448 t452 t456 l0 (l0.length : Int) x68_3 = some r) ∧ Aside0 (kq ≤ kj8) ∧ Aside0 (Kd.R k23 23 w' w.heap.size (fun k_ => some k_ ≠ (v453 : Value).ownBlock ∧ some k_ ≠ (v457 : Value).ownBlock) v449 t448) ∧ Aside0 (Kd.R k23 23 w' w.heap.size (fun k_ => some k_ ≠ (v449 : Value).ownBlock ∧ some k_ ≠ (v457 : Value).ownBlock) v453 t452) ∧ Aside0 (Kd.R k23 23 w' w.heap.size (fun k_ => some k_ ≠ (v449 : Value).ownBlock ∧ some k_ ≠ (v453 : Value).ownBlock) v457 t456) ∧ Aside0 (Below w.heap.size w w'))
          case atStart => exact ⟨(0), (by first | rfl | (simp; done) | (simp [*]; done)), H', ⟨Nat.le_refl _⟩, ⟨by (with_reducible repeat (first | apply Kd.R_alloc | apply Kd.R_drewN | apply Kd.R_drew)); exact HO_5.out⟩, ⟨by (with_reducible repeat (first | apply Kd.R_alloc | apply Kd.R_drewN | apply Kd.R_drew)); exact HO_7.out⟩, ⟨by (with_reducible repeat (first | apply Kd.R_alloc | apply Kd.R_drewN | apply Kd.R_drew)); exact HO_9.out⟩, ⟨by repeat (first | (with_reducible first | exact HB.out | apply below_alloc | apply pw_below_drewN | apply below_drew1) | exact HB.out)⟩⟩
          case round =>
            clear H'
            try clear c1
            try clear c2
            try clear p2
            try clear c4
            try clear c4b0
            try clear c4b1
            try clear c5
            try clear c10
            try clear c13
            try clear c13b0
            try clear c13b1
            try clear c14
            try clear c14b0
            try clear c14b1
            try clear c15
            try clear c16
            try clear c16b0
            try clear c16b1
            try clear c17
            try clear c17b0
            try clear c17b1
            try clear p2
            obtain ⟨x68_3, rfl, HA, HK3, HO_5, HO_7, HO_9, HB⟩ := hrel
            cases gk with
            | zero => exact absurd HA.out (by simp [corporalaw11_IntervalAllen.l0])
            | succ k3 =>
              have H := HA.out
              clear HA
              simp only [corporalaw11_IntervalAllen.l0] at H
              by_cases c20 : x68_3 < (l0.length : Int)
              · rw [if_pos c20] at H
                have c20b0 : decide (x68_3 < (l0.length : Int)) = true := decide_eq_true c20
                clear c20
                by_cases c21 : 0 ≤ x68_3
                · rw [if_pos c21] at H
                  have c21b0 : decide (0 ≤ x68_3) = true := decide_eq_true c21
                  clear c21
                  by_cases c22 : x68_3 < (l0.length : Int)
                  · rw [if_pos c22] at H
                    have c22b0 : decide (x68_3 < (l0.length : Int)) = true := decide_eq_true c22
                    clear c22
                    have H' := Aside0.mk H
                    clear H
                    have p462 : 0 ≤ (x68_3 : Int) := of_decide_eq_true (by first | (with_reducible assumption) | assumption)
                    have q462 : x68_3 < (l0.length : Int) := of_decide_eq_true (by first | (with_reducible assumption) | assumption)
                    obtain ⟨ad462, e462, hx462_0, hx462_1⟩ := at_T23 HR0.out x68_3 p462 q462
                    cases e462
                    replace hx462_0 := (HB.out.cell (World.block_lt_of_cell? w _ hx462_0)).trans hx462_0
                    replace hx462_1 := (HB.out.cell (World.block_lt_of_cell? w _ hx462_1)).trans hx462_1
                    replace p462 := eq_true p462
                    replace q462 := eq_true q462
                    go_wp2_with (first | ((with_reducible refine gate_dst (N := 12) rfl ?_); (try (refine gate_guard (by rfl) ?_; dsimp only)); refine box_event ?hg (N := 12) ?hd (cs := #[.int .i64 0, .int .i64 0]) (t := 23) ?hr ?_; (case hd => rfl); (case hg => rfl); (case hr => first | (go_simp; done) | (go_simp; rfl)); intro gb463 hg w23 hbox hb; have n0_ := Aside0.mk (Kd.R_below (Kd.R_elderB (by (with_reducible repeat (first | apply Kd.R_alloc | apply Kd.R_drewN | apply Kd.R_drew)); exact HO_5.out) gb463 (Nat.le_of_eq hg.symm)) hb); have n1_ := Aside0.mk (Kd.R_below (Kd.R_elderB (by (with_reducible repeat (first | apply Kd.R_alloc | apply Kd.R_drewN | apply Kd.R_drew)); exact HO_7.out) gb463 (Nat.le_of_eq hg.symm)) hb); have n2_ := Aside0.mk (Kd.R_below (Kd.R_elderB (by (with_reducible repeat (first | apply Kd.R_alloc | apply Kd.R_drewN | apply Kd.R_drew)); exact HO_9.out) gb463 (Nat.le_of_eq hg.symm)) hb); have n3_ := Aside0.mk (below_step (by repeat (first | (with_reducible first | exact HB.out | apply below_alloc | apply pw_below_drewN | apply below_drew1) | exact HB.out)) hb); have n4_ := Aside0.mk (hbox); have n5_ := Aside0.mk ((by rw [hg]; exact (below_size (by repeat (first | (with_reducible first | exact HB.out | apply below_alloc | apply pw_below_drewN | apply below_drew1) | exact HB.out))) : w.heap.size ≤ gb463)); have n6_ := Aside0.mk ((by rw [hg]; exact (below_size (by repeat (first | (with_reducible first | exact HB.out | apply below_alloc | apply pw_below_drewN | apply below_drew1) | exact HB.out))) : w.heap.size ≤ gb463)); clear HO_5; clear HO_7; clear HO_9; clear HB; have HO_5 := n0_; have HO_7 := n1_; have HO_9 := n2_; have HB := n3_; have BK463 := n4_; have GW463 := n5_; have GE463 := n6_; clear n0_ n1_ n2_ n3_ n4_ n5_ n6_; clear hb hbox hg; have hcz24_0 : w23.cell? ⟨gb463, 0, none⟩ = some (.int .i64 0) := (blk_cell BK463.out 0).trans rfl; have hcz24_1 : w23.cell? ⟨gb463, 1, none⟩ = some (.int .i64 0) := (blk_cell BK463.out 1).trans rfl; have hfz24_0 := blk_frozen BK463.out 0; have hfz24_1 := blk_frozen BK463.out 1))
                    go_loopg [13, 14, 15, 74] k3 (fun kq v13 v14 v15 v74 w' => ∃ (x13_4 : Bool) (x14_4 : Bool) (x15_4 : Bool) (x74_4 : Int), v13 = .bool x13_4 ∧ v14 = .bool x14_4 ∧ v15 = .bool x15_4 ∧ v74 = .int .i64 x74_4 ∧ Aside0 (corporalaw11_IntervalAllen.l1 kq l0 l1 t448 t452 t456 x13_4 x14_4 x15_4 l0 (l0.length : Int) x68_3 l1 (l1.length : Int) x74_4 ((rd_T23 l0 x68_3).f0) ((rd_T23 l0 x68_3).f1) = some r) ∧ Aside0 (kq ≤ k3) ∧ Aside0 (Kd.R k23 23 w' w.heap.size (fun k_ => some k_ ≠ (v453 : Value).ownBlock ∧ some k_ ≠ (v457 : Value).ownBlock ∧ k_ ≠ gb463) v449 t448) ∧ Aside0 (Kd.R k23 23 w' w.heap.size (fun k_ => some k_ ≠ (v449 : Value).ownBlock ∧ some k_ ≠ (v457 : Value).ownBlock ∧ k_ ≠ gb463) v453 t452) ∧ Aside0 (Kd.R k23 23 w' w.heap.size (fun k_ => some k_ ≠ (v449 : Value).ownBlock ∧ some k_ ≠ (v453 : Value).ownBlock ∧ k_ ≠ gb463) v457 t456) ∧ Aside0 (w'.heap[gb463]? = some (.cells #[.int .i64 ((rd_T23 l0 x68_3).f0), .int .i64 ((rd_T23 l0 x68_3).f1)] 23 (0, 0))) ∧ Aside0 (Below w.heap.size w w'))
                    case atStart => exact ⟨(false), (false), (false), (0), (by first | rfl | (simp; done) | (simp [*]; done)), (by first | rfl | (simp; done) | (simp [*]; done)), (by first | rfl | (simp; done) | (simp [*]; done)), (by first | rfl | (simp; done) | (simp [*]; done)), H', ⟨Nat.le_refl _⟩, ⟨by (with_reducible repeat (first | apply Kd.R_alloc | apply Kd.R_drewN | apply Kd.R_drew)); exact Kd.R_mono (Kd.R_far (p := ⟨gb463, 1, none⟩) (Kd.R_far (p := ⟨gb463, 0, none⟩) (Kd.R_mono HO_5.out (fun k_ hk => (⟨hk, hk.2⟩ : _ ∧ k_ ≠ gb463))) (fun _ hk => hk.2) (.int .i64 ((rd_T23 l0 x68_3).f0))) (fun _ hk => hk.2) (.int .i64 ((rd_T23 l0 x68_3).f1))) (fun _ hk => ⟨hk.1.1.1, ⟨hk.1.1.2, hk.1.2⟩⟩)⟩, ⟨by (with_reducible repeat (first | apply Kd.R_alloc | apply Kd.R_drewN | apply Kd.R_drew)); exact Kd.R_mono (Kd.R_far (p := ⟨gb463, 1, none⟩) (Kd.R_far (p := ⟨gb463, 0, none⟩) (Kd.R_mono HO_7.out (fun k_ hk => (⟨hk, hk.2⟩ : _ ∧ k_ ≠ gb463))) (fun _ hk => hk.2) (.int .i64 ((rd_T23 l0 x68_3).f0))) (fun _ hk => hk.2) (.int .i64 ((rd_T23 l0 x68_3).f1))) (fun _ hk => ⟨hk.1.1.1, ⟨hk.1.1.2, hk.1.2⟩⟩)⟩, ⟨by (with_reducible repeat (first | apply Kd.R_alloc | apply Kd.R_drewN | apply Kd.R_drew)); exact Kd.R_mono (Kd.R_far (p := ⟨gb463, 1, none⟩) (Kd.R_far (p := ⟨gb463, 0, none⟩) (Kd.R_mono HO_9.out (fun k_ hk => (⟨hk, hk.2⟩ : _ ∧ k_ ≠ gb463))) (fun _ hk => hk.2) (.int .i64 ((rd_T23 l0 x68_3).f0))) (fun _ hk => hk.2) (.int .i64 ((rd_T23 l0 x68_3).f1))) (fun _ hk => ⟨hk.1.1.1, ⟨hk.1.1.2, hk.1.2⟩⟩)⟩, ⟨by (with_reducible repeat (first | refine blk_drewN ?_ _ | refine blk_drew ?_ | refine blk_alloc ?_ _)); refine blk_put (cs := #[.int .i64 ((rd_T23 l0 x68_3).f0), .int .i64 0]) ?_ 1 _ rfl; (with_reducible repeat (first | refine blk_drewN ?_ _ | refine blk_drew ?_ | refine blk_alloc ?_ _)); refine blk_put (cs := #[.int .i64 0, .int .i64 0]) ?_ 0 _ rfl; (with_reducible repeat (first | refine blk_drewN ?_ _ | refine blk_drew ?_ | refine blk_alloc ?_ _)); exact BK463.out⟩, ⟨by repeat (first | (with_reducible first | exact HB.out | apply below_alloc | apply pw_below_drewN | apply below_drew1 | refine below_set ?_ GE463.out) | exact HB.out)⟩⟩
                    case round =>
                      clear H'
                      try clear c1
                      try clear c2
                      try clear p2
                      try clear c4
                      try clear c4b0
                      try clear c4b1
                      try clear p4
                      try clear q4
                      try clear hx4
                      try clear c5
                      try clear c10
                      try clear c13
                      try clear c13b0
                      try clear c13b1
                      try clear c14
                      try clear c14b0
                      try clear c14b1
                      try clear c15
                      try clear c16
                      try clear c16b0
                      try clear c16b1
                      try clear c17
                      try clear c17b0
                      try clear c17b1
                      try clear c20
                      try clear c20b0
                      try clear c21
                      try clear c21b0
                      try clear c22
                      try clear c22b0
                      try clear c23
                      try clear hcz24_0
                      try clear hcz24_1
                      try clear hfz24_0
                      try clear hfz24_1
                      try clear hx462_0
                      try clear hx462_1
                      try clear p2
                      try clear p462
                      try clear q462
                      obtain ⟨x13_4, x14_4, x15_4, x74_4, rfl, rfl, rfl, rfl, HA, HK4, HO_5, HO_7, HO_9, BK463, HB⟩ := hrel
                      cases gk with
                      | zero => exact absurd HA.out (by simp [corporalaw11_IntervalAllen.l1])
                      | succ k4 =>
                        have H := HA.out
                        clear HA
                        simp only [corporalaw11_IntervalAllen.l1] at H
                        by_cases c25 : x74_4 < (l1.length : Int)
                        · rw [if_pos c25] at H
                          have c25b0 : decide (x74_4 < (l1.length : Int)) = true := decide_eq_true c25
                          clear c25
                          by_cases c26 : 0 ≤ x74_4
                          · rw [if_pos c26] at H
                            have c26b0 : decide (0 ≤ x74_4) = true := decide_eq_true c26
                            clear c26
                            by_cases c27 : x74_4 < (l1.length : Int)
                            · rw [if_pos c27] at H
                              have c27b0 : decide (x74_4 < (l1.length : Int)) = true := decide_eq_true c27
                              clear c27
                              replace H := Option.bind_eq_some_iff.mp H
                              obtain ⟨t466, A280, H⟩ := H
                              replace H : (if x13_4 = true then (if x14_4 = true then (if x15_4 = true then (corporalaw11_IntervalAllen.l1 k4 l0 l1 t448 t452 t456 true true true l0 (l0.length : Int) x68_3 l1 (l1.length : Int) (wrap64 (x74_4 + 1)) ((rd_T23 l0 x68_3).f0) ((rd_T23 l0 x68_3).f1)) else (if t466 ≥ 3 then (corporalaw11_IntervalAllen.l1 k4 l0 l1 t448 t452 t456 true true (decide (t466 ≤ 11)) l0 (l0.length : Int) x68_3 l1 (l1.length : Int) (wrap64 (x74_4 + 1)) ((rd_T23 l0 x68_3).f0) ((rd_T23 l0 x68_3).f1)) else (corporalaw11_IntervalAllen.l1 k4 l0 l1 t448 t452 t456 true true false l0 (l0.length : Int) x68_3 l1 (l1.length : Int) (wrap64 (x74_4 + 1)) ((rd_T23 l0 x68_3).f0) ((rd_T23 l0 x68_3).f1)))) else (if t466 = 4 then (if x15_4 = true then (corporalaw11_IntervalAllen.l1 k4 l0 l1 t448 t452 t456 true true true l0 (l0.length : Int) x68_3 l1 (l1.length : Int) (wrap64 (x74_4 + 1)) ((rd_T23 l0 x68_3).f0) ((rd_T23 l0 x68_3).f1)) else (if t466 ≥ 3 then (corporalaw11_IntervalAllen.l1 k4 l0 l1 t448 t452 t456 true true (decide (t466 ≤ 11)) l0 (l0.length : Int) x68_3 l1 (l1.length : Int) (wrap64 (x74_4 + 1)) ((rd_T23 l0 x68_3).f0) ((rd_T23 l0 x68_3).f1)) else (corporalaw11_IntervalAllen.l1 k4 l0 l1 t448 t452 t456 true true false l0 (l0.length : Int) x68_3 l1 (l1.length : Int) (wrap64 (x74_4 + 1)) ((rd_T23 l0 x68_3).f0) ((rd_T23 l0 x68_3).f1)))) else (if t466 = 5 then (if x15_4 = true then (corporalaw11_IntervalAllen.l1 k4 l0 l1 t448 t452 t456 true true true l0 (l0.length : Int) x68_3 l1 (l1.length : Int) (wrap64 (x74_4 + 1)) ((rd_T23 l0 x68_3).f0) ((rd_T23 l0 x68_3).f1)) else (if t466 ≥ 3 then (corporalaw11_IntervalAllen.l1 k4 l0 l1 t448 t452 t456 true true (decide (t466 ≤ 11)) l0 (l0.length : Int) x68_3 l1 (l1.length : Int) (wrap64 (x74_4 + 1)) ((rd_T23 l0 x68_3).f0) ((rd_T23 l0 x68_3).f1)) else (corporalaw11_IntervalAllen.l1 k4 l0 l1 t448 t452 t456 true true false l0 (l0.length : Int) x68_3 l1 (l1.length : Int) (wrap64 (x74_4 + 1)) ((rd_T23 l0 x68_3).f0) ((rd_T23 l0 x68_3).f1)))) else (if t466 = 7 then (if x15_4 = true then (corporalaw11_IntervalAllen.l1 k4 l0 l1 t448 t452 t456 true true true l0 (l0.length : Int) x68_3 l1 (l1.length : Int) (wrap64 (x74_4 + 1)) ((rd_T23 l0 x68_3).f0) ((rd_T23 l0 x68_3).f1)) else (if t466 ≥ 3 then (corporalaw11_IntervalAllen.l1 k4 l0 l1 t448 t452 t456 true true (decide (t466 ≤ 11)) l0 (l0.length : Int) x68_3 l1 (l1.length : Int) (wrap64 (x74_4 + 1)) ((rd_T23 l0 x68_3).f0) ((rd_T23 l0 x68_3).f1)) else (corporalaw11_IntervalAllen.l1 k4 l0 l1 t448 t452 t456 true true false l0 (l0.length : Int) x68_3 l1 (l1.length : Int) (wrap64 (x74_4 + 1)) ((rd_T23 l0 x68_3).f0) ((rd_T23 l0 x68_3).f1)))) else (if x15_4 = true then (corporalaw11_IntervalAllen.l1 k4 l0 l1 t448 t452 t456 true (t466 == 8) true l0 (l0.length : Int) x68_3 l1 (l1.length : Int) (wrap64 (x74_4 + 1)) ((rd_T23 l0 x68_3).f0) ((rd_T23 l0 x68_3).f1)) else (if t466 ≥ 3 then (corporalaw11_IntervalAllen.l1 k4 l0 l1 t448 t452 t456 true (t466 == 8) (decide (t466 ≤ 11)) l0 (l0.length : Int) x68_3 l1 (l1.length : Int) (wrap64 (x74_4 + 1)) ((rd_T23 l0 x68_3).f0) ((rd_T23 l0 x68_3).f1)) else (corporalaw11_IntervalAllen.l1 k4 l0 l1 t448 t452 t456 true (t466 == 8) false l0 (l0.length : Int) x68_3 l1 (l1.length : Int) (wrap64 (x74_4 + 1)) ((rd_T23 l0 x68_3).f0) ((rd_T23 l0 x68_3).f1)))))))) else (if t466 = 6 then (if x14_4 = true then (if x15_4 = true then (corporalaw11_IntervalAllen.l1 k4 l0 l1 t448 t452 t456 true true true l0 (l0.length : Int) x68_3 l1 (l1.length : Int) (wrap64 (x74_4 + 1)) ((rd_T23 l0 x68_3).f0) ((rd_T23 l0 x68_3).f1)) else (if t466 ≥ 3 then (corporalaw11_IntervalAllen.l1 k4 l0 l1 t448 t452 t456 true true (decide (t466 ≤ 11)) l0 (l0.length : Int) x68_3 l1 (l1.length : Int) (wrap64 (x74_4 + 1)) ((rd_T23 l0 x68_3).f0) ((rd_T23 l0 x68_3).f1)) else (corporalaw11_IntervalAllen.l1 k4 l0 l1 t448 t452 t456 true true false l0 (l0.length : Int) x68_3 l1 (l1.length : Int) (wrap64 (x74_4 + 1)) ((rd_T23 l0 x68_3).f0) ((rd_T23 l0 x68_3).f1)))) else (if t466 = 4 then (if x15_4 = true then (corporalaw11_IntervalAllen.l1 k4 l0 l1 t448 t452 t456 true true true l0 (l0.length : Int) x68_3 l1 (l1.length : Int) (wrap64 (x74_4 + 1)) ((rd_T23 l0 x68_3).f0) ((rd_T23 l0 x68_3).f1)) else (if t466 ≥ 3 then (corporalaw11_IntervalAllen.l1 k4 l0 l1 t448 t452 t456 true true (decide (t466 ≤ 11)) l0 (l0.length : Int) x68_3 l1 (l1.length : Int) (wrap64 (x74_4 + 1)) ((rd_T23 l0 x68_3).f0) ((rd_T23 l0 x68_3).f1)) else (corporalaw11_IntervalAllen.l1 k4 l0 l1 t448 t452 t456 true true false l0 (l0.length : Int) x68_3 l1 (l1.length : Int) (wrap64 (x74_4 + 1)) ((rd_T23 l0 x68_3).f0) ((rd_T23 l0 x68_3).f1)))) else (if t466 = 5 then (if x15_4 = true then (corporalaw11_IntervalAllen.l1 k4 l0 l1 t448 t452 t456 true true true l0 (l0.length : Int) x68_3 l1 (l1.length : Int) (wrap64 (x74_4 + 1)) ((rd_T23 l0 x68_3).f0) ((rd_T23 l0 x68_3).f1)) else (if t466 ≥ 3 then (corporalaw11_IntervalAllen.l1 k4 l0 l1 t448 t452 t456 true true (decide (t466 ≤ 11)) l0 (l0.length : Int) x68_3 l1 (l1.length : Int) (wrap64 (x74_4 + 1)) ((rd_T23 l0 x68_3).f0) ((rd_T23 l0 x68_3).f1)) else (corporalaw11_IntervalAllen.l1 k4 l0 l1 t448 t452 t456 true true false l0 (l0.length : Int) x68_3 l1 (l1.length : Int) (wrap64 (x74_4 + 1)) ((rd_T23 l0 x68_3).f0) ((rd_T23 l0 x68_3).f1)))) else (if t466 = 7 then (if x15_4 = true then (corporalaw11_IntervalAllen.l1 k4 l0 l1 t448 t452 t456 true true true l0 (l0.length : Int) x68_3 l1 (l1.length : Int) (wrap64 (x74_4 + 1)) ((rd_T23 l0 x68_3).f0) ((rd_T23 l0 x68_3).f1)) else (if t466 ≥ 3 then (corporalaw11_IntervalAllen.l1 k4 l0 l1 t448 t452 t456 true true (decide (t466 ≤ 11)) l0 (l0.length : Int) x68_3 l1 (l1.length : Int) (wrap64 (x74_4 + 1)) ((rd_T23 l0 x68_3).f0) ((rd_T23 l0 x68_3).f1)) else (corporalaw11_IntervalAllen.l1 k4 l0 l1 t448 t452 t456 true true false l0 (l0.length : Int) x68_3 l1 (l1.length : Int) (wrap64 (x74_4 + 1)) ((rd_T23 l0 x68_3).f0) ((rd_T23 l0 x68_3).f1)))) else (if x15_4 = true then (corporalaw11_IntervalAllen.l1 k4 l0 l1 t448 t452 t456 true (t466 == 8) true l0 (l0.length : Int) x68_3 l1 (l1.length : Int) (wrap64 (x74_4 + 1)) ((rd_T23 l0 x68_3).f0) ((rd_T23 l0 x68_3).f1)) else (if t466 ≥ 3 then (corporalaw11_IntervalAllen.l1 k4 l0 l1 t448 t452 t456 true (t466 == 8) (decide (t466 ≤ 11)) l0 (l0.length : Int) x68_3 l1 (l1.length : Int) (wrap64 (x74_4 + 1)) ((rd_T23 l0 x68_3).f0) ((rd_T23 l0 x68_3).f1)) else (corporalaw11_IntervalAllen.l1 k4 l0 l1 t448 t452 t456 true (t466 == 8) false l0 (l0.length : Int) x68_3 l1 (l1.length : Int) (wrap64 (x74_4 + 1)) ((rd_T23 l0 x68_3).f0) ((rd_T23 l0 x68_3).f1)))))))) else (if t466 = 7 then (if x14_4 = true then (if x15_4 = true then (corporalaw11_IntervalAllen.l1 k4 l0 l1 t448 t452 t456 true true true l0 (l0.length : Int) x68_3 l1 (l1.length : Int) (wrap64 (x74_4 + 1)) ((rd_T23 l0 x68_3).f0) ((rd_T23 l0 x68_3).f1)) else (if t466 ≥ 3 then (corporalaw11_IntervalAllen.l1 k4 l0 l1 t448 t452 t456 true true (decide (t466 ≤ 11)) l0 (l0.length : Int) x68_3 l1 (l1.length : Int) (wrap64 (x74_4 + 1)) ((rd_T23 l0 x68_3).f0) ((rd_T23 l0 x68_3).f1)) else (corporalaw11_IntervalAllen.l1 k4 l0 l1 t448 t452 t456 true true false l0 (l0.length : Int) x68_3 l1 (l1.length : Int) (wrap64 (x74_4 + 1)) ((rd_T23 l0 x68_3).f0) ((rd_T23 l0 x68_3).f1)))) else (if t466 = 4 then (if x15_4 = true then (corporalaw11_IntervalAllen.l1 k4 l0 l1 t448 t452 t456 true true true l0 (l0.length : Int) x68_3 l1 (l1.length : Int) (wrap64 (x74_4 + 1)) ((rd_T23 l0 x68_3).f0) ((rd_T23 l0 x68_3).f1)) else (if t466 ≥ 3 then (corporalaw11_IntervalAllen.l1 k4 l0 l1 t448 t452 t456 true true (decide (t466 ≤ 11)) l0 (l0.length : Int) x68_3 l1 (l1.length : Int) (wrap64 (x74_4 + 1)) ((rd_T23 l0 x68_3).f0) ((rd_T23 l0 x68_3).f1)) else (corporalaw11_IntervalAllen.l1 k4 l0 l1 t448 t452 t456 true true false l0 (l0.length : Int) x68_3 l1 (l1.length : Int) (wrap64 (x74_4 + 1)) ((rd_T23 l0 x68_3).f0) ((rd_T23 l0 x68_3).f1)))) else (if t466 = 5 then (if x15_4 = true then (corporalaw11_IntervalAllen.l1 k4 l0 l1 t448 t452 t456 true true true l0 (l0.length : Int) x68_3 l1 (l1.length : Int) (wrap64 (x74_4 + 1)) ((rd_T23 l0 x68_3).f0) ((rd_T23 l0 x68_3).f1)) else (if t466 ≥ 3 then (corporalaw11_IntervalAllen.l1 k4 l0 l1 t448 t452 t456 true true (decide (t466 ≤ 11)) l0 (l0.length : Int) x68_3 l1 (l1.length : Int) (wrap64 (x74_4 + 1)) ((rd_T23 l0 x68_3).f0) ((rd_T23 l0 x68_3).f1)) else (corporalaw11_IntervalAllen.l1 k4 l0 l1 t448 t452 t456 true true false l0 (l0.length : Int) x68_3 l1 (l1.length : Int) (wrap64 (x74_4 + 1)) ((rd_T23 l0 x68_3).f0) ((rd_T23 l0 x68_3).f1)))) else (if x15_4 = true then (corporalaw11_IntervalAllen.l1 k4 l0 l1 t448 t452 t456 true true true l0 (l0.length : Int) x68_3 l1 (l1.length : Int) (wrap64 (x74_4 + 1)) ((rd_T23 l0 x68_3).f0) ((rd_T23 l0 x68_3).f1)) else (if t466 ≥ 3 then (corporalaw11_IntervalAllen.l1 k4 l0 l1 t448 t452 t456 true true (decide (t466 ≤ 11)) l0 (l0.length : Int) x68_3 l1 (l1.length : Int) (wrap64 (x74_4 + 1)) ((rd_T23 l0 x68_3).f0) ((rd_T23 l0 x68_3).f1)) else (corporalaw11_IntervalAllen.l1 k4 l0 l1 t448 t452 t456 true true false l0 (l0.length : Int) x68_3 l1 (l1.length : Int) (wrap64 (x74_4 + 1)) ((rd_T23 l0 x68_3).f0) ((rd_T23 l0 x68_3).f1))))))) else (if t466 = 9 then (if x14_4 = true then (if x15_4 = true then (corporalaw11_IntervalAllen.l1 k4 l0 l1 t448 t452 t456 true true true l0 (l0.length : Int) x68_3 l1 (l1.length : Int) (wrap64 (x74_4 + 1)) ((rd_T23 l0 x68_3).f0) ((rd_T23 l0 x68_3).f1)) else (if t466 ≥ 3 then (corporalaw11_IntervalAllen.l1 k4 l0 l1 t448 t452 t456 true true (decide (t466 ≤ 11)) l0 (l0.length : Int) x68_3 l1 (l1.length : Int) (wrap64 (x74_4 + 1)) ((rd_T23 l0 x68_3).f0) ((rd_T23 l0 x68_3).f1)) else (corporalaw11_IntervalAllen.l1 k4 l0 l1 t448 t452 t456 true true false l0 (l0.length : Int) x68_3 l1 (l1.length : Int) (wrap64 (x74_4 + 1)) ((rd_T23 l0 x68_3).f0) ((rd_T23 l0 x68_3).f1)))) else (if t466 = 4 then (if x15_4 = true then (corporalaw11_IntervalAllen.l1 k4 l0 l1 t448 t452 t456 true true true l0 (l0.length : Int) x68_3 l1 (l1.length : Int) (wrap64 (x74_4 + 1)) ((rd_T23 l0 x68_3).f0) ((rd_T23 l0 x68_3).f1)) else (if t466 ≥ 3 then (corporalaw11_IntervalAllen.l1 k4 l0 l1 t448 t452 t456 true true (decide (t466 ≤ 11)) l0 (l0.length : Int) x68_3 l1 (l1.length : Int) (wrap64 (x74_4 + 1)) ((rd_T23 l0 x68_3).f0) ((rd_T23 l0 x68_3).f1)) else (corporalaw11_IntervalAllen.l1 k4 l0 l1 t448 t452 t456 true true false l0 (l0.length : Int) x68_3 l1 (l1.length : Int) (wrap64 (x74_4 + 1)) ((rd_T23 l0 x68_3).f0) ((rd_T23 l0 x68_3).f1)))) else (if t466 = 5 then (if x15_4 = true then (corporalaw11_IntervalAllen.l1 k4 l0 l1 t448 t452 t456 true true true l0 (l0.length : Int) x68_3 l1 (l1.length : Int) (wrap64 (x74_4 + 1)) ((rd_T23 l0 x68_3).f0) ((rd_T23 l0 x68_3).f1)) else (if t466 ≥ 3 then (corporalaw11_IntervalAllen.l1 k4 l0 l1 t448 t452 t456 true true (decide (t466 ≤ 11)) l0 (l0.length : Int) x68_3 l1 (l1.length : Int) (wrap64 (x74_4 + 1)) ((rd_T23 l0 x68_3).f0) ((rd_T23 l0 x68_3).f1)) else (corporalaw11_IntervalAllen.l1 k4 l0 l1 t448 t452 t456 true true false l0 (l0.length : Int) x68_3 l1 (l1.length : Int) (wrap64 (x74_4 + 1)) ((rd_T23 l0 x68_3).f0) ((rd_T23 l0 x68_3).f1)))) else (if x15_4 = true then (corporalaw11_IntervalAllen.l1 k4 l0 l1 t448 t452 t456 true (t466 == 8) true l0 (l0.length : Int) x68_3 l1 (l1.length : Int) (wrap64 (x74_4 + 1)) ((rd_T23 l0 x68_3).f0) ((rd_T23 l0 x68_3).f1)) else (if t466 ≥ 3 then (corporalaw11_IntervalAllen.l1 k4 l0 l1 t448 t452 t456 true (t466 == 8) (decide (t466 ≤ 11)) l0 (l0.length : Int) x68_3 l1 (l1.length : Int) (wrap64 (x74_4 + 1)) ((rd_T23 l0 x68_3).f0) ((rd_T23 l0 x68_3).f1)) else (corporalaw11_IntervalAllen.l1 k4 l0 l1 t448 t452 t456 true (t466 == 8) false l0 (l0.length : Int) x68_3 l1 (l1.length : Int) (wrap64 (x74_4 + 1)) ((rd_T23 l0 x68_3).f0) ((rd_T23 l0 x68_3).f1))))))) else (if x14_4 = true then (if x15_4 = true then (corporalaw11_IntervalAllen.l1 k4 l0 l1 t448 t452 t456 (t466 == 10) true true l0 (l0.length : Int) x68_3 l1 (l1.length : Int) (wrap64 (x74_4 + 1)) ((rd_T23 l0 x68_3).f0) ((rd_T23 l0 x68_3).f1)) else (if t466 ≥ 3 then (corporalaw11_IntervalAllen.l1 k4 l0 l1 t448 t452 t456 (t466 == 10) true (decide (t466 ≤ 11)) l0 (l0.length : Int) x68_3 l1 (l1.length : Int) (wrap64 (x74_4 + 1)) ((rd_T23 l0 x68_3).f0) ((rd_T23 l0 x68_3).f1)) else (corporalaw11_IntervalAllen.l1 k4 l0 l1 t448 t452 t456 (t466 == 10) true false l0 (l0.length : Int) x68_3 l1 (l1.length : Int) (wrap64 (x74_4 + 1)) ((rd_T23 l0 x68_3).f0) ((rd_T23 l0 x68_3).f1)))) else (if t466 = 4 then (if x15_4 = true then (corporalaw11_IntervalAllen.l1 k4 l0 l1 t448 t452 t456 (t466 == 10) true true l0 (l0.length : Int) x68_3 l1 (l1.length : Int) (wrap64 (x74_4 + 1)) ((rd_T23 l0 x68_3).f0) ((rd_T23 l0 x68_3).f1)) else (if t466 ≥ 3 then (corporalaw11_IntervalAllen.l1 k4 l0 l1 t448 t452 t456 (t466 == 10) true (decide (t466 ≤ 11)) l0 (l0.length : Int) x68_3 l1 (l1.length : Int) (wrap64 (x74_4 + 1)) ((rd_T23 l0 x68_3).f0) ((rd_T23 l0 x68_3).f1)) else (corporalaw11_IntervalAllen.l1 k4 l0 l1 t448 t452 t456 (t466 == 10) true false l0 (l0.length : Int) x68_3 l1 (l1.length : Int) (wrap64 (x74_4 + 1)) ((rd_T23 l0 x68_3).f0) ((rd_T23 l0 x68_3).f1)))) else (if t466 = 5 then (if x15_4 = true then (corporalaw11_IntervalAllen.l1 k4 l0 l1 t448 t452 t456 (t466 == 10) true true l0 (l0.length : Int) x68_3 l1 (l1.length : Int) (wrap64 (x74_4 + 1)) ((rd_T23 l0 x68_3).f0) ((rd_T23 l0 x68_3).f1)) else (if t466 ≥ 3 then (corporalaw11_IntervalAllen.l1 k4 l0 l1 t448 t452 t456 (t466 == 10) true (decide (t466 ≤ 11)) l0 (l0.length : Int) x68_3 l1 (l1.length : Int) (wrap64 (x74_4 + 1)) ((rd_T23 l0 x68_3).f0) ((rd_T23 l0 x68_3).f1)) else (corporalaw11_IntervalAllen.l1 k4 l0 l1 t448 t452 t456 (t466 == 10) true false l0 (l0.length : Int) x68_3 l1 (l1.length : Int) (wrap64 (x74_4 + 1)) ((rd_T23 l0 x68_3).f0) ((rd_T23 l0 x68_3).f1)))) else (if x15_4 = true then (corporalaw11_IntervalAllen.l1 k4 l0 l1 t448 t452 t456 (t466 == 10) (t466 == 8) true l0 (l0.length : Int) x68_3 l1 (l1.length : Int) (wrap64 (x74_4 + 1)) ((rd_T23 l0 x68_3).f0) ((rd_T23 l0 x68_3).f1)) else (if t466 ≥ 3 then (corporalaw11_IntervalAllen.l1 k4 l0 l1 t448 t452 t456 (t466 == 10) (t466 == 8) (decide (t466 ≤ 11)) l0 (l0.length : Int) x68_3 l1 (l1.length : Int) (wrap64 (x74_4 + 1)) ((rd_T23 l0 x68_3).f0) ((rd_T23 l0 x68_3).f1)) else (corporalaw11_IntervalAllen.l1 k4 l0 l1 t448 t452 t456 (t466 == 10) (t466 == 8) false l0 (l0.length : Int) x68_3 l1 (l1.length : Int) (wrap64 (x74_4 + 1)) ((rd_T23 l0 x68_3).f0) ((rd_T23 l0 x68_3).f1))))))))))) = some r := H
                              have A28 := Aside0.mk A280
                              clear A280
                              have H' : Aside0 (corporalaw11_IntervalAllen.l1 k4 l0 l1 t448 t452 t456 (x13_4 || (t466 == 6 || (t466 == 7 || (t466 == 9 || t466 == 10)))) (x14_4 || (t466 == 4 || (t466 == 5 || (t466 == 7 || t466 == 8)))) (x15_4 || (decide (3 ≤ t466) && decide (t466 ≤ 11))) l0 (l0.length : Int) x68_3 l1 (l1.length : Int) (wrap64 (x74_4 + 1)) ((rd_T23 l0 x68_3).f0) ((rd_T23 l0 x68_3).f1) = some r) := by
                                exact Aside0.mk (allen_pick (fun a_ b_ c_ => corporalaw11_IntervalAllen.l1 k4 l0 l1 t448 t452 t456 a_ b_ c_ l0 (l0.length : Int) x68_3 l1 (l1.length : Int) (wrap64 (x74_4 + 1)) ((rd_T23 l0 x68_3).f0) ((rd_T23 l0 x68_3).f1)) x13_4 x14_4 x15_4 t466 r H)
                              clear H
                              have p464 : 0 ≤ (x74_4 : Int) := of_decide_eq_true (by first | (with_reducible assumption) | assumption)
                              have q464 : x74_4 < (l1.length : Int) := of_decide_eq_true (by first | (with_reducible assumption) | assumption)
                              obtain ⟨ad464, e464, hx464_0, hx464_1⟩ := at_T23 HR1.out x74_4 p464 q464
                              cases e464
                              replace hx464_0 := (HB.out.cell (World.block_lt_of_cell? w _ hx464_0)).trans hx464_0
                              replace hx464_1 := (HB.out.cell (World.block_lt_of_cell? w _ hx464_1)).trans hx464_1
                              replace p464 := eq_true p464
                              replace q464 := eq_true q464
                              go_upto_region 16 with (first | ((with_reducible refine gate_dst (N := 17) rfl ?_); (try (refine gate_guard (by rfl) ?_; dsimp only)); refine box_event ?hg (N := 17) ?hd (cs := #[.int .i64 0, .int .i64 0]) (t := 23) ?hr ?_; (case hd => rfl); (case hg => rfl); (case hr => first | (go_simp; done) | (go_simp; rfl)); intro gb465 hg w32 hbox hb; have n0_ := Aside0.mk (Kd.R_below (Kd.R_elderB (by (with_reducible repeat (first | apply Kd.R_alloc | apply Kd.R_drewN | apply Kd.R_drew)); exact HO_5.out) gb465 (Nat.le_of_eq hg.symm)) hb); have n1_ := Aside0.mk (Kd.R_below (Kd.R_elderB (by (with_reducible repeat (first | apply Kd.R_alloc | apply Kd.R_drewN | apply Kd.R_drew)); exact HO_7.out) gb465 (Nat.le_of_eq hg.symm)) hb); have n2_ := Aside0.mk (Kd.R_below (Kd.R_elderB (by (with_reducible repeat (first | apply Kd.R_alloc | apply Kd.R_drewN | apply Kd.R_drew)); exact HO_9.out) gb465 (Nat.le_of_eq hg.symm)) hb); have n3_ := Aside0.mk (blk_below (g := gb463) (o := .cells #[.int .i64 ((rd_T23 l0 x68_3).f0), .int .i64 ((rd_T23 l0 x68_3).f1)] 23 (0, 0)) (by (with_reducible repeat (first | refine blk_drewN ?_ _ | refine blk_drew ?_ | refine blk_alloc ?_ _)); exact BK463.out) hb); have n4_ := Aside0.mk (below_step (by repeat (first | (with_reducible first | exact HB.out | apply below_alloc | apply pw_below_drewN | apply below_drew1 | refine below_set ?_ GE463.out) | exact HB.out)) hb); have n5_ := Aside0.mk (hbox); have n6_ := Aside0.mk ((by rw [hg]; exact (below_size (by repeat (first | (with_reducible first | exact HB.out | apply below_alloc | apply pw_below_drewN | apply below_drew1 | refine below_set ?_ GE463.out) | exact HB.out))) : w.heap.size ≤ gb465)); have n7_ := Aside0.mk ((by rw [hg]; exact (below_size (by repeat (first | (with_reducible first | exact HB.out | apply below_alloc | apply pw_below_drewN | apply below_drew1 | refine below_set ?_ GE463.out) | exact HB.out))) : w.heap.size ≤ gb465)); have n8_ := Aside0.mk ((by rw [hg]; exact Nat.ne_of_lt (blk_lt (g := gb463) (o := .cells #[.int .i64 ((rd_T23 l0 x68_3).f0), .int .i64 ((rd_T23 l0 x68_3).f1)] 23 (0, 0)) (by (with_reducible repeat (first | refine blk_drewN ?_ _ | refine blk_drew ?_ | refine blk_alloc ?_ _)); exact BK463.out)) : gb463 ≠ gb465)); have n9_ := Aside0.mk ((by rw [hg]; exact Nat.ne_of_gt (blk_lt (g := gb463) (o := .cells #[.int .i64 ((rd_T23 l0 x68_3).f0), .int .i64 ((rd_T23 l0 x68_3).f1)] 23 (0, 0)) (by (with_reducible repeat (first | refine blk_drewN ?_ _ | refine blk_drew ?_ | refine blk_alloc ?_ _)); exact BK463.out)) : gb465 ≠ gb463)); clear HO_5; clear HO_7; clear HO_9; clear BK463; clear HB; have HO_5 := n0_; have HO_7 := n1_; have HO_9 := n2_; have BK463 := n3_; have HB := n4_; have BK465 := n5_; have GW465 := n6_; have GE465 := n7_; have NB463_465 := n8_; have NB465_463 := n9_; clear n0_ n1_ n2_ n3_ n4_ n5_ n6_ n7_ n8_ n9_; clear hb hbox hg; have hnb33 := NB465_463.out; have hnc33 := NB463_465.out; have hcz34_0 : w32.cell? ⟨gb465, 0, none⟩ = some (.int .i64 0) := (blk_cell BK465.out 0).trans rfl; have hcz34_1 : w32.cell? ⟨gb465, 1, none⟩ = some (.int .i64 0) := (blk_cell BK465.out 1).trans rfl; have hfz34_0 := blk_frozen BK465.out 0; have hfz34_1 := blk_frozen BK465.out 1; have hcz35_0 : w32.cell? ⟨gb463, 0, none⟩ = some (.int .i64 ((rd_T23 l0 x68_3).f0)) := (blk_cell BK463.out 0).trans rfl; have hcz35_1 : w32.cell? ⟨gb463, 1, none⟩ = some (.int .i64 ((rd_T23 l0 x68_3).f1)) := (blk_cell BK463.out 1).trans rfl; have hfz35_0 := blk_frozen BK463.out 0; have hfz35_1 := blk_frozen BK463.out 1) | ((with_reducible refine gate_callee (f := 11) rfl ?_); refine goesL_ (some 80) rfl rfl Try.func11 (by kernel_rfl) rfl #[.agg #[.int .i64 ((rd_T23 l0 x68_3).f0), .int .i64 ((rd_T23 l0 x68_3).f1)], .agg #[.int .i64 ((rd_T23 l1 x74_4).f0), .int .i64 ((rd_T23 l1 x74_4).f1)]] rfl (by (try simp only [List.map_toArray, List.map_cons, List.map_nil]); first | done | rfl | (simp only [List.length_drop, List.length_take]; rfl)) ?_; (with_reducible refine (interval_Relation.calls k4 ((rd_T23 l0 x68_3).f0) ((rd_T23 l0 x68_3).f1) ((rd_T23 l1 x74_4).f0) ((rd_T23 l1 x74_4).f1) t466 _ A28.out).mono ?_); rintro e w36 ⟨rfl, hb⟩; refine ⟨_, rfl, ?_⟩; have n0_ := Aside0.mk (Kd.R_below (by (with_reducible repeat (first | apply Kd.R_alloc | apply Kd.R_drewN | apply Kd.R_drew)); exact (Kd.R_mono (Kd.R_far (p := ⟨gb465, 1, none⟩) (Kd.R_far (p := ⟨gb465, 0, none⟩) (Kd.R_mono HO_5.out (fun k_ hk => (⟨hk, hk.2⟩ : _ ∧ k_ ≠ gb465))) (fun _ hk => hk.2) (.int .i64 ((rd_T23 l1 x74_4).f0))) (fun _ hk => hk.2) (.int .i64 ((rd_T23 l1 x74_4).f1))) (fun _ h_ => h_.1))) hb); have n1_ := Aside0.mk (Kd.R_below (by (with_reducible repeat (first | apply Kd.R_alloc | apply Kd.R_drewN | apply Kd.R_drew)); exact (Kd.R_mono (Kd.R_far (p := ⟨gb465, 1, none⟩) (Kd.R_far (p := ⟨gb465, 0, none⟩) (Kd.R_mono HO_7.out (fun k_ hk => (⟨hk, hk.2⟩ : _ ∧ k_ ≠ gb465))) (fun _ hk => hk.2) (.int .i64 ((rd_T23 l1 x74_4).f0))) (fun _ hk => hk.2) (.int .i64 ((rd_T23 l1 x74_4).f1))) (fun _ h_ => h_.1))) hb); have n2_ := Aside0.mk (Kd.R_below (by (with_reducible repeat (first | apply Kd.R_alloc | apply Kd.R_drewN | apply Kd.R_drew)); exact (Kd.R_mono (Kd.R_far (p := ⟨gb465, 1, none⟩) (Kd.R_far (p := ⟨gb465, 0, none⟩) (Kd.R_mono HO_9.out (fun k_ hk => (⟨hk, hk.2⟩ : _ ∧ k_ ≠ gb465))) (fun _ hk => hk.2) (.int .i64 ((rd_T23 l1 x74_4).f0))) (fun _ hk => hk.2) (.int .i64 ((rd_T23 l1 x74_4).f1))) (fun _ h_ => h_.1))) hb); have n3_ := Aside0.mk (blk_below (g := gb463) (o := .cells #[.int .i64 ((rd_T23 l0 x68_3).f0), .int .i64 ((rd_T23 l0 x68_3).f1)] 23 (0, 0)) (by (with_reducible repeat (first | refine blk_drewN ?_ _ | refine blk_drew ?_ | refine blk_alloc ?_ _)); refine blk_far ?_ NB463_465.out _; (with_reducible repeat (first | refine blk_drewN ?_ _ | refine blk_drew ?_ | refine blk_alloc ?_ _)); refine blk_far ?_ NB463_465.out _; (with_reducible repeat (first | refine blk_drewN ?_ _ | refine blk_drew ?_ | refine blk_alloc ?_ _)); exact BK463.out) hb); have n4_ := Aside0.mk (blk_below (g := gb465) (o := .cells #[.int .i64 ((rd_T23 l1 x74_4).f0), .int .i64 ((rd_T23 l1 x74_4).f1)] 23 (0, 0)) (by (with_reducible repeat (first | refine blk_drewN ?_ _ | refine blk_drew ?_ | refine blk_alloc ?_ _)); refine blk_put (cs := #[.int .i64 ((rd_T23 l1 x74_4).f0), .int .i64 0]) ?_ 1 _ rfl; (with_reducible repeat (first | refine blk_drewN ?_ _ | refine blk_drew ?_ | refine blk_alloc ?_ _)); refine blk_put (cs := #[.int .i64 0, .int .i64 0]) ?_ 0 _ rfl; (with_reducible repeat (first | refine blk_drewN ?_ _ | refine blk_drew ?_ | refine blk_alloc ?_ _)); exact BK465.out) hb); have n5_ := Aside0.mk (below_step (by repeat (first | (with_reducible first | exact HB.out | apply below_alloc | apply pw_below_drewN | apply below_drew1 | refine below_set ?_ GE463.out | refine below_set ?_ GE465.out) | exact HB.out)) hb); clear HO_5; clear HO_7; clear HO_9; clear BK463; clear BK465; clear HB; have HO_5 := n0_; have HO_7 := n1_; have HO_9 := n2_; have BK463 := n3_; have BK465 := n4_; have HB := n5_; clear n0_ n1_ n2_ n3_ n4_ n5_; (try clear hb); (try clear hb2); (try clear hk); (try clear hi)))
                              go_cut [13] (fun v13 wc => ∃ (y_ : Bool), v13 = .bool y_ ∧ Aside0 (y_ = (x13_4 || (t466 == 6 || (t466 == 7 || (t466 == 9 || t466 == 10))))) ∧ Aside0 (Kd.R k23 23 wc w.heap.size (fun k_ => some k_ ≠ (v453 : Value).ownBlock ∧ some k_ ≠ (v457 : Value).ownBlock ∧ k_ ≠ gb463) v449 t448) ∧ Aside0 (Kd.R k23 23 wc w.heap.size (fun k_ => some k_ ≠ (v449 : Value).ownBlock ∧ some k_ ≠ (v457 : Value).ownBlock ∧ k_ ≠ gb463) v453 t452) ∧ Aside0 (Kd.R k23 23 wc w.heap.size (fun k_ => some k_ ≠ (v449 : Value).ownBlock ∧ some k_ ≠ (v453 : Value).ownBlock ∧ k_ ≠ gb463) v457 t456) ∧ Aside0 (wc.heap[gb463]? = some (.cells #[.int .i64 ((rd_T23 l0 x68_3).f0), .int .i64 ((rd_T23 l0 x68_3).f1)] 23 (0, 0))) ∧ Aside0 (Below w.heap.size w wc))
                              case first =>
                                cases x13_4 with
                                | true =>
                                  go_wp2
                                  go_meet
                                  case rel => exact ⟨_, (by first | rfl | (simp; done) | (simp [*]; done)), ⟨by first | rfl | (simp; done) | (simp [*]; done)⟩, ⟨by (with_reducible repeat (first | apply Kd.R_alloc | apply Kd.R_drewN | apply Kd.R_drew)); exact Kd.R_mono HO_5.out (fun _ hk => ⟨hk.1.1, ⟨hk.1.2.1, hk.1.2.2⟩⟩)⟩, ⟨by (with_reducible repeat (first | apply Kd.R_alloc | apply Kd.R_drewN | apply Kd.R_drew)); exact Kd.R_mono HO_7.out (fun _ hk => ⟨hk.1.1, ⟨hk.1.2.1, hk.1.2.2⟩⟩)⟩, ⟨by (with_reducible repeat (first | apply Kd.R_alloc | apply Kd.R_drewN | apply Kd.R_drew)); exact Kd.R_mono HO_9.out (fun _ hk => ⟨hk.1.1, ⟨hk.1.2.1, hk.1.2.2⟩⟩)⟩, ⟨by (with_reducible repeat (first | refine blk_drewN ?_ _ | refine blk_drew ?_ | refine blk_alloc ?_ _)); exact BK463.out⟩, ⟨by repeat (first | (with_reducible first | exact HB.out | apply below_alloc | apply pw_below_drewN | apply below_drew1 | refine below_set ?_ GE463.out | refine below_set ?_ GE465.out) | exact HB.out)⟩⟩
                                | false =>
                                  by_cases c6_ : t466 = 6
                                  · have f6_ : (t466 == 6) = true := beq_iff_eq.mpr c6_
                                    have g6_ : (t466 != 6) = false := bne_eq_false_iff_eq.mpr c6_
                                    clear c6_
                                    go_wp2
                                    go_meet
                                    case rel => exact ⟨_, (by first | rfl | (simp; done) | (simp [*]; done)), ⟨by first | rfl | (simp; done) | (simp [*]; done)⟩, ⟨by (with_reducible repeat (first | apply Kd.R_alloc | apply Kd.R_drewN | apply Kd.R_drew)); exact Kd.R_mono HO_5.out (fun _ hk => ⟨hk.1.1, ⟨hk.1.2.1, hk.1.2.2⟩⟩)⟩, ⟨by (with_reducible repeat (first | apply Kd.R_alloc | apply Kd.R_drewN | apply Kd.R_drew)); exact Kd.R_mono HO_7.out (fun _ hk => ⟨hk.1.1, ⟨hk.1.2.1, hk.1.2.2⟩⟩)⟩, ⟨by (with_reducible repeat (first | apply Kd.R_alloc | apply Kd.R_drewN | apply Kd.R_drew)); exact Kd.R_mono HO_9.out (fun _ hk => ⟨hk.1.1, ⟨hk.1.2.1, hk.1.2.2⟩⟩)⟩, ⟨by (with_reducible repeat (first | refine blk_drewN ?_ _ | refine blk_drew ?_ | refine blk_alloc ?_ _)); exact BK463.out⟩, ⟨by repeat (first | (with_reducible first | exact HB.out | apply below_alloc | apply pw_below_drewN | apply below_drew1 | refine below_set ?_ GE463.out | refine below_set ?_ GE465.out) | exact HB.out)⟩⟩
                                  have f6_ : (t466 == 6) = false := beq_eq_false_iff_ne.mpr c6_
                                  have g6_ : (t466 != 6) = true := bne_iff_ne.mpr c6_
                                  clear c6_
                                  by_cases c7_ : t466 = 7
                                  · have f7_ : (t466 == 7) = true := beq_iff_eq.mpr c7_
                                    have g7_ : (t466 != 7) = false := bne_eq_false_iff_eq.mpr c7_
                                    clear c7_
                                    go_wp2
                                    go_meet
                                    case rel => exact ⟨_, (by first | rfl | (simp; done) | (simp [*]; done)), ⟨by first | rfl | (simp; done) | (simp [*]; done)⟩, ⟨by (with_reducible repeat (first | apply Kd.R_alloc | apply Kd.R_drewN | apply Kd.R_drew)); exact Kd.R_mono HO_5.out (fun _ hk => ⟨hk.1.1, ⟨hk.1.2.1, hk.1.2.2⟩⟩)⟩, ⟨by (with_reducible repeat (first | apply Kd.R_alloc | apply Kd.R_drewN | apply Kd.R_drew)); exact Kd.R_mono HO_7.out (fun _ hk => ⟨hk.1.1, ⟨hk.1.2.1, hk.1.2.2⟩⟩)⟩, ⟨by (with_reducible repeat (first | apply Kd.R_alloc | apply Kd.R_drewN | apply Kd.R_drew)); exact Kd.R_mono HO_9.out (fun _ hk => ⟨hk.1.1, ⟨hk.1.2.1, hk.1.2.2⟩⟩)⟩, ⟨by (with_reducible repeat (first | refine blk_drewN ?_ _ | refine blk_drew ?_ | refine blk_alloc ?_ _)); exact BK463.out⟩, ⟨by repeat (first | (with_reducible first | exact HB.out | apply below_alloc | apply pw_below_drewN | apply below_drew1 | refine below_set ?_ GE463.out | refine below_set ?_ GE465.out) | exact HB.out)⟩⟩
                                  have f7_ : (t466 == 7) = false := beq_eq_false_iff_ne.mpr c7_
                                  have g7_ : (t466 != 7) = true := bne_iff_ne.mpr c7_
                                  clear c7_
                                  by_cases c9_ : t466 = 9
                                  · have f9_ : (t466 == 9) = true := beq_iff_eq.mpr c9_
                                    have g9_ : (t466 != 9) = false := bne_eq_false_iff_eq.mpr c9_
                                    clear c9_
                                    go_wp2
                                    go_meet
                                    case rel => exact ⟨_, (by first | rfl | (simp; done) | (simp [*]; done)), ⟨by first | rfl | (simp; done) | (simp [*]; done)⟩, ⟨by (with_reducible repeat (first | apply Kd.R_alloc | apply Kd.R_drewN | apply Kd.R_drew)); exact Kd.R_mono HO_5.out (fun _ hk => ⟨hk.1.1, ⟨hk.1.2.1, hk.1.2.2⟩⟩)⟩, ⟨by (with_reducible repeat (first | apply Kd.R_alloc | apply Kd.R_drewN | apply Kd.R_drew)); exact Kd.R_mono HO_7.out (fun _ hk => ⟨hk.1.1, ⟨hk.1.2.1, hk.1.2.2⟩⟩)⟩, ⟨by (with_reducible repeat (first | apply Kd.R_alloc | apply Kd.R_drewN | apply Kd.R_drew)); exact Kd.R_mono HO_9.out (fun _ hk => ⟨hk.1.1, ⟨hk.1.2.1, hk.1.2.2⟩⟩)⟩, ⟨by (with_reducible repeat (first | refine blk_drewN ?_ _ | refine blk_drew ?_ | refine blk_alloc ?_ _)); exact BK463.out⟩, ⟨by repeat (first | (with_reducible first | exact HB.out | apply below_alloc | apply pw_below_drewN | apply below_drew1 | refine below_set ?_ GE463.out | refine below_set ?_ GE465.out) | exact HB.out)⟩⟩
                                  have f9_ : (t466 == 9) = false := beq_eq_false_iff_ne.mpr c9_
                                  have g9_ : (t466 != 9) = true := bne_iff_ne.mpr c9_
                                  clear c9_
                                  go_wp2
                                  go_meet
                                  case rel => exact ⟨_, (by first | rfl | (simp; done) | (simp [*]; done)), ⟨by first | rfl | (simp; done) | (simp [*]; done)⟩, ⟨by (with_reducible repeat (first | apply Kd.R_alloc | apply Kd.R_drewN | apply Kd.R_drew)); exact Kd.R_mono HO_5.out (fun _ hk => ⟨hk.1.1, ⟨hk.1.2.1, hk.1.2.2⟩⟩)⟩, ⟨by (with_reducible repeat (first | apply Kd.R_alloc | apply Kd.R_drewN | apply Kd.R_drew)); exact Kd.R_mono HO_7.out (fun _ hk => ⟨hk.1.1, ⟨hk.1.2.1, hk.1.2.2⟩⟩)⟩, ⟨by (with_reducible repeat (first | apply Kd.R_alloc | apply Kd.R_drewN | apply Kd.R_drew)); exact Kd.R_mono HO_9.out (fun _ hk => ⟨hk.1.1, ⟨hk.1.2.1, hk.1.2.2⟩⟩)⟩, ⟨by (with_reducible repeat (first | refine blk_drewN ?_ _ | refine blk_drew ?_ | refine blk_alloc ?_ _)); exact BK463.out⟩, ⟨by repeat (first | (with_reducible first | exact HB.out | apply below_alloc | apply pw_below_drewN | apply below_drew1 | refine below_set ?_ GE463.out | refine below_set ?_ GE465.out) | exact HB.out)⟩⟩
                              case rest =>
                                obtain ⟨y_, rfl, E_, HO_5, HO_7, HO_9, BK463, HB⟩ := hcut
                                obtain rfl := E_.out
                                clear E_
                                go_upto_region 17 with (fail)
                                go_cut [14] (fun v14 wc => ∃ (y_ : Bool), v14 = .bool y_ ∧ Aside0 (y_ = (x14_4 || (t466 == 4 || (t466 == 5 || (t466 == 7 || t466 == 8))))) ∧ Aside0 (Kd.R k23 23 wc w.heap.size (fun k_ => some k_ ≠ (v453 : Value).ownBlock ∧ some k_ ≠ (v457 : Value).ownBlock ∧ k_ ≠ gb463) v449 t448) ∧ Aside0 (Kd.R k23 23 wc w.heap.size (fun k_ => some k_ ≠ (v449 : Value).ownBlock ∧ some k_ ≠ (v457 : Value).ownBlock ∧ k_ ≠ gb463) v453 t452) ∧ Aside0 (Kd.R k23 23 wc w.heap.size (fun k_ => some k_ ≠ (v449 : Value).ownBlock ∧ some k_ ≠ (v453 : Value).ownBlock ∧ k_ ≠ gb463) v457 t456) ∧ Aside0 (wc.heap[gb463]? = some (.cells #[.int .i64 ((rd_T23 l0 x68_3).f0), .int .i64 ((rd_T23 l0 x68_3).f1)] 23 (0, 0))) ∧ Aside0 (Below w.heap.size w wc))
                                case first =>
                                  cases x14_4 with
                                  | true =>
                                    go_wp2
                                    go_meet
                                    case rel => exact ⟨_, (by first | rfl | (simp; done) | (simp [*]; done)), ⟨by first | rfl | (simp; done) | (simp [*]; done)⟩, ⟨by (with_reducible repeat (first | apply Kd.R_alloc | apply Kd.R_drewN | apply Kd.R_drew)); exact HO_5.out⟩, ⟨by (with_reducible repeat (first | apply Kd.R_alloc | apply Kd.R_drewN | apply Kd.R_drew)); exact HO_7.out⟩, ⟨by (with_reducible repeat (first | apply Kd.R_alloc | apply Kd.R_drewN | apply Kd.R_drew)); exact HO_9.out⟩, ⟨by (with_reducible repeat (first | refine blk_drewN ?_ _ | refine blk_drew ?_ | refine blk_alloc ?_ _)); exact BK463.out⟩, ⟨by repeat (first | (with_reducible first | exact HB.out | apply below_alloc | apply pw_below_drewN | apply below_drew1) | exact HB.out)⟩⟩
                                  | false =>
                                    by_cases c4_ : t466 = 4
                                    · have f4_ : (t466 == 4) = true := beq_iff_eq.mpr c4_
                                      have g4_ : (t466 != 4) = false := bne_eq_false_iff_eq.mpr c4_
                                      clear c4_
                                      go_wp2
                                      go_meet
                                      case rel => exact ⟨_, (by first | rfl | (simp; done) | (simp [*]; done)), ⟨by first | rfl | (simp; done) | (simp [*]; done)⟩, ⟨by (with_reducible repeat (first | apply Kd.R_alloc | apply Kd.R_drewN | apply Kd.R_drew)); exact HO_5.out⟩, ⟨by (with_reducible repeat (first | apply Kd.R_alloc | apply Kd.R_drewN | apply Kd.R_drew)); exact HO_7.out⟩, ⟨by (with_reducible repeat (first | apply Kd.R_alloc | apply Kd.R_drewN | apply Kd.R_drew)); exact HO_9.out⟩, ⟨by (with_reducible repeat (first | refine blk_drewN ?_ _ | refine blk_drew ?_ | refine blk_alloc ?_ _)); exact BK463.out⟩, ⟨by repeat (first | (with_reducible first | exact HB.out | apply below_alloc | apply pw_below_drewN | apply below_drew1) | exact HB.out)⟩⟩
                                    have f4_ : (t466 == 4) = false := beq_eq_false_iff_ne.mpr c4_
                                    have g4_ : (t466 != 4) = true := bne_iff_ne.mpr c4_
                                    clear c4_
                                    by_cases c5_ : t466 = 5
                                    · have f5_ : (t466 == 5) = true := beq_iff_eq.mpr c5_
                                      have g5_ : (t466 != 5) = false := bne_eq_false_iff_eq.mpr c5_
                                      clear c5_
                                      go_wp2
                                      go_meet
                                      case rel => exact ⟨_, (by first | rfl | (simp; done) | (simp [*]; done)), ⟨by first | rfl | (simp; done) | (simp [*]; done)⟩, ⟨by (with_reducible repeat (first | apply Kd.R_alloc | apply Kd.R_drewN | apply Kd.R_drew)); exact HO_5.out⟩, ⟨by (with_reducible repeat (first | apply Kd.R_alloc | apply Kd.R_drewN | apply Kd.R_drew)); exact HO_7.out⟩, ⟨by (with_reducible repeat (first | apply Kd.R_alloc | apply Kd.R_drewN | apply Kd.R_drew)); exact HO_9.out⟩, ⟨by (with_reducible repeat (first | refine blk_drewN ?_ _ | refine blk_drew ?_ | refine blk_alloc ?_ _)); exact BK463.out⟩, ⟨by repeat (first | (with_reducible first | exact HB.out | apply below_alloc | apply pw_below_drewN | apply below_drew1) | exact HB.out)⟩⟩
                                    have f5_ : (t466 == 5) = false := beq_eq_false_iff_ne.mpr c5_
                                    have g5_ : (t466 != 5) = true := bne_iff_ne.mpr c5_
                                    clear c5_
                                    by_cases c7_ : t466 = 7
                                    · have f7_ : (t466 == 7) = true := beq_iff_eq.mpr c7_
                                      have g7_ : (t466 != 7) = false := bne_eq_false_iff_eq.mpr c7_
                                      clear c7_
                                      go_wp2
                                      go_meet
                                      case rel => exact ⟨_, (by first | rfl | (simp; done) | (simp [*]; done)), ⟨by first | rfl | (simp; done) | (simp [*]; done)⟩, ⟨by (with_reducible repeat (first | apply Kd.R_alloc | apply Kd.R_drewN | apply Kd.R_drew)); exact HO_5.out⟩, ⟨by (with_reducible repeat (first | apply Kd.R_alloc | apply Kd.R_drewN | apply Kd.R_drew)); exact HO_7.out⟩, ⟨by (with_reducible repeat (first | apply Kd.R_alloc | apply Kd.R_drewN | apply Kd.R_drew)); exact HO_9.out⟩, ⟨by (with_reducible repeat (first | refine blk_drewN ?_ _ | refine blk_drew ?_ | refine blk_alloc ?_ _)); exact BK463.out⟩, ⟨by repeat (first | (with_reducible first | exact HB.out | apply below_alloc | apply pw_below_drewN | apply below_drew1) | exact HB.out)⟩⟩
                                    have f7_ : (t466 == 7) = false := beq_eq_false_iff_ne.mpr c7_
                                    have g7_ : (t466 != 7) = true := bne_iff_ne.mpr c7_
                                    clear c7_
                                    go_wp2
                                    go_meet
                                    case rel => exact ⟨_, (by first | rfl | (simp; done) | (simp [*]; done)), ⟨by first | rfl | (simp; done) | (simp [*]; done)⟩, ⟨by (with_reducible repeat (first | apply Kd.R_alloc | apply Kd.R_drewN | apply Kd.R_drew)); exact HO_5.out⟩, ⟨by (with_reducible repeat (first | apply Kd.R_alloc | apply Kd.R_drewN | apply Kd.R_drew)); exact HO_7.out⟩, ⟨by (with_reducible repeat (first | apply Kd.R_alloc | apply Kd.R_drewN | apply Kd.R_drew)); exact HO_9.out⟩, ⟨by (with_reducible repeat (first | refine blk_drewN ?_ _ | refine blk_drew ?_ | refine blk_alloc ?_ _)); exact BK463.out⟩, ⟨by repeat (first | (with_reducible first | exact HB.out | apply below_alloc | apply pw_below_drewN | apply below_drew1) | exact HB.out)⟩⟩
                                case rest =>
                                  obtain ⟨y_, rfl, E_, HO_5, HO_7, HO_9, BK463, HB⟩ := hcut
                                  obtain rfl := E_.out
                                  clear E_
                                  cases x15_4 with
                                  | true =>
                                    go_wp2
                                    go_roundg k4
                                    case measure => have := HJ2.out; have := HJ8.out; have := HK3.out; have := HK4.out; omega
                                    case rel => exact ⟨_, _, _, (wrap64 (x74_4 + 1)), (by first | rfl | (simp; done) | (simp [*]; done)), (by first | rfl | (simp; done) | (simp [*]; done)), (by first | rfl | (simp; done) | (simp [*]; done)), (by first | rfl | (simp; done) | (simp [*]; done)), H', ⟨by have := HJ2.out; have := HJ8.out; have := HK3.out; have := HK4.out; omega⟩, ⟨by (with_reducible repeat (first | apply Kd.R_alloc | apply Kd.R_drewN | apply Kd.R_drew)); exact HO_5.out⟩, ⟨by (with_reducible repeat (first | apply Kd.R_alloc | apply Kd.R_drewN | apply Kd.R_drew)); exact HO_7.out⟩, ⟨by (with_reducible repeat (first | apply Kd.R_alloc | apply Kd.R_drewN | apply Kd.R_drew)); exact HO_9.out⟩, ⟨by (with_reducible repeat (first | refine blk_drewN ?_ _ | refine blk_drew ?_ | refine blk_alloc ?_ _)); exact BK463.out⟩, ⟨by repeat (first | (with_reducible first | exact HB.out | apply below_alloc | apply pw_below_drewN | apply below_drew1 | refine below_set ?_ GE463.out | refine below_set ?_ GE465.out) | exact HB.out)⟩⟩
                                  | false =>
                                    by_cases c3_ : 3 ≤ t466
                                    · have f3_ : decide (3 ≤ t466) = true := decide_eq_true c3_
                                      clear c3_
                                      go_wp2
                                      go_roundg k4
                                      case measure => have := HJ2.out; have := HJ8.out; have := HK3.out; have := HK4.out; omega
                                      case rel => exact ⟨_, _, _, (wrap64 (x74_4 + 1)), (by first | rfl | (simp; done) | (simp [*]; done)), (by first | rfl | (simp; done) | (simp [*]; done)), (by first | rfl | (simp; done) | (simp [*]; done)), (by first | rfl | (simp; done) | (simp [*]; done)), H', ⟨by have := HJ2.out; have := HJ8.out; have := HK3.out; have := HK4.out; omega⟩, ⟨by (with_reducible repeat (first | apply Kd.R_alloc | apply Kd.R_drewN | apply Kd.R_drew)); exact HO_5.out⟩, ⟨by (with_reducible repeat (first | apply Kd.R_alloc | apply Kd.R_drewN | apply Kd.R_drew)); exact HO_7.out⟩, ⟨by (with_reducible repeat (first | apply Kd.R_alloc | apply Kd.R_drewN | apply Kd.R_drew)); exact HO_9.out⟩, ⟨by (with_reducible repeat (first | refine blk_drewN ?_ _ | refine blk_drew ?_ | refine blk_alloc ?_ _)); exact BK463.out⟩, ⟨by repeat (first | (with_reducible first | exact HB.out | apply below_alloc | apply pw_below_drewN | apply below_drew1 | refine below_set ?_ GE463.out | refine below_set ?_ GE465.out) | exact HB.out)⟩⟩
                                    have f3_ : decide (3 ≤ t466) = false := decide_eq_false c3_
                                    clear c3_
                                    go_wp2
                                    go_roundg k4
                                    case measure => have := HJ2.out; have := HJ8.out; have := HK3.out; have := HK4.out; omega
                                    case rel => exact ⟨_, _, _, (wrap64 (x74_4 + 1)), (by first | rfl | (simp; done) | (simp [*]; done)), (by first | rfl | (simp; done) | (simp [*]; done)), (by first | rfl | (simp; done) | (simp [*]; done)), (by first | rfl | (simp; done) | (simp [*]; done)), H', ⟨by have := HJ2.out; have := HJ8.out; have := HK3.out; have := HK4.out; omega⟩, ⟨by (with_reducible repeat (first | apply Kd.R_alloc | apply Kd.R_drewN | apply Kd.R_drew)); exact HO_5.out⟩, ⟨by (with_reducible repeat (first | apply Kd.R_alloc | apply Kd.R_drewN | apply Kd.R_drew)); exact HO_7.out⟩, ⟨by (with_reducible repeat (first | apply Kd.R_alloc | apply Kd.R_drewN | apply Kd.R_drew)); exact HO_9.out⟩, ⟨by (with_reducible repeat (first | refine blk_drewN ?_ _ | refine blk_drew ?_ | refine blk_alloc ?_ _)); exact BK463.out⟩, ⟨by repeat (first | (with_reducible first | exact HB.out | apply below_alloc | apply pw_below_drewN | apply below_drew1 | refine below_set ?_ GE463.out | refine below_set ?_ GE465.out) | exact HB.out)⟩⟩
                            rw [if_neg c27] at H
                            exact absurd H (by simp)
                          rw [if_neg c26] at H
                          exact absurd H (by simp)
                        rw [if_neg c25] at H
                        have c25b0 : decide (x74_4 < (l1.length : Int)) = false := decide_eq_false c25
                        clear c25
                        replace H := Option.bind_eq_some_iff.mp H
                        obtain ⟨t467, A4240, H⟩ := H
                        replace H : (if (x13_4 != t467) = true then (some false) else ((corporalaw11_has.f k4 t452 ((rd_T23 l0 x68_3).f0) ((rd_T23 l0 x68_3).f1)).bind fun t468 => (if (x14_4 != t468) = true then (some false) else ((corporalaw11_has.f k4 t456 ((rd_T23 l0 x68_3).f0) ((rd_T23 l0 x68_3).f1)).bind fun t469 => (if (x15_4 != t469) = true then (some false) else (corporalaw11_IntervalAllen.l0 k4 l0 l1 t448 t452 t456 l0 (l0.length : Int) (wrap64 (x68_3 + 1)))))))) = some r := H
                        have A424 := Aside0.mk A4240
                        clear A4240
                        by_cases c425 : (x13_4 != t467) = true
                        · rw [if_pos c425] at H
                          have c425b0 : (x13_4 != t467) = true := c425
                          (try (have c425b1 : decide (x13_4 = t467) = false := by simpa using c425))
                          (try (have c425b2 : (x13_4 == t467) = false := by simpa using c425))
                          (try (have c425b3 : ¬ (x13_4 = t467) := by simpa using c425))
                          clear c425
                          obtain rfl := Option.some.inj H
                          have hcz426_0 : wr.cell? ⟨gb463, 0, none⟩ = some (.int .i64 ((rd_T23 l0 x68_3).f0)) := (blk_cell BK463.out 0).trans rfl
                          have hcz426_1 : wr.cell? ⟨gb463, 1, none⟩ = some (.int .i64 ((rd_T23 l0 x68_3).f1)) := (blk_cell BK463.out 1).trans rfl
                          have hfz426_0 := blk_frozen BK463.out 0
                          have hfz426_1 := blk_frozen BK463.out 1
                          obtain ⟨Ao427, co427, eo427⟩ := Kd.R_slice HO_5.out
                          subst eo427
                          go_wp2_with (first | ((with_reducible refine gate_callee (f := 26) rfl ?_); refine goesL_ (some 128) rfl rfl Try.func26 (by kernel_rfl) rfl #[.slice Ao427 t448.length co427, .agg #[.int .i64 ((rd_T23 l0 x68_3).f0), .int .i64 ((rd_T23 l0 x68_3).f1)]] rfl (by (try simp only [List.map_toArray, List.map_cons, List.map_nil]); first | done | rfl | (simp only [List.length_drop, List.length_take]; rfl)) ?_; (with_reducible refine (corporalaw11_has.calls k4 _ _ t448 ((rd_T23 l0 x68_3).f0) ((rd_T23 l0 x68_3).f1) t467 _ ?side1 ?side2 A424.out).mono ?_); (case side1 => repeat (first | exact (Kd.R_reads' HO_5.out).2.2 | (with_reducible refine Kd.C_alloc ?_ _) | (with_reducible refine Kd.C_drewN ?_ _) | (with_reducible refine Kd.C_drew ?_))); (case side2 => exact (Kd.R_reads' HO_5.out).2.1); rintro e w428 ⟨rfl, hb⟩; refine ⟨_, rfl, ?_⟩; have n0_ := Aside0.mk (Kd.R_below (by (with_reducible repeat (first | apply Kd.R_alloc | apply Kd.R_drewN | apply Kd.R_drew)); exact HO_5.out) hb); have n1_ := Aside0.mk (Kd.R_below (by (with_reducible repeat (first | apply Kd.R_alloc | apply Kd.R_drewN | apply Kd.R_drew)); exact HO_7.out) hb); have n2_ := Aside0.mk (Kd.R_below (by (with_reducible repeat (first | apply Kd.R_alloc | apply Kd.R_drewN | apply Kd.R_drew)); exact HO_9.out) hb); have n3_ := Aside0.mk (blk_below (g := gb463) (o := .cells #[.int .i64 ((rd_T23 l0 x68_3).f0), .int .i64 ((rd_T23 l0 x68_3).f1)] 23 (0, 0)) (by (with_reducible repeat (first | refine blk_drewN ?_ _ | refine blk_drew ?_ | refine blk_alloc ?_ _)); exact BK463.out) hb); have n4_ := Aside0.mk (below_step (by repeat (first | (with_reducible first | exact HB.out | apply below_alloc | apply pw_below_drewN | apply below_drew1 | refine below_set ?_ GE463.out) | exact HB.out)) hb); clear HO_5; clear HO_7; clear HO_9; clear BK463; clear HB; have HO_5 := n0_; have HO_7 := n1_; have HO_9 := n2_; have BK463 := n3_; have HB := n4_; clear n0_ n1_ n2_ n3_ n4_; (try clear hb); (try clear hb2); (try clear hk); (try clear hi)))
                          go_ret
                          exact ⟨by first | rfl | (simp [errW_none, errW_some] <;> rfl) | (simp [*, errW_none, errW_some] <;> rfl), by repeat (first | (with_reducible first | exact HB.out | apply below_alloc | apply pw_below_drewN | apply below_drew1 | refine below_set ?_ GE463.out) | exact HB.out)⟩
                        rw [if_neg c425] at H
                        have c425b0 : (x13_4 != t467) = false := by simpa using c425
                        (try (have c425b1 : decide (x13_4 = t467) = true := by simpa using c425))
                        (try (have c425b2 : (x13_4 == t467) = true := by simpa using c425))
                        clear c425
                        replace H := Option.bind_eq_some_iff.mp H
                        obtain ⟨t468, A4290, H⟩ := H
                        replace H : (if (x14_4 != t468) = true then (some false) else ((corporalaw11_has.f k4 t456 ((rd_T23 l0 x68_3).f0) ((rd_T23 l0 x68_3).f1)).bind fun t469 => (if (x15_4 != t469) = true then (some false) else (corporalaw11_IntervalAllen.l0 k4 l0 l1 t448 t452 t456 l0 (l0.length : Int) (wrap64 (x68_3 + 1)))))) = some r := H
                        have A429 := Aside0.mk A4290
                        clear A4290
                        by_cases c430 : (x14_4 != t468) = true
                        · rw [if_pos c430] at H
                          have c430b0 : (x14_4 != t468) = true := c430
                          (try (have c430b1 : decide (x14_4 = t468) = false := by simpa using c430))
                          (try (have c430b2 : (x14_4 == t468) = false := by simpa using c430))
                          (try (have c430b3 : ¬ (x14_4 = t468) := by simpa using c430))
                          clear c430
                          obtain rfl := Option.some.inj H
                          have hcz431_0 : wr.cell? ⟨gb463, 0, none⟩ = some (.int .i64 ((rd_T23 l0 x68_3).f0)) := (blk_cell BK463.out 0).trans rfl
                          have hcz431_1 : wr.cell? ⟨gb463, 1, none⟩ = some (.int .i64 ((rd_T23 l0 x68_3).f1)) := (blk_cell BK463.out 1).trans rfl
                          have hfz431_0 := blk_frozen BK463.out 0
                          have hfz431_1 := blk_frozen BK463.out 1
                          obtain ⟨Ao432, co432, eo432⟩ := Kd.R_slice HO_5.out
                          subst eo432
                          go_wp2_with (first | ((with_reducible refine gate_callee (f := 26) rfl ?_); refine goesL_ (some 128) rfl rfl Try.func26 (by kernel_rfl) rfl #[.slice Ao432 t448.length co432, .agg #[.int .i64 ((rd_T23 l0 x68_3).f0), .int .i64 ((rd_T23 l0 x68_3).f1)]] rfl (by (try simp only [List.map_toArray, List.map_cons, List.map_nil]); first | done | rfl | (simp only [List.length_drop, List.length_take]; rfl)) ?_; (with_reducible refine (corporalaw11_has.calls k4 _ _ t448 ((rd_T23 l0 x68_3).f0) ((rd_T23 l0 x68_3).f1) t467 _ ?side1 ?side2 A424.out).mono ?_); (case side1 => repeat (first | exact (Kd.R_reads' HO_5.out).2.2 | (with_reducible refine Kd.C_alloc ?_ _) | (with_reducible refine Kd.C_drewN ?_ _) | (with_reducible refine Kd.C_drew ?_))); (case side2 => exact (Kd.R_reads' HO_5.out).2.1); rintro e w433 ⟨rfl, hb⟩; refine ⟨_, rfl, ?_⟩; have n0_ := Aside0.mk (Kd.R_below (by (with_reducible repeat (first | apply Kd.R_alloc | apply Kd.R_drewN | apply Kd.R_drew)); exact HO_5.out) hb); have n1_ := Aside0.mk (Kd.R_below (by (with_reducible repeat (first | apply Kd.R_alloc | apply Kd.R_drewN | apply Kd.R_drew)); exact HO_7.out) hb); have n2_ := Aside0.mk (Kd.R_below (by (with_reducible repeat (first | apply Kd.R_alloc | apply Kd.R_drewN | apply Kd.R_drew)); exact HO_9.out) hb); have n3_ := Aside0.mk (blk_below (g := gb463) (o := .cells #[.int .i64 ((rd_T23 l0 x68_3).f0), .int .i64 ((rd_T23 l0 x68_3).f1)] 23 (0, 0)) (by (with_reducible repeat (first | refine blk_drewN ?_ _ | refine blk_drew ?_ | refine blk_alloc ?_ _)); exact BK463.out) hb); have n4_ := Aside0.mk (below_step (by repeat (first | (with_reducible first | exact HB.out | apply below_alloc | apply pw_below_drewN | apply below_drew1 | refine below_set ?_ GE463.out) | exact HB.out)) hb); clear HO_5; clear HO_7; clear HO_9; clear BK463; clear HB; have HO_5 := n0_; have HO_7 := n1_; have HO_9 := n2_; have BK463 := n3_; have HB := n4_; clear n0_ n1_ n2_ n3_ n4_; (try clear hb); (try clear hb2); (try clear hk); (try clear hi); have hcz434_0 : w433.cell? ⟨gb463, 0, none⟩ = some (.int .i64 ((rd_T23 l0 x68_3).f0)) := (blk_cell BK463.out 0).trans rfl; have hcz434_1 : w433.cell? ⟨gb463, 1, none⟩ = some (.int .i64 ((rd_T23 l0 x68_3).f1)) := (blk_cell BK463.out 1).trans rfl; have hfz434_0 := blk_frozen BK463.out 0; have hfz434_1 := blk_frozen BK463.out 1; obtain ⟨Ao435, co435, eo435⟩ := Kd.R_slice HO_7.out; subst eo435) | (go_at_call 26; (with_reducible refine (corporalaw11_has.calls k4 _ _ t452 ((rd_T23 l0 x68_3).f0) ((rd_T23 l0 x68_3).f1) t468 _ ?side1 ?side2 A429.out).mono ?_); (case side1 => repeat (first | exact (Kd.R_reads' HO_7.out).2.2 | (with_reducible refine Kd.C_alloc ?_ _) | (with_reducible refine Kd.C_drewN ?_ _) | (with_reducible refine Kd.C_drew ?_))); (case side2 => exact (Kd.R_reads' HO_7.out).2.1); rintro e w436 ⟨rfl, hb⟩; have n0_ := Aside0.mk (Kd.R_below (by (with_reducible repeat (first | apply Kd.R_alloc | apply Kd.R_drewN | apply Kd.R_drew)); exact HO_5.out) hb); have n1_ := Aside0.mk (Kd.R_below (by (with_reducible repeat (first | apply Kd.R_alloc | apply Kd.R_drewN | apply Kd.R_drew)); exact HO_7.out) hb); have n2_ := Aside0.mk (Kd.R_below (by (with_reducible repeat (first | apply Kd.R_alloc | apply Kd.R_drewN | apply Kd.R_drew)); exact HO_9.out) hb); have n3_ := Aside0.mk (blk_below (g := gb463) (o := .cells #[.int .i64 ((rd_T23 l0 x68_3).f0), .int .i64 ((rd_T23 l0 x68_3).f1)] 23 (0, 0)) (by (with_reducible repeat (first | refine blk_drewN ?_ _ | refine blk_drew ?_ | refine blk_alloc ?_ _)); exact BK463.out) hb); have n4_ := Aside0.mk (below_step (by repeat (first | (with_reducible first | exact HB.out | apply below_alloc | apply pw_below_drewN | apply below_drew1 | refine below_set ?_ GE463.out) | exact HB.out)) hb); clear HO_5; clear HO_7; clear HO_9; clear BK463; clear HB; have HO_5 := n0_; have HO_7 := n1_; have HO_9 := n2_; have BK463 := n3_; have HB := n4_; clear n0_ n1_ n2_ n3_ n4_; (try clear hb); (try clear hb2); (try clear hk); (try clear hi)))
                          go_ret
                          exact ⟨by first | rfl | (simp [errW_none, errW_some] <;> rfl) | (simp [*, errW_none, errW_some] <;> rfl), by repeat (first | (with_reducible first | exact HB.out | apply below_alloc | apply pw_below_drewN | apply below_drew1 | refine below_set ?_ GE463.out) | exact HB.out)⟩
                        rw [if_neg c430] at H
                        have c430b0 : (x14_4 != t468) = false := by simpa using c430
                        (try (have c430b1 : decide (x14_4 = t468) = true := by simpa using c430))
                        (try (have c430b2 : (x14_4 == t468) = true := by simpa using c430))
                        clear c430
                        replace H := Option.bind_eq_some_iff.mp H
                        obtain ⟨t469, A4370, H⟩ := H
                        replace H : (if (x15_4 != t469) = true then (some false) else (corporalaw11_IntervalAllen.l0 k4 l0 l1 t448 t452 t456 l0 (l0.length : Int) (wrap64 (x68_3 + 1)))) = some r := H
                        have A437 := Aside0.mk A4370
                        clear A4370
                        by_cases c438 : (x15_4 != t469) = true
                        · rw [if_pos c438] at H
                          have c438b0 : (x15_4 != t469) = true := c438
                          (try (have c438b1 : decide (x15_4 = t469) = false := by simpa using c438))
                          (try (have c438b2 : (x15_4 == t469) = false := by simpa using c438))
                          (try (have c438b3 : ¬ (x15_4 = t469) := by simpa using c438))
                          clear c438
                          obtain rfl := Option.some.inj H
                          have hcz439_0 : wr.cell? ⟨gb463, 0, none⟩ = some (.int .i64 ((rd_T23 l0 x68_3).f0)) := (blk_cell BK463.out 0).trans rfl
                          have hcz439_1 : wr.cell? ⟨gb463, 1, none⟩ = some (.int .i64 ((rd_T23 l0 x68_3).f1)) := (blk_cell BK463.out 1).trans rfl
                          have hfz439_0 := blk_frozen BK463.out 0
                          have hfz439_1 := blk_frozen BK463.out 1
                          obtain ⟨Ao440, co440, eo440⟩ := Kd.R_slice HO_5.out
                          subst eo440
                          go_wp2_with (first | ((with_reducible refine gate_callee (f := 26) rfl ?_); refine goesL_ (some 128) rfl rfl Try.func26 (by kernel_rfl) rfl #[.slice Ao440 t448.length co440, .agg #[.int .i64 ((rd_T23 l0 x68_3).f0), .int .i64 ((rd_T23 l0 x68_3).f1)]] rfl (by (try simp only [List.map_toArray, List.map_cons, List.map_nil]); first | done | rfl | (simp only [List.length_drop, List.length_take]; rfl)) ?_; (with_reducible refine (corporalaw11_has.calls k4 _ _ t448 ((rd_T23 l0 x68_3).f0) ((rd_T23 l0 x68_3).f1) t467 _ ?side1 ?side2 A424.out).mono ?_); (case side1 => repeat (first | exact (Kd.R_reads' HO_5.out).2.2 | (with_reducible refine Kd.C_alloc ?_ _) | (with_reducible refine Kd.C_drewN ?_ _) | (with_reducible refine Kd.C_drew ?_))); (case side2 => exact (Kd.R_reads' HO_5.out).2.1); rintro e w441 ⟨rfl, hb⟩; refine ⟨_, rfl, ?_⟩; have n0_ := Aside0.mk (Kd.R_below (by (with_reducible repeat (first | apply Kd.R_alloc | apply Kd.R_drewN | apply Kd.R_drew)); exact HO_5.out) hb); have n1_ := Aside0.mk (Kd.R_below (by (with_reducible repeat (first | apply Kd.R_alloc | apply Kd.R_drewN | apply Kd.R_drew)); exact HO_7.out) hb); have n2_ := Aside0.mk (Kd.R_below (by (with_reducible repeat (first | apply Kd.R_alloc | apply Kd.R_drewN | apply Kd.R_drew)); exact HO_9.out) hb); have n3_ := Aside0.mk (blk_below (g := gb463) (o := .cells #[.int .i64 ((rd_T23 l0 x68_3).f0), .int .i64 ((rd_T23 l0 x68_3).f1)] 23 (0, 0)) (by (with_reducible repeat (first | refine blk_drewN ?_ _ | refine blk_drew ?_ | refine blk_alloc ?_ _)); exact BK463.out) hb); have n4_ := Aside0.mk (below_step (by repeat (first | (with_reducible first | exact HB.out | apply below_alloc | apply pw_below_drewN | apply below_drew1 | refine below_set ?_ GE463.out) | exact HB.out)) hb); clear HO_5; clear HO_7; clear HO_9; clear BK463; clear HB; have HO_5 := n0_; have HO_7 := n1_; have HO_9 := n2_; have BK463 := n3_; have HB := n4_; clear n0_ n1_ n2_ n3_ n4_; (try clear hb); (try clear hb2); (try clear hk); (try clear hi); have hcz442_0 : w441.cell? ⟨gb463, 0, none⟩ = some (.int .i64 ((rd_T23 l0 x68_3).f0)) := (blk_cell BK463.out 0).trans rfl; have hcz442_1 : w441.cell? ⟨gb463, 1, none⟩ = some (.int .i64 ((rd_T23 l0 x68_3).f1)) := (blk_cell BK463.out 1).trans rfl; have hfz442_0 := blk_frozen BK463.out 0; have hfz442_1 := blk_frozen BK463.out 1; obtain ⟨Ao443, co443, eo443⟩ := Kd.R_slice HO_7.out; subst eo443) | (go_at_call 26; (with_reducible refine (corporalaw11_has.calls k4 _ _ t452 ((rd_T23 l0 x68_3).f0) ((rd_T23 l0 x68_3).f1) t468 _ ?side1 ?side2 A429.out).mono ?_); (case side1 => repeat (first | exact (Kd.R_reads' HO_7.out).2.2 | (with_reducible refine Kd.C_alloc ?_ _) | (with_reducible refine Kd.C_drewN ?_ _) | (with_reducible refine Kd.C_drew ?_))); (case side2 => exact (Kd.R_reads' HO_7.out).2.1); rintro e w444 ⟨rfl, hb⟩; have n0_ := Aside0.mk (Kd.R_below (by (with_reducible repeat (first | apply Kd.R_alloc | apply Kd.R_drewN | apply Kd.R_drew)); exact HO_5.out) hb); have n1_ := Aside0.mk (Kd.R_below (by (with_reducible repeat (first | apply Kd.R_alloc | apply Kd.R_drewN | apply Kd.R_drew)); exact HO_7.out) hb); have n2_ := Aside0.mk (Kd.R_below (by (with_reducible repeat (first | apply Kd.R_alloc | apply Kd.R_drewN | apply Kd.R_drew)); exact HO_9.out) hb); have n3_ := Aside0.mk (blk_below (g := gb463) (o := .cells #[.int .i64 ((rd_T23 l0 x68_3).f0), .int .i64 ((rd_T23 l0 x68_3).f1)] 23 (0, 0)) (by (with_reducible repeat (first | refine blk_drewN ?_ _ | refine blk_drew ?_ | refine blk_alloc ?_ _)); exact BK463.out) hb); have n4_ := Aside0.mk (below_step (by repeat (first | (with_reducible first | exact HB.out | apply below_alloc | apply pw_below_drewN | apply below_drew1 | refine below_set ?_ GE463.out) | exact HB.out)) hb); clear HO_5; clear HO_7; clear HO_9; clear BK463; clear HB; have HO_5 := n0_; have HO_7 := n1_; have HO_9 := n2_; have BK463 := n3_; have HB := n4_; clear n0_ n1_ n2_ n3_ n4_; (try clear hb); (try clear hb2); (try clear hk); (try clear hi); have hcz445_0 : w444.cell? ⟨gb463, 0, none⟩ = some (.int .i64 ((rd_T23 l0 x68_3).f0)) := (blk_cell BK463.out 0).trans rfl; have hcz445_1 : w444.cell? ⟨gb463, 1, none⟩ = some (.int .i64 ((rd_T23 l0 x68_3).f1)) := (blk_cell BK463.out 1).trans rfl; have hfz445_0 := blk_frozen BK463.out 0; have hfz445_1 := blk_frozen BK463.out 1; obtain ⟨Ao446, co446, eo446⟩ := Kd.R_slice HO_9.out; subst eo446) | (go_at_call 26; (with_reducible refine (corporalaw11_has.calls k4 _ _ t456 ((rd_T23 l0 x68_3).f0) ((rd_T23 l0 x68_3).f1) t469 _ ?side1 ?side2 A437.out).mono ?_); (case side1 => repeat (first | exact (Kd.R_reads' HO_9.out).2.2 | (with_reducible refine Kd.C_alloc ?_ _) | (with_reducible refine Kd.C_drewN ?_ _) | (with_reducible refine Kd.C_drew ?_))); (case side2 => exact (Kd.R_reads' HO_9.out).2.1); rintro e w447 ⟨rfl, hb⟩; have n0_ := Aside0.mk (Kd.R_below (by (with_reducible repeat (first | apply Kd.R_alloc | apply Kd.R_drewN | apply Kd.R_drew)); exact HO_5.out) hb); have n1_ := Aside0.mk (Kd.R_below (by (with_reducible repeat (first | apply Kd.R_alloc | apply Kd.R_drewN | apply Kd.R_drew)); exact HO_7.out) hb); have n2_ := Aside0.mk (Kd.R_below (by (with_reducible repeat (first | apply Kd.R_alloc | apply Kd.R_drewN | apply Kd.R_drew)); exact HO_9.out) hb); have n3_ := Aside0.mk (blk_below (g := gb463) (o := .cells #[.int .i64 ((rd_T23 l0 x68_3).f0), .int .i64 ((rd_T23 l0 x68_3).f1)] 23 (0, 0)) (by (with_reducible repeat (first | refine blk_drewN ?_ _ | refine blk_drew ?_ | refine blk_alloc ?_ _)); exact BK463.out) hb); have n4_ := Aside0.mk (below_step (by repeat (first | (with_reducible first | exact HB.out | apply below_alloc | apply pw_below_drewN | apply below_drew1 | refine below_set ?_ GE463.out) | exact HB.out)) hb); clear HO_5; clear HO_7; clear HO_9; clear BK463; clear HB; have HO_5 := n0_; have HO_7 := n1_; have HO_9 := n2_; have BK463 := n3_; have HB := n4_; clear n0_ n1_ n2_ n3_ n4_; (try clear hb); (try clear hb2); (try clear hk); (try clear hi)))
                          go_ret
                          exact ⟨by first | rfl | (simp [errW_none, errW_some] <;> rfl) | (simp [*, errW_none, errW_some] <;> rfl), by repeat (first | (with_reducible first | exact HB.out | apply below_alloc | apply pw_below_drewN | apply below_drew1 | refine below_set ?_ GE463.out) | exact HB.out)⟩
                        rw [if_neg c438] at H
                        have c438b0 : (x15_4 != t469) = false := by simpa using c438
                        (try (have c438b1 : decide (x15_4 = t469) = true := by simpa using c438))
                        (try (have c438b2 : (x15_4 == t469) = true := by simpa using c438))
                        clear c438
                        have H' := Aside0.mk H
                        clear H
                        have hcz448_0 : wr.cell? ⟨gb463, 0, none⟩ = some (.int .i64 ((rd_T23 l0 x68_3).f0)) := (blk_cell BK463.out 0).trans rfl
                        have hcz448_1 : wr.cell? ⟨gb463, 1, none⟩ = some (.int .i64 ((rd_T23 l0 x68_3).f1)) := (blk_cell BK463.out 1).trans rfl
                        have hfz448_0 := blk_frozen BK463.out 0
                        have hfz448_1 := blk_frozen BK463.out 1
                        obtain ⟨Ao449, co449, eo449⟩ := Kd.R_slice HO_5.out
                        subst eo449
                        go_wp2_with (first | ((with_reducible refine gate_callee (f := 26) rfl ?_); refine goesL_ (some 128) rfl rfl Try.func26 (by kernel_rfl) rfl #[.slice Ao449 t448.length co449, .agg #[.int .i64 ((rd_T23 l0 x68_3).f0), .int .i64 ((rd_T23 l0 x68_3).f1)]] rfl (by (try simp only [List.map_toArray, List.map_cons, List.map_nil]); first | done | rfl | (simp only [List.length_drop, List.length_take]; rfl)) ?_; (with_reducible refine (corporalaw11_has.calls k4 _ _ t448 ((rd_T23 l0 x68_3).f0) ((rd_T23 l0 x68_3).f1) t467 _ ?side1 ?side2 A424.out).mono ?_); (case side1 => repeat (first | exact (Kd.R_reads' HO_5.out).2.2 | (with_reducible refine Kd.C_alloc ?_ _) | (with_reducible refine Kd.C_drewN ?_ _) | (with_reducible refine Kd.C_drew ?_))); (case side2 => exact (Kd.R_reads' HO_5.out).2.1); rintro e w450 ⟨rfl, hb⟩; refine ⟨_, rfl, ?_⟩; have n0_ := Aside0.mk (Kd.R_below (by (with_reducible repeat (first | apply Kd.R_alloc | apply Kd.R_drewN | apply Kd.R_drew)); exact HO_5.out) hb); have n1_ := Aside0.mk (Kd.R_below (by (with_reducible repeat (first | apply Kd.R_alloc | apply Kd.R_drewN | apply Kd.R_drew)); exact HO_7.out) hb); have n2_ := Aside0.mk (Kd.R_below (by (with_reducible repeat (first | apply Kd.R_alloc | apply Kd.R_drewN | apply Kd.R_drew)); exact HO_9.out) hb); have n3_ := Aside0.mk (blk_below (g := gb463) (o := .cells #[.int .i64 ((rd_T23 l0 x68_3).f0), .int .i64 ((rd_T23 l0 x68_3).f1)] 23 (0, 0)) (by (with_reducible repeat (first | refine blk_drewN ?_ _ | refine blk_drew ?_ | refine blk_alloc ?_ _)); exact BK463.out) hb); have n4_ := Aside0.mk (below_step (by repeat (first | (with_reducible first | exact HB.out | apply below_alloc | apply pw_below_drewN | apply below_drew1 | refine below_set ?_ GE463.out) | exact HB.out)) hb); clear HO_5; clear HO_7; clear HO_9; clear BK463; clear HB; have HO_5 := n0_; have HO_7 := n1_; have HO_9 := n2_; have BK463 := n3_; have HB := n4_; clear n0_ n1_ n2_ n3_ n4_; (try clear hb); (try clear hb2); (try clear hk); (try clear hi); have hcz451_0 : w450.cell? ⟨gb463, 0, none⟩ = some (.int .i64 ((rd_T23 l0 x68_3).f0)) := (blk_cell BK463.out 0).trans rfl; have hcz451_1 : w450.cell? ⟨gb463, 1, none⟩ = some (.int .i64 ((rd_T23 l0 x68_3).f1)) := (blk_cell BK463.out 1).trans rfl; have hfz451_0 := blk_frozen BK463.out 0; have hfz451_1 := blk_frozen BK463.out 1; obtain ⟨Ao452, co452, eo452⟩ := Kd.R_slice HO_7.out; subst eo452) | (go_at_call 26; (with_reducible refine (corporalaw11_has.calls k4 _ _ t452 ((rd_T23 l0 x68_3).f0) ((rd_T23 l0 x68_3).f1) t468 _ ?side1 ?side2 A429.out).mono ?_); (case side1 => repeat (first | exact (Kd.R_reads' HO_7.out).2.2 | (with_reducible refine Kd.C_alloc ?_ _) | (with_reducible refine Kd.C_drewN ?_ _) | (with_reducible refine Kd.C_drew ?_))); (case side2 => exact (Kd.R_reads' HO_7.out).2.1); rintro e w453 ⟨rfl, hb⟩; have n0_ := Aside0.mk (Kd.R_below (by (with_reducible repeat (first | apply Kd.R_alloc | apply Kd.R_drewN | apply Kd.R_drew)); exact HO_5.out) hb); have n1_ := Aside0.mk (Kd.R_below (by (with_reducible repeat (first | apply Kd.R_alloc | apply Kd.R_drewN | apply Kd.R_drew)); exact HO_7.out) hb); have n2_ := Aside0.mk (Kd.R_below (by (with_reducible repeat (first | apply Kd.R_alloc | apply Kd.R_drewN | apply Kd.R_drew)); exact HO_9.out) hb); have n3_ := Aside0.mk (blk_below (g := gb463) (o := .cells #[.int .i64 ((rd_T23 l0 x68_3).f0), .int .i64 ((rd_T23 l0 x68_3).f1)] 23 (0, 0)) (by (with_reducible repeat (first | refine blk_drewN ?_ _ | refine blk_drew ?_ | refine blk_alloc ?_ _)); exact BK463.out) hb); have n4_ := Aside0.mk (below_step (by repeat (first | (with_reducible first | exact HB.out | apply below_alloc | apply pw_below_drewN | apply below_drew1 | refine below_set ?_ GE463.out) | exact HB.out)) hb); clear HO_5; clear HO_7; clear HO_9; clear BK463; clear HB; have HO_5 := n0_; have HO_7 := n1_; have HO_9 := n2_; have BK463 := n3_; have HB := n4_; clear n0_ n1_ n2_ n3_ n4_; (try clear hb); (try clear hb2); (try clear hk); (try clear hi); have hcz454_0 : w453.cell? ⟨gb463, 0, none⟩ = some (.int .i64 ((rd_T23 l0 x68_3).f0)) := (blk_cell BK463.out 0).trans rfl; have hcz454_1 : w453.cell? ⟨gb463, 1, none⟩ = some (.int .i64 ((rd_T23 l0 x68_3).f1)) := (blk_cell BK463.out 1).trans rfl; have hfz454_0 := blk_frozen BK463.out 0; have hfz454_1 := blk_frozen BK463.out 1; obtain ⟨Ao455, co455, eo455⟩ := Kd.R_slice HO_9.out; subst eo455) | (go_at_call 26; (with_reducible refine (corporalaw11_has.calls k4 _ _ t456 ((rd_T23 l0 x68_3).f0) ((rd_T23 l0 x68_3).f1) t469 _ ?side1 ?side2 A437.out).mono ?_); (case side1 => repeat (first | exact (Kd.R_reads' HO_9.out).2.2 | (with_reducible refine Kd.C_alloc ?_ _) | (with_reducible refine Kd.C_drewN ?_ _) | (with_reducible refine Kd.C_drew ?_))); (case side2 => exact (Kd.R_reads' HO_9.out).2.1); rintro e w456 ⟨rfl, hb⟩; have n0_ := Aside0.mk (Kd.R_below (by (with_reducible repeat (first | apply Kd.R_alloc | apply Kd.R_drewN | apply Kd.R_drew)); exact HO_5.out) hb); have n1_ := Aside0.mk (Kd.R_below (by (with_reducible repeat (first | apply Kd.R_alloc | apply Kd.R_drewN | apply Kd.R_drew)); exact HO_7.out) hb); have n2_ := Aside0.mk (Kd.R_below (by (with_reducible repeat (first | apply Kd.R_alloc | apply Kd.R_drewN | apply Kd.R_drew)); exact HO_9.out) hb); have n3_ := Aside0.mk (blk_below (g := gb463) (o := .cells #[.int .i64 ((rd_T23 l0 x68_3).f0), .int .i64 ((rd_T23 l0 x68_3).f1)] 23 (0, 0)) (by (with_reducible repeat (first | refine blk_drewN ?_ _ | refine blk_drew ?_ | refine blk_alloc ?_ _)); exact BK463.out) hb); have n4_ := Aside0.mk (below_step (by repeat (first | (with_reducible first | exact HB.out | apply below_alloc | apply pw_below_drewN | apply below_drew1 | refine below_set ?_ GE463.out) | exact HB.out)) hb); clear HO_5; clear HO_7; clear HO_9; clear BK463; clear HB; have HO_5 := n0_; have HO_7 := n1_; have HO_9 := n2_; have BK463 := n3_; have HB := n4_; clear n0_ n1_ n2_ n3_ n4_; (try clear hb); (try clear hb2); (try clear hk); (try clear hi)))
                        go_roundg k4
                        case measure => have := HJ2.out; have := HJ8.out; have := HK3.out; have := HK4.out; omega
                        case rel => exact ⟨(wrap64 (x68_3 + 1)), (by first | rfl | (simp; done) | (simp [*]; done)), H', ⟨by have := HJ2.out; have := HJ8.out; have := HK3.out; have := HK4.out; omega⟩, ⟨by (with_reducible repeat (first | apply Kd.R_alloc | apply Kd.R_drewN | apply Kd.R_drew)); exact Kd.R_mono HO_5.out (fun _ hk => ⟨hk.1, hk.2.1⟩)⟩, ⟨by (with_reducible repeat (first | apply Kd.R_alloc | apply Kd.R_drewN | apply Kd.R_drew)); exact Kd.R_mono HO_7.out (fun _ hk => ⟨hk.1, hk.2.1⟩)⟩, ⟨by (with_reducible repeat (first | apply Kd.R_alloc | apply Kd.R_drewN | apply Kd.R_drew)); exact Kd.R_mono HO_9.out (fun _ hk => ⟨hk.1, hk.2.1⟩)⟩, ⟨by repeat (first | (with_reducible first | exact HB.out | apply below_alloc | apply pw_below_drewN | apply below_drew1 | refine below_set ?_ GE463.out) | exact HB.out)⟩⟩
                  rw [if_neg c22] at H
                  exact absurd H (by simp)
                rw [if_neg c21] at H
                exact absurd H (by simp)
              rw [if_neg c20] at H
              have c20b0 : decide (x68_3 < (l0.length : Int)) = false := decide_eq_false c20
              clear c20
              by_cases c457 : (t448.length : Int) ≤ (l0.length : Int)
              · rw [if_pos c457] at H
                have c457b0 : decide ((t448.length : Int) ≤ (l0.length : Int)) = true := decide_eq_true c457
                have c457b1 : decide (t448.length ≤ l0.length) = true := decide_eq_true (Int.ofNat_le.mp c457)
                clear c457
                by_cases c458 : (t452.length : Int) ≤ (l0.length : Int)
                · rw [if_pos c458] at H
                  have c458b0 : decide ((t452.length : Int) ≤ (l0.length : Int)) = true := decide_eq_true c458
                  have c458b1 : decide (t452.length ≤ l0.length) = true := decide_eq_true (Int.ofNat_le.mp c458)
                  clear c458
                  by_cases c459 : (t456.length : Int) ≤ (l0.length : Int)
                  · rw [if_pos c459] at H
                    have c459b0 : decide ((t456.length : Int) ≤ (l0.length : Int)) = true := decide_eq_true c459
                    have c459b1 : decide (t456.length ≤ l0.length) = true := decide_eq_true (Int.ofNat_le.mp c459)
                    clear c459
                    replace H := Option.bind_eq_some_iff.mp H
                    obtain ⟨t461, A4600, H⟩ := H
                    replace H : (some t461) = some r := H
                    have A460 := Aside0.mk A4600
                    clear A4600
                    obtain rfl := Option.some.inj H
                    obtain ⟨Ao461, co461, eo461⟩ := Kd.R_slice HO_5.out
                    subst eo461
                    obtain ⟨Ao462, co462, eo462⟩ := Kd.R_slice HO_7.out
                    subst eo462
                    obtain ⟨Ao463, co463, eo463⟩ := Kd.R_slice HO_9.out
                    subst eo463
                    go_wp2_with (first | (go_at_call 13; (with_reducible refine (corporalaw11_awake.calls k3  t461 _ A460.out).mono ?_); rintro e w464 ⟨rfl, hb⟩; have n0_ := Aside0.mk (Kd.R_below (by (with_reducible repeat (first | apply Kd.R_alloc | apply Kd.R_drewN | apply Kd.R_drew)); exact HO_5.out) hb); have n1_ := Aside0.mk (Kd.R_below (by (with_reducible repeat (first | apply Kd.R_alloc | apply Kd.R_drewN | apply Kd.R_drew)); exact HO_7.out) hb); have n2_ := Aside0.mk (Kd.R_below (by (with_reducible repeat (first | apply Kd.R_alloc | apply Kd.R_drewN | apply Kd.R_drew)); exact HO_9.out) hb); have n3_ := Aside0.mk (below_step (by repeat (first | (with_reducible first | exact HB.out | apply below_alloc | apply pw_below_drewN | apply below_drew1) | exact HB.out)) hb); clear HO_5; clear HO_7; clear HO_9; clear HB; have HO_5 := n0_; have HO_7 := n1_; have HO_9 := n2_; have HB := n3_; clear n0_ n1_ n2_ n3_; (try clear hb); (try clear hb2); (try clear hk); (try clear hi)))
                    go_ret
                    exact ⟨by first | rfl | (simp [errW_none, errW_some] <;> rfl) | (simp [*, errW_none, errW_some] <;> rfl), by repeat (first | (with_reducible first | exact HB.out | apply below_alloc | apply pw_below_drewN | apply below_drew1) | exact HB.out)⟩
                  rw [if_neg c459] at H
                  have c459b0 : decide ((t456.length : Int) ≤ (l0.length : Int)) = false := decide_eq_false c459
                  have c459b1 : decide (t456.length ≤ l0.length) = false := decide_eq_false (fun h => c459 (Int.ofNat_le.mpr h))
                  clear c459
                  obtain rfl := Option.some.inj H
                  obtain ⟨Ao465, co465, eo465⟩ := Kd.R_slice HO_5.out
                  subst eo465
                  obtain ⟨Ao466, co466, eo466⟩ := Kd.R_slice HO_7.out
                  subst eo466
                  obtain ⟨Ao467, co467, eo467⟩ := Kd.R_slice HO_9.out
                  subst eo467
                  go_wp2
                  go_ret
                  exact ⟨by first | rfl | (simp [errW_none, errW_some] <;> rfl) | (simp [*, errW_none, errW_some] <;> rfl), by repeat (first | (with_reducible first | exact HB.out | apply below_alloc | apply pw_below_drewN | apply below_drew1) | exact HB.out)⟩
                rw [if_neg c458] at H
                have c458b0 : decide ((t452.length : Int) ≤ (l0.length : Int)) = false := decide_eq_false c458
                have c458b1 : decide (t452.length ≤ l0.length) = false := decide_eq_false (fun h => c458 (Int.ofNat_le.mpr h))
                clear c458
                obtain rfl := Option.some.inj H
                obtain ⟨Ao468, co468, eo468⟩ := Kd.R_slice HO_5.out
                subst eo468
                obtain ⟨Ao469, co469, eo469⟩ := Kd.R_slice HO_7.out
                subst eo469
                go_wp2
                go_ret
                exact ⟨by first | rfl | (simp [errW_none, errW_some] <;> rfl) | (simp [*, errW_none, errW_some] <;> rfl), by repeat (first | (with_reducible first | exact HB.out | apply below_alloc | apply pw_below_drewN | apply below_drew1) | exact HB.out)⟩
              rw [if_neg c457] at H
              have c457b0 : decide ((t448.length : Int) ≤ (l0.length : Int)) = false := decide_eq_false c457
              have c457b1 : decide (t448.length ≤ l0.length) = false := decide_eq_false (fun h => c457 (Int.ofNat_le.mpr h))
              clear c457
              obtain rfl := Option.some.inj H
              obtain ⟨Ao470, co470, eo470⟩ := Kd.R_slice HO_5.out
              subst eo470
              go_wp2
              go_ret
              exact ⟨by first | rfl | (simp [errW_none, errW_some] <;> rfl) | (simp [*, errW_none, errW_some] <;> rfl), by repeat (first | (with_reducible first | exact HB.out | apply below_alloc | apply pw_below_drewN | apply below_drew1) | exact HB.out)⟩

end Go.Proofs.Ytbecgpjdeophmaa.Q
