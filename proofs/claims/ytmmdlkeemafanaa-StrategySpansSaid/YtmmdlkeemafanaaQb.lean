import Derived.Test.YtmmdlkeemafanaaQx0
import Derived.Test.YtmmdlkeemafanaaQx1
import Derived.Test.YtmmdlkeemafanaaQa
import Derived.Test.YtmmdlkeemafanaaCd
namespace Go.Proofs.Ytmmdlkeemafanaa.Q
open Go.RowKit Go.Proofs.YtmmdlkeemafanaaW.PrintWords Go.Proofs.YtmmdlkeemafanaaW.PrintLast Go.Proofs.YtmmdlkeemafanaaW.PrintMore
attribute [local go_sem] max2_int min2_int max_two min_two max_three min_three max_four min_four   -- for this text's walks alone
set_option linter.unusedVariables false
set_option linter.unusedSimpArgs false

attribute [local go_sem high] eqA40

/-! ### strategy_Spans: function 16 -/
def strategy_Spans.l0 : Nat → List (S40) → List (S38) → Int → Int → Option ((List (S40)))
  | 0, _, _, _, _ => none
  | k + 1, x3, x6, x7, x8 => if x8 < x7 then (if 0 ≤ x8 then (if x8 < (x6.length : Int) then ((strategy_span.f ((rd_T38 x6 x8).f0) ((rd_T38 x6 x8).f1) ((rd_T38 x6 x8).f2)).bind fun bt132 => (if x3.length < 8796093022208 then (strategy_Spans.l0 k (x3 ++ [(⟨bt132.1, bt132.2⟩ : S40)]) x6 x7 (wrap64 (x8 + 1))) else (none))) else (none)) else (none)) else (some x3)
def strategy_Spans.f (k : Nat) (l0 : List (S38)) : Option ((List (S40))) := (strategy_Spans.l0 k ([] : List (S40)) l0 (l0.length : Int) 0).bind fun x => some (nrm x)
theorem strategy_Spans.mono_l : ∀ k, (∀ y0 y1 y2 y3, LeO (strategy_Spans.l0 k y0 y1 y2 y3) (strategy_Spans.l0 (k + 1) y0 y1 y2 y3))
  | 0 => fun _ _ _ _ r h => by simp [strategy_Spans.l0] at h
  | k + 1 => by
    have ih0 := strategy_Spans.mono_l k
    intro y0 y1 y2 y3
    unfold strategy_Spans.l0
    repeat' first
    | (with_reducible exact ih0 _ _ _ _)
    | (with_reducible exact LeO.refl _)
    | (with_reducible exact LeO.none _)
    | (with_reducible refine LeO.ite ?_ ?_)
    | (with_reducible refine LeO.bind ?_ (fun _ => ?_))
    | exact ih0 _ _ _ _
    | exact LeO.none _
    | refine LeO.ite ?_ ?_
    | refine LeO.bind ?_ (fun _ => ?_)
theorem strategy_Spans.mono : ∀ a0 k, LeO (strategy_Spans.f k a0) (strategy_Spans.f (k + 1) a0) := by
  intro a0 k
  have ih0 := strategy_Spans.mono_l k
  unfold strategy_Spans.f
  repeat' first
      | (with_reducible exact ih0 _ _ _ _)
      | (with_reducible exact LeO.refl _)
      | (with_reducible exact LeO.none _)
      | (with_reducible refine LeO.ite ?_ ?_)
      | (with_reducible refine LeO.bind ?_ (fun _ => ?_))
      | exact ih0 _ _ _ _
      | exact LeO.none _
      | refine LeO.ite ?_ ?_
      | refine LeO.bind ?_ (fun _ => ?_)
set_option maxHeartbeats 8000000 in
set_option maxRecDepth 100000 in
theorem strategy_Spans.calls (k : Nat) (A0 : Option Addr) (c0 : Nat) (l0 : List (S38)) (r : List (S40)) (w : World) (hr0 : Kd.C k38 w A0 l0.length l0) (hc0 : l0.length ≤ c0) (h : strategy_Spans.f k l0 = some r) :
    Calls Try.prog 16 #[.slice A0 l0.length c0] w fun e w' => ∃ v0_ : Value, e = .returned (v0_) ∧ Kd.R k40 40 w' w.heap.size (fun _ => True) v0_ r ∧ Below w.heap.size w w' := by
  have hu38 := Try.underlying38
  have HR0 := Aside0.mk hr0
  have HC0 := Aside0.mk hc0
  clear hr0 hc0
  have HB := Aside0.mk (Below.refl w.heap.size w)
  obtain ⟨r1, H, hr1⟩ := Option.bind_eq_some_iff.mp h
  obtain rfl : nrm r1 = r := Option.some.inj hr1
  clear hr1
  clear h
  have H' := Aside0.mk H
  clear H
  go_enter Try.func16, Try.ntmps16
  go_wp2
  go_loopg [3, 8] k (fun kq v3 v8 w' => ∃ (x3_1 : List (S40)) (x8_1 : Int), v8 = .int .i64 x8_1 ∧ Aside0 (strategy_Spans.l0 kq x3_1 l0 (l0.length : Int) x8_1 = some r1) ∧ Aside0 (kq ≤ k) ∧ Aside0 (Kd.R k40 40 w' w.heap.size (fun _ => True) v3 x3_1) ∧ Aside0 (Below w.heap.size w w') ∧ Aside0 (x3_1.length ≤ 8796093022208))
  case atStart => exact ⟨(([] : List (S40))), (0), (by first | rfl | (simp; done) | (simp [*]; done)), H', ⟨Nat.le_refl _⟩, ⟨by first | exact Kd.R_nil _ _ _ _ _ | exact Kd.N_nil _ _ _ _ _ | exact Kd.V_nil _ _ _ _ _ | exact Kd.Q_nil _ _ _ _ _ | exact Kd.S_nil _ _ _ _ _⟩, ⟨by repeat (first | (with_reducible first | exact HB.out | apply below_alloc | apply pw_below_drewN | apply below_drew1) | exact HB.out)⟩, ⟨Nat.zero_le _⟩⟩
  case round =>
    clear H'
    try clear c1
    obtain ⟨x3_1, x8_1, rfl, HA, HK1, HO_3, HB, HN⟩ := hrel
    cases gk with
    | zero => exact absurd HA.out (by simp [strategy_Spans.l0])
    | succ k1 =>
      have H := HA.out
      clear HA
      simp only [strategy_Spans.l0] at H
      by_cases c2 : x8_1 < (l0.length : Int)
      ·rw [if_pos c2] at H
       have c2b0 : decide (x8_1 < (l0.length : Int)) = true := decide_eq_true c2
       clear c2
       by_cases c3 : 0 ≤ x8_1
       ·rw [if_pos c3] at H
        have c3b0 : decide (0 ≤ x8_1) = true := decide_eq_true c3
        clear c3
        by_cases c4 : x8_1 < (l0.length : Int)
        ·rw [if_pos c4] at H
         have c4b0 : decide (x8_1 < (l0.length : Int)) = true := decide_eq_true c4
         clear c4
         replace H := Option.bind_eq_some_iff.mp H
         obtain ⟨⟨t132, t133⟩, A50, H⟩ := H
         replace H : (if x3_1.length < 8796093022208 then (strategy_Spans.l0 k1 (x3_1 ++ [(⟨t132, t133⟩ : S40)]) l0 (l0.length : Int) (wrap64 (x8_1 + 1))) else (none)) = some r1 := H
         have A5 := Aside0.mk A50
         clear A50
         by_cases c6 : x3_1.length < 8796093022208
         ·rw [if_pos c6] at H
          have LMc6 := Aside0.mk c6
          clear c6
          obtain ⟨y134, hy134⟩ : ∃ y_ : List (S40), y_ = (x3_1 ++ [(⟨t132, t133⟩ : S40)]) := ⟨_, rfl⟩
          replace H : (strategy_Spans.l0 k1 y134 l0 (l0.length : Int) (wrap64 (x8_1 + 1))) = some r1 := by first | (rw [hy134]; with_reducible exact H) | (have H2_ := (Option.bind_some _ _).symm.trans H; rw [hy134]; with_reducible exact H2_) | (have H2_ := (Option.bind_some _ _).symm.trans H; with_reducible exact H2_) | with_reducible exact H | (rw [hy134]; exact H) | exact H
          have Ny134 := Aside0.mk hy134
          clear hy134
          have H' := Aside0.mk H
          clear H
          have p130 : 0 ≤ (x8_1 : Int) := of_decide_eq_true (by first | (with_reducible assumption) | assumption)
          have q130 : x8_1 < (l0.length : Int) := of_decide_eq_true (by first | (with_reducible assumption) | assumption)
          obtain ⟨ad130, A130_2, c130_2, e130, hx130_0, hx130_1, hx130_2, hl130_2, hi130_2⟩ := at_T38 HR0.out x8_1 p130 q130
          cases e130
          replace hx130_0 := (HB.out.cell (World.block_lt_of_cell? w _ hx130_0)).trans hx130_0
          replace hx130_1 := (HB.out.cell (World.block_lt_of_cell? w _ hx130_1)).trans hx130_1
          replace hx130_2 := (HB.out.cell (World.block_lt_of_cell? w _ hx130_2)).trans hx130_2
          have HR130_2 := Aside0.mk hi130_2
          have HC130_2 := Aside0.mk hl130_2
          clear hi130_2 hl130_2
          replace p130 := eq_true p130
          replace q130 := eq_true q130
          go_wp2_with (first | ((with_reducible refine gate_dst (N := 5) rfl ?_); refine box_event ?hg (N := 5) ?hd (cs := #[.int .i64 0, .int .i64 0, .slice none 0 0]) (t := 38) ?hr ?_; (case hd => rfl); (case hg => rfl); (case hr => first | (go_simp; done) | (go_simp; rfl)); intro gb131 hg w7 hbox hb; have n0_ := Aside0.mk (Kd.R_below (by (with_reducible repeat (first | apply Kd.R_alloc | apply Kd.R_drewN | apply Kd.R_drew)); exact HO_3.out) hb); have n1_ := Aside0.mk (below_step (by repeat (first | (with_reducible first | exact HB.out | apply below_alloc | apply pw_below_drewN | apply below_drew1) | exact HB.out)) hb); have n2_ := Aside0.mk (hbox); have n3_ := Aside0.mk ((by rw [hg]; exact (below_size (by repeat (first | (with_reducible first | exact HB.out | apply below_alloc | apply pw_below_drewN | apply below_drew1) | exact HB.out))) : w.heap.size ≤ gb131)); have n4_ := Aside0.mk ((by rw [hg]; exact (below_size (by repeat (first | (with_reducible first | exact HB.out | apply below_alloc | apply pw_below_drewN | apply below_drew1) | exact HB.out))) : w.heap.size ≤ gb131)); clear HO_3; clear HB; have HO_3 := n0_; have HB := n1_; have BK131 := n2_; have GW131 := n3_; have GE131 := n4_; clear n0_ n1_ n2_ n3_ n4_; clear hb hbox hg; have hcz8_0 : w7.cell? ⟨gb131, 0, none⟩ = some (.int .i64 0) := (blk_cell BK131.out 0).trans rfl; have hcz8_1 : w7.cell? ⟨gb131, 1, none⟩ = some (.int .i64 0) := (blk_cell BK131.out 1).trans rfl; have hcz8_2 : w7.cell? ⟨gb131, 2, none⟩ = some (.slice none 0 0) := (blk_cell BK131.out 2).trans rfl; have hfz8_0 := blk_frozen BK131.out 0; have hfz8_1 := blk_frozen BK131.out 1; have hfz8_2 := blk_frozen BK131.out 2) | ((with_reducible refine gate_callee (f := 29) rfl ?_); refine goesL_ (some 14) rfl rfl Try.func29 (by kernel_rfl) rfl #[.agg #[.int .i64 ((rd_T38 l0 x8_1).f0), .int .i64 ((rd_T38 l0 x8_1).f1), .slice A130_2 ((rd_T38 l0 x8_1).f2).length c130_2]] rfl (by (try simp only [List.map_toArray, List.map_cons, List.map_nil]); first | done | rfl | (simp only [List.length_drop, List.length_take]; rfl)) ?_; (with_reducible refine (strategy_span.calls ((rd_T38 l0 x8_1).f0) ((rd_T38 l0 x8_1).f1) _ _ ((rd_T38 l0 x8_1).f2) t132 t133 _ ?side1 ?side2 A5.out).mono ?_); (case side1 => exact Kd.C_below HR130_2.out (by repeat (first | (with_reducible first | exact HB.out | apply below_alloc | apply pw_below_drewN | apply below_drew1 | refine below_set ?_ GE131.out) | exact HB.out))); (case side2 => exact HC130_2.out); rintro e w9 ⟨rfl, hb⟩; refine ⟨_, rfl, ?_⟩; have n0_ := Aside0.mk (Kd.R_below (by (with_reducible repeat (first | apply Kd.R_alloc | apply Kd.R_drewN | apply Kd.R_drew)); exact (Kd.R_mono (Kd.R_far (p := ⟨gb131, 2, none⟩) (Kd.R_far (p := ⟨gb131, 1, none⟩) (Kd.R_far (p := ⟨gb131, 0, none⟩) (Kd.R_types HO_3.out BK131.out (by decide)) (fun _ hk => hk.2) (.int .i64 ((rd_T38 l0 x8_1).f0))) (fun _ hk => hk.2) (.int .i64 ((rd_T38 l0 x8_1).f1))) (fun _ hk => hk.2) (.slice A130_2 ((rd_T38 l0 x8_1).f2).length c130_2)) (fun _ h_ => h_.1))) hb); have n1_ := Aside0.mk (blk_below (g := gb131) (o := .cells #[.int .i64 ((rd_T38 l0 x8_1).f0), .int .i64 ((rd_T38 l0 x8_1).f1), .slice A130_2 ((rd_T38 l0 x8_1).f2).length c130_2] 38 (0, 0)) (by (with_reducible repeat (first | refine blk_drewN ?_ _ | refine blk_drew ?_ | refine blk_alloc ?_ _)); refine blk_put (cs := #[.int .i64 ((rd_T38 l0 x8_1).f0), .int .i64 ((rd_T38 l0 x8_1).f1), .slice none 0 0]) ?_ 2 _ rfl; (with_reducible repeat (first | refine blk_drewN ?_ _ | refine blk_drew ?_ | refine blk_alloc ?_ _)); refine blk_put (cs := #[.int .i64 ((rd_T38 l0 x8_1).f0), .int .i64 0, .slice none 0 0]) ?_ 1 _ rfl; (with_reducible repeat (first | refine blk_drewN ?_ _ | refine blk_drew ?_ | refine blk_alloc ?_ _)); refine blk_put (cs := #[.int .i64 0, .int .i64 0, .slice none 0 0]) ?_ 0 _ rfl; (with_reducible repeat (first | refine blk_drewN ?_ _ | refine blk_drew ?_ | refine blk_alloc ?_ _)); exact BK131.out) hb); have n2_ := Aside0.mk (below_step (by repeat (first | (with_reducible first | exact HB.out | apply below_alloc | apply pw_below_drewN | apply below_drew1 | refine below_set ?_ GE131.out) | exact HB.out)) hb); clear HO_3; clear BK131; clear HB; have HO_3 := n0_; have BK131 := n1_; have HB := n2_; clear n0_ n1_ n2_; (try clear hb); (try clear hb2); (try clear hk); (try clear hi)) | ((with_reducible refine gate_builtin (b := .append) (xs := #[.tmp 12, .tmp 15]) rfl ?_); at_builtin; refine Kd.R_append k40 (w0 := w) w.heap.size rfl (.tmp 12) (.tmp 15) 31 40 (.agg #[(.int .i64 0), (.int .i64 0)]) 16 rfl Try.underlying31 info40 rfl (by decide) (by omega) u3 x3_1 (⟨t132, t133⟩ : S40) [.int .i64 t132, .int .i64 t133] (fun _ => True) (fun _ => False) rfl rfl ?aP (fun _ hk => hk.elim) ?aF ?aO ?aB ?aS ?aL ?_; (case aP => exact k40_mkM _ _ _ (⟨t132, t133⟩ : S40)); (case aB => exact (by repeat (first | (with_reducible first | exact HB.out | apply below_alloc | apply pw_below_drewN | apply below_drew1 | refine below_set ?_ GE131.out) | exact HB.out))); (case aF => exact (fun _ _ => trivial)); (case aO => exact (by (with_reducible repeat (first | apply Kd.R_alloc | apply Kd.R_drewN | apply Kd.R_drew)); exact HO_3.out)); (case aS => exact (below_size (by repeat (first | (with_reducible first | exact HB.out | apply below_alloc | apply pw_below_drewN | apply below_drew1 | refine below_set ?_ GE131.out) | exact HB.out)))); (case aL => have := LMc6.out; omega); intro v135 w10 ho hb hg hat; rw [← Ny134.out] at ho; have n0_ := Aside0.mk (blk_grown (g := gb131) (o := .cells #[.int .i64 ((rd_T38 l0 x8_1).f0), .int .i64 ((rd_T38 l0 x8_1).f1), .slice A130_2 ((rd_T38 l0 x8_1).f2).length c130_2] 38 (0, 0)) (by (with_reducible repeat (first | refine blk_drewN ?_ _ | refine blk_drew ?_ | refine blk_alloc ?_ _)); exact BK131.out) hg (Kd.R_ne HO_3.out BK131.out (by decide))); have n1_ := Aside0.mk (hb); have n2_ := Aside0.mk (ho); clear BK131; clear HB; clear HO_3; have BK131 := n0_; have HB := n1_; have HO136 := n2_; clear n0_ n1_ n2_; clear ho hb hg hat))
          go_roundg k1
          case measure => have := HK1.out; omega
          case rel => exact ⟨(y134), (wrap64 (x8_1 + 1)), (by first | rfl | (simp; done) | (simp [*]; done)), H', ⟨by have := HK1.out; omega⟩, ⟨by (with_reducible repeat (first | apply Kd.R_alloc | apply Kd.R_drewN | apply Kd.R_drew)); exact HO136.out⟩, ⟨by repeat (first | (with_reducible first | exact HB.out | apply below_alloc | apply pw_below_drewN | apply below_drew1 | refine below_set ?_ GE131.out) | exact HB.out)⟩, ⟨by have e1 := Ny134.out; have e2 := LMc6.out; rw [e1, List.length_append]; simp only [List.length_cons, List.length_nil]; omega⟩⟩
         rw [if_neg c6] at H
         exact absurd H (by simp)
        rw [if_neg c4] at H
        exact absurd H (by simp)
       rw [if_neg c3] at H
       exact absurd H (by simp)
      rw [if_neg c2] at H
      have c2b0 : decide (x8_1 < (l0.length : Int)) = false := decide_eq_false c2
      clear c2
      obtain rfl := Option.some.inj H
      have HS := Aside0.mk (spans_sort w wr u3 x3_1 HN.out HO_3.out HB.out)
      have HCo := Aside0.mk (spans_compact w)
      have HN2 := Aside0.mk (by rw [srt_length]; exact HN.out : (srt x3_1).length ≤ 8796093022208)
      clear HO_3 HB
      go_wp2_with fail
      refine HS.out.mono ?_
      rintro e w2 ⟨rfl, HO2, HB2⟩
      have HC2 := Aside0.mk (HCo.out w2 _ _ HN2.out HO2 HB2)
      clear HO2 HB2
      go_wp2_with fail
      refine HC2.out.mono ?_
      rintro e w3 ⟨v', rfl, HO3, HB3⟩
      rw [cpt_srt] at HO3
      have HO3 := Aside0.mk HO3
      have HB3 := Aside0.mk HB3
      go_wp2
      go_ret
      exact ⟨_, rfl, HO3.out, HB3.out⟩

end Go.Proofs.Ytmmdlkeemafanaa.Q
