import Derived.Test.YtbecgpjdeophmaaQx0
import Derived.Test.YtbecgpjdeophmaaQx1
namespace Go.Proofs.Ytbecgpjdeophmaa.Q
open Go.RowKit Go.Proofs.YtbecgpjdeophmaaW.PrintWords Go.Proofs.YtbecgpjdeophmaaW.PrintLast Go.Proofs.YtbecgpjdeophmaaW.PrintMore
attribute [local go_sem] max2_int min2_int max_two min_two max_three min_three max_four min_four   -- for this text's walks alone
set_option linter.unusedVariables false
set_option linter.unusedSimpArgs false

attribute [local go_sem high] eqA23

/-! ### corporalaw11_turned: function 22 -/
def corporalaw11_turned.l0 : Nat → List (S23) → Int → List (S23) → Int → Int → Option ((List (S23)))
  | 0, _, _, _, _, _ => none
  | k + 1, x0, x1, x5, x8, x9 => if x9 < x8 then (if (x0.length : Int) = 0 then (none) else (if 0 ≤ (Int.tmod (wrap64 (x9 + x1)) (x0.length : Int)) then (if (Int.tmod (wrap64 (x9 + x1)) (x0.length : Int)) < (x0.length : Int) then (if x5.length < 8796093022208 then (corporalaw11_turned.l0 k x0 x1 (x5 ++ [(⟨(rd_T23 x0 (Int.tmod (wrap64 (x9 + x1)) (x0.length : Int))).f0, (rd_T23 x0 (Int.tmod (wrap64 (x9 + x1)) (x0.length : Int))).f1⟩ : S23)]) x8 (wrap64 (x9 + 1))) else (none)) else (none)) else (none))) else (if (x0.length : Int) > 0 then (if 0 < (x0.length : Int) then (if x5.length < 8796093022208 then (some (x5 ++ [(⟨(rd_T23 x0 0).f0, (rd_T23 x0 0).f1⟩ : S23)])) else (none)) else (none)) else (some x5))
def corporalaw11_turned.f (k : Nat) (l0 : List (S23)) (a1 : Int) : Option ((List (S23))) := corporalaw11_turned.l0 k l0 a1 ([] : List (S23)) (l0.length : Int) 0
theorem corporalaw11_turned.mono_l : ∀ k, (∀ y0 y1 y2 y3 y4, LeO (corporalaw11_turned.l0 k y0 y1 y2 y3 y4) (corporalaw11_turned.l0 (k + 1) y0 y1 y2 y3 y4))
  | 0 => fun _ _ _ _ _ r h => by simp [corporalaw11_turned.l0] at h
  | k + 1 => by
    have ih0 := corporalaw11_turned.mono_l k
    · intro y0 y1 y2 y3 y4
      unfold corporalaw11_turned.l0
      repeat' first
      | (with_reducible exact ih0 _ _ _ _ _)
      | (with_reducible exact LeO.refl _)
      | (with_reducible exact LeO.none _)
      | (with_reducible refine LeO.ite ?_ ?_)
      | (with_reducible refine LeO.bind ?_ (fun _ => ?_))
      | exact ih0 _ _ _ _ _
      | exact LeO.none _
      | refine LeO.ite ?_ ?_
      | refine LeO.bind ?_ (fun _ => ?_)
theorem corporalaw11_turned.mono : ∀ a0 a1 k, LeO (corporalaw11_turned.f k a0 a1) (corporalaw11_turned.f (k + 1) a0 a1) := by
  intro a0 a1 k
  have ih0 := corporalaw11_turned.mono_l k
  unfold corporalaw11_turned.f
  repeat' first
      | (with_reducible exact ih0 _ _ _ _ _)
      | (with_reducible exact LeO.refl _)
      | (with_reducible exact LeO.none _)
      | (with_reducible refine LeO.ite ?_ ?_)
      | (with_reducible refine LeO.bind ?_ (fun _ => ?_))
      | exact ih0 _ _ _ _ _
      | exact LeO.none _
      | refine LeO.ite ?_ ?_
      | refine LeO.bind ?_ (fun _ => ?_)
set_option maxHeartbeats 8000000 in
set_option maxRecDepth 100000 in
theorem corporalaw11_turned.calls (k : Nat) (A0 : Option Addr) (c0 : Nat) (l0 : List (S23)) (a1 : Int) (r : List (S23)) (w : World) (hr0 : Kd.C k23 w A0 l0.length l0) (hc0 : l0.length ≤ c0) (h : corporalaw11_turned.f k l0 a1 = some r) :
    Calls Try.prog 22 #[.slice A0 l0.length c0, .int .i64 a1] w fun e w' => ∃ v0_ : Value, e = .returned (v0_) ∧ Kd.R k23 23 w' w.heap.size (fun _ => True) v0_ r ∧ Below w.heap.size w w' := by
  have hu23 := Try.underlying23
  have HR0 := Aside0.mk hr0
  have HC0 := Aside0.mk hc0
  clear hr0 hc0
  have HB := Aside0.mk (Below.refl w.heap.size w)
  have H : (corporalaw11_turned.l0 k l0 a1 ([] : List (S23)) (l0.length : Int) 0) = some r := h
  clear h
  have H' := Aside0.mk H
  clear H
  go_enter Try.func22, Try.ntmps22
  go_wp2
  go_loopg [5, 9] k (fun kq v5 v9 w' => ∃ (x5_1 : List (S23)) (x9_1 : Int), v9 = .int .i64 x9_1 ∧ Aside0 (corporalaw11_turned.l0 kq l0 a1 x5_1 (l0.length : Int) x9_1 = some r) ∧ Aside0 (kq ≤ k) ∧ Aside0 (Kd.R k23 23 w' w.heap.size (fun _ => True) v5 x5_1) ∧ Aside0 (Below w.heap.size w w'))
  case atStart => exact ⟨(([] : List (S23))), (0), (by first | rfl | (simp; done) | (simp [*]; done)), H', ⟨Nat.le_refl _⟩, ⟨by first | exact Kd.R_nil _ _ _ _ _ | exact Kd.N_nil _ _ _ _ _ | exact Kd.V_nil _ _ _ _ _ | exact Kd.Q_nil _ _ _ _ _ | exact Kd.S_nil _ _ _ _ _⟩, ⟨by repeat (first | (with_reducible first | exact HB.out | apply below_alloc | apply pw_below_drewN | apply below_drew1) | exact HB.out)⟩⟩
  case round =>
    clear H'
    try clear c2
    try clear p2
    obtain ⟨x5_1, x9_1, rfl, HA, HK1, HO_5, HB⟩ := hrel
    cases gk with
    | zero => exact absurd HA.out (by simp [corporalaw11_turned.l0])
    | succ k1 =>
      have H := HA.out
      clear HA
      simp only [corporalaw11_turned.l0] at H
      by_cases c3 : x9_1 < (l0.length : Int)
      · rw [if_pos c3] at H
        have c3b0 : decide (x9_1 < (l0.length : Int)) = true := decide_eq_true c3
        clear c3
        by_cases c4 : (l0.length : Int) = 0
        · rw [if_pos c4] at H
          exact absurd H (by simp)
        · rw [if_neg c4] at H
          have c4b0 : ((l0.length : Int) == 0) = false := beq_eq_false_iff_ne.mpr c4
          have c4b1 : ((l0.length : Int) != 0) = true := bne_iff_ne.mpr c4
          have c4b2 : ¬ (l0 = []) := fun h_ => c4 (by rw [h_]; rfl)
          obtain ⟨ji5, hji5⟩ : ∃ j_ : Int, (Int.tmod (wrap64 (x9_1 + a1)) (l0.length : Int)) = j_ := ⟨_, rfl⟩
          replace H : (if 0 ≤ (ji5) then (if (ji5) < (l0.length : Int) then (if x5_1.length < 8796093022208 then (corporalaw11_turned.l0 k1 l0 a1 (x5_1 ++ [(⟨(rd_T23 l0 (ji5)).f0, (rd_T23 l0 (ji5)).f1⟩ : S23)]) (l0.length : Int) (wrap64 (x9_1 + 1))) else (none)) else (none)) else (none)) = some r := by first | (rw [hji5] at H; exact H) | (simp only [hji5] at H ⊢; exact H)
          by_cases c6 : 0 ≤ (ji5)
          · rw [if_pos c6] at H
            have c6b0 : decide (0 ≤ (ji5)) = true := decide_eq_true c6
            clear c6
            by_cases c7 : (ji5) < (l0.length : Int)
            · rw [if_pos c7] at H
              have c7b0 : decide ((ji5) < (l0.length : Int)) = true := decide_eq_true c7
              clear c7
              by_cases c8 : x5_1.length < 8796093022208
              · rw [if_pos c8] at H
                have LMc8 := Aside0.mk c8
                clear c8
                obtain ⟨y294, hy294⟩ : ∃ y_ : List (S23), y_ = (x5_1 ++ [(⟨(rd_T23 l0 (ji5)).f0, (rd_T23 l0 (ji5)).f1⟩ : S23)]) := ⟨_, rfl⟩
                replace H : (corporalaw11_turned.l0 k1 l0 a1 y294 (l0.length : Int) (wrap64 (x9_1 + 1))) = some r := by first | (rw [hy294]; with_reducible exact H) | (have H2_ := (Option.bind_some _ _).symm.trans H; rw [hy294]; with_reducible exact H2_) | (have H2_ := (Option.bind_some _ _).symm.trans H; with_reducible exact H2_) | with_reducible exact H | (rw [hy294]; exact H) | exact H
                have Ny294 := Aside0.mk hy294
                clear hy294
                have H' := Aside0.mk H
                clear H
                have p293 : 0 ≤ ((ji5) : Int) := of_decide_eq_true (by first | (with_reducible assumption) | assumption)
                have q293 : (ji5) < (l0.length : Int) := of_decide_eq_true (by first | (with_reducible assumption) | assumption)
                obtain ⟨ad293, e293, hx293_0, hx293_1⟩ := at_T23 HR0.out (ji5) p293 q293
                cases e293
                replace hx293_0 := (HB.out.cell (World.block_lt_of_cell? w _ hx293_0)).trans hx293_0
                replace hx293_1 := (HB.out.cell (World.block_lt_of_cell? w _ hx293_1)).trans hx293_1
                replace p293 := eq_true p293
                replace q293 := eq_true q293
                go_wp2_with (first | ((with_reducible refine gate_builtin (b := .append) (xs := #[.tmp 12, .tmp 22]) rfl ?_); at_builtin; refine Kd.R_append k23 (w0 := w) w.heap.size rfl (.tmp 12) (.tmp 22) 28 23 (.agg #[(.int .i64 0), (.int .i64 0)]) 16 rfl Try.underlying28 info23 rfl (by decide) (by omega) u5 x5_1 (⟨(rd_T23 l0 (ji5)).f0, (rd_T23 l0 (ji5)).f1⟩ : S23) [.int .i64 ((rd_T23 l0 (ji5)).f0), .int .i64 ((rd_T23 l0 (ji5)).f1)] (fun _ => True) (fun _ => False) rfl rfl ?aP (fun _ hk => hk.elim) ?aF ?aO ?aB ?aS ?aL ?_; (case aP => exact k23_mkM _ _ _ (⟨(rd_T23 l0 (ji5)).f0, (rd_T23 l0 (ji5)).f1⟩ : S23)); (case aB => exact (by repeat (first | (with_reducible first | exact HB.out | apply below_alloc | apply pw_below_drewN | apply below_drew1) | exact HB.out))); (case aF => exact (fun _ _ => trivial)); (case aO => exact (by (with_reducible repeat (first | apply Kd.R_alloc | apply Kd.R_drewN | apply Kd.R_drew)); exact HO_5.out)); (case aS => exact (below_size (by repeat (first | (with_reducible first | exact HB.out | apply below_alloc | apply pw_below_drewN | apply below_drew1) | exact HB.out)))); (case aL => have := LMc8.out; omega); intro v295 w9 ho hb hg hat; rw [← Ny294.out] at ho; have n0_ := Aside0.mk (hb); have n1_ := Aside0.mk (ho); clear HB; clear HO_5; have HB := n0_; have HO296 := n1_; clear n0_ n1_; clear ho hb hg hat))
                go_roundg k1
                case measure => have := HK1.out; omega
                case rel => exact ⟨(y294), (wrap64 (x9_1 + 1)), (by first | rfl | (simp; done) | (simp [*]; done)), H', ⟨by have := HK1.out; omega⟩, ⟨by (with_reducible repeat (first | apply Kd.R_alloc | apply Kd.R_drewN | apply Kd.R_drew)); exact HO296.out⟩, ⟨by repeat (first | (with_reducible first | exact HB.out | apply below_alloc | apply pw_below_drewN | apply below_drew1) | exact HB.out)⟩⟩
              · rw [if_neg c8] at H
                exact absurd H (by simp)
            · rw [if_neg c7] at H
              exact absurd H (by simp)
          · rw [if_neg c6] at H
            exact absurd H (by simp)
      · rw [if_neg c3] at H
        have c3b0 : decide (x9_1 < (l0.length : Int)) = false := decide_eq_false c3
        clear c3
        by_cases c10 : (l0.length : Int) > 0
        · rw [if_pos c10] at H
          have c10b0 : decide (0 < (l0.length : Int)) = true := decide_eq_true c10
          have c10b1 : decide (0 < l0.length) = true := decide_eq_true (by omega)
          clear c10
          by_cases c11 : 0 < (l0.length : Int)
          · rw [if_pos c11] at H
            have c11b0 : decide (0 < (l0.length : Int)) = true := decide_eq_true c11
            have c11b1 : decide (0 < l0.length) = true := decide_eq_true (by omega)
            clear c11
            by_cases c12 : x5_1.length < 8796093022208
            · rw [if_pos c12] at H
              have LMc12 := Aside0.mk c12
              clear c12
              obtain ⟨y298, hy298⟩ : ∃ y_ : List (S23), y_ = (x5_1 ++ [(⟨(rd_T23 l0 0).f0, (rd_T23 l0 0).f1⟩ : S23)]) := ⟨_, rfl⟩
              replace H : (some y298) = some r := by first | (rw [hy298]; with_reducible exact H) | (have H2_ := (Option.bind_some _ _).symm.trans H; rw [hy298]; with_reducible exact H2_) | (have H2_ := (Option.bind_some _ _).symm.trans H; with_reducible exact H2_) | with_reducible exact H | (rw [hy298]; exact H) | exact H
              have Ny298 := Aside0.mk hy298
              clear hy298
              obtain rfl := Option.some.inj H
              have p297 : 0 ≤ (0 : Int) := (by omega)
              have q297 : 0 < (l0.length : Int) := of_decide_eq_true (by first | (with_reducible assumption) | assumption)
              obtain ⟨ad297, e297, hx297_0, hx297_1⟩ := at_T23 HR0.out 0 p297 q297
              cases e297
              have qi297 : (0 < l0.length) = True := eq_true (by omega)
              (try rw [show ((0 : Int)).toNat = 0 from rfl] at hx297_0)
              (try rw [show 0 * 2 = 0 from rfl] at hx297_0)
              (try rw [Addr.add_zero'] at hx297_0)
              (try rw [show ((0 : Int)).toNat = 0 from rfl] at hx297_1)
              (try rw [show 0 * 2 = 0 from rfl] at hx297_1)
              (try rw [Addr.add_zero'] at hx297_1)
              replace hx297_0 := (HB.out.cell (World.block_lt_of_cell? w _ hx297_0)).trans hx297_0
              replace hx297_1 := (HB.out.cell (World.block_lt_of_cell? w _ hx297_1)).trans hx297_1
              replace p297 := eq_true p297
              replace q297 := eq_true q297
              go_wp2_with (first | ((with_reducible refine gate_builtin (b := .append) (xs := #[.tmp 28, .tmp 32]) rfl ?_); at_builtin; refine Kd.R_append k23 (w0 := w) w.heap.size rfl (.tmp 28) (.tmp 32) 28 23 (.agg #[(.int .i64 0), (.int .i64 0)]) 16 rfl Try.underlying28 info23 rfl (by decide) (by omega) u5 x5_1 (⟨(rd_T23 l0 0).f0, (rd_T23 l0 0).f1⟩ : S23) [.int .i64 ((rd_T23 l0 0).f0), .int .i64 ((rd_T23 l0 0).f1)] (fun _ => True) (fun _ => False) rfl rfl ?aP (fun _ hk => hk.elim) ?aF ?aO ?aB ?aS ?aL ?_; (case aP => exact k23_mkM _ _ _ (⟨(rd_T23 l0 0).f0, (rd_T23 l0 0).f1⟩ : S23)); (case aB => exact (by repeat (first | (with_reducible first | exact HB.out | apply below_alloc | apply pw_below_drewN | apply below_drew1) | exact HB.out))); (case aF => exact (fun _ _ => trivial)); (case aO => exact (by (with_reducible repeat (first | apply Kd.R_alloc | apply Kd.R_drewN | apply Kd.R_drew)); exact HO_5.out)); (case aS => exact (below_size (by repeat (first | (with_reducible first | exact HB.out | apply below_alloc | apply pw_below_drewN | apply below_drew1) | exact HB.out)))); (case aL => have := LMc12.out; omega); intro v299 w13 ho hb hg hat; rw [← Ny298.out] at ho; have n0_ := Aside0.mk (hb); have n1_ := Aside0.mk (ho); clear HB; clear HO_5; have HB := n0_; have HO300 := n1_; clear n0_ n1_; clear ho hb hg hat))
              go_ret
              exact ⟨_, by first | rfl | (simp [errW_none, errW_some] <;> rfl) | (simp [*, errW_none, errW_some] <;> rfl), by (with_reducible repeat (first | apply Kd.R_alloc | apply Kd.R_drewN | apply Kd.R_drew)); exact HO300.out, by repeat (first | (with_reducible first | exact HB.out | apply below_alloc | apply pw_below_drewN | apply below_drew1) | exact HB.out)⟩
            · rw [if_neg c12] at H
              exact absurd H (by simp)
          · rw [if_neg c11] at H
            exact absurd H (by simp)
        · rw [if_neg c10] at H
          have c10b0 : decide (0 < (l0.length : Int)) = false := decide_eq_false c10
          have c10b1 : decide (0 < l0.length) = false := decide_eq_false (by omega)
          clear c10
          obtain rfl := Option.some.inj H
          go_wp2
          go_ret
          exact ⟨_, by first | rfl | (simp [errW_none, errW_some] <;> rfl) | (simp [*, errW_none, errW_some] <;> rfl), by (with_reducible repeat (first | apply Kd.R_alloc | apply Kd.R_drewN | apply Kd.R_drew)); exact HO_5.out, by repeat (first | (with_reducible first | exact HB.out | apply below_alloc | apply pw_below_drewN | apply below_drew1) | exact HB.out)⟩

end Go.Proofs.Ytbecgpjdeophmaa.Q
