import Derived.Test.YtbecgpjdeophmaaQx0
import Derived.Test.YtbecgpjdeophmaaQx1
import Derived.Test.YtbecgpjdeophmaaQl
namespace Go.Proofs.Ytbecgpjdeophmaa.Q
open Go.RowKit Go.Proofs.YtbecgpjdeophmaaW.PrintWords Go.Proofs.YtbecgpjdeophmaaW.PrintLast Go.Proofs.YtbecgpjdeophmaaW.PrintMore
attribute [local go_sem] max2_int min2_int max_two min_two max_three min_three max_four min_four   -- for this text's walks alone
set_option linter.unusedVariables false
set_option linter.unusedSimpArgs false

attribute [local go_sem high] eqA23

/-! ### corporaref11_Cover: function 18 -/
def corporaref11_Cover.l0 : Nat → List (S23) → List (S23) → Int → Int → Option ((List (S23)) × Int)
  | 0, _, _, _, _ => none
  | k + 1, x6, x18, x19, x20 => if x20 < x19 then (if 0 ≤ x20 then (if x20 < (x18.length : Int) then (if (wrap64 ((x6.length : Int) - 1)) ≥ 0 then (if 0 ≤ (wrap64 ((x6.length : Int) - 1)) then (if (wrap64 ((x6.length : Int) - 1)) < (x6.length : Int) then (if ((rd_T23 x18 x20).f0) ≤ ((rd_T23 x6 (wrap64 ((x6.length : Int) - 1))).f1) then (corporaref11_Cover.l0 k (x6.set ((wrap64 ((x6.length : Int) - 1)) : Int).toNat (⟨(rd_T23 x6 (wrap64 ((x6.length : Int) - 1))).f0, mx ((rd_T23 x6 (wrap64 ((x6.length : Int) - 1))).f1) ((rd_T23 x18 x20).f1)⟩ : S23)) x18 x19 (wrap64 (x20 + 1))) else (if x6.length < 8796093022208 then (corporaref11_Cover.l0 k (x6 ++ [(⟨(rd_T23 x18 x20).f0, (rd_T23 x18 x20).f1⟩ : S23)]) x18 x19 (wrap64 (x20 + 1))) else (none))) else (none)) else (none)) else (if x6.length < 8796093022208 then (corporaref11_Cover.l0 k (x6 ++ [(⟨(rd_T23 x18 x20).f0, (rd_T23 x18 x20).f1⟩ : S23)]) x18 x19 (wrap64 (x20 + 1))) else (none))) else (none)) else (none)) else (some (x6, 0))
def corporaref11_Cover.f (k : Nat) (l0 : List (S23)) : Option ((List (S23)) × Int) := (corporaref11_Normalize.f k l0).bind fun bt235 => (if bt235.2 = 0 then (corporaref11_Cover.l0 k ([] : List (S23)) bt235.1 (bt235.1.length : Int) 0) else (some (([] : List (S23)), bt235.2)))
theorem corporaref11_Cover.mono_l : ∀ k, (∀ y0 y1 y2 y3, LeO (corporaref11_Cover.l0 k y0 y1 y2 y3) (corporaref11_Cover.l0 (k + 1) y0 y1 y2 y3))
  | 0 => fun _ _ _ _ r h => by simp [corporaref11_Cover.l0] at h
  | k + 1 => by
    have ih0 := corporaref11_Cover.mono_l k
    · intro y0 y1 y2 y3
      unfold corporaref11_Cover.l0
      repeat' first
      | (with_reducible exact ih0 _ _ _ _)
      | (with_reducible exact corporaref11_Normalize.mono _ _)
      | (with_reducible exact LeO.refl _)
      | (with_reducible exact LeO.none _)
      | (with_reducible refine LeO.ite ?_ ?_)
      | (with_reducible refine LeO.bind ?_ (fun _ => ?_))
      | exact ih0 _ _ _ _
      | exact corporaref11_Normalize.mono _ _
      | exact LeO.none _
      | refine LeO.ite ?_ ?_
      | refine LeO.bind ?_ (fun _ => ?_)
theorem corporaref11_Cover.mono : ∀ a0 k, LeO (corporaref11_Cover.f k a0) (corporaref11_Cover.f (k + 1) a0) := by
  intro a0 k
  have ih0 := corporaref11_Cover.mono_l k
  unfold corporaref11_Cover.f
  repeat' first
      | (with_reducible exact ih0 _ _ _ _)
      | (with_reducible exact corporaref11_Normalize.mono _ _)
      | (with_reducible exact LeO.refl _)
      | (with_reducible exact LeO.none _)
      | (with_reducible refine LeO.ite ?_ ?_)
      | (with_reducible refine LeO.bind ?_ (fun _ => ?_))
      | exact ih0 _ _ _ _
      | exact corporaref11_Normalize.mono _ _
      | exact LeO.none _
      | refine LeO.ite ?_ ?_
      | refine LeO.bind ?_ (fun _ => ?_)
def corporaref11_Cover.T9 : Bool × List (List Nat × List Nat) := (true, [([], []), ([0], [0]), ([1], [1]), ([2], [2]), ([3, 2], [2, 3]), ([2], [2]), ([2], [2]), ([5, 6, 2], [2, 5, 6]), ([7, 2], [2, 7]), ([8, 2], [2, 8]), ([4, 9, 2], [2, 4, 9]), ([2, 10], [2, 10])])
def corporaref11_Cover.B9 : List Nat := [0, 1, 3, 7, 15, 7, 7, 103, 231, 487, 1023, 2047]
theorem corporaref11_Cover.tab9 : rtab .any (opsOf Try.f18 9) = corporaref11_Cover.T9 := by kernel_rfl
theorem corporaref11_Cover.bits9 : waitsOk corporaref11_Cover.T9.2 corporaref11_Cover.B9 = true := by kernel_rfl
def corporaref11_Cover.T10 : Bool × List (List Nat × List Nat) := (true, [([], []), ([], []), ([], []), ([], []), ([2, 3], [2, 3]), ([4], [4]), ([5], [5]), ([], []), ([7], [7]), ([6, 8], [6, 8]), ([0, 1, 0, 1, 2, 3, 4, 5, 6, 7, 8, 9], [0, 1]), ([10, 0, 1, 2, 3, 4, 5, 6, 7, 8, 9], [10]), ([11, 9, 0, 1, 2, 3, 4, 5, 6, 7, 8, 9], [9, 11])])
def corporaref11_Cover.B10 : List Nat := [0, 0, 0, 0, 12, 28, 60, 0, 128, 508, 1023, 2047, 4095]
theorem corporaref11_Cover.tab10 : rtab .any (opsOf Try.f18 10) = corporaref11_Cover.T10 := by kernel_rfl
theorem corporaref11_Cover.bits10 : waitsOk corporaref11_Cover.T10.2 corporaref11_Cover.B10 = true := by kernel_rfl
set_option maxHeartbeats 8000000 in
set_option maxRecDepth 100000 in
theorem corporaref11_Cover.calls (k : Nat) (A0 : Option Addr) (c0 : Nat) (l0 : List (S23)) (r1 : List (S23)) (r2 : Int) (w : World) (hr0 : Kd.C k23 w A0 l0.length l0) (hc0 : l0.length ≤ c0) (h : corporaref11_Cover.f k l0 = some (r1, r2)) :
    Calls Try.prog 18 #[.slice A0 l0.length c0] w fun e w' => ∃ v0_ : Value, e = .returned (.tuple #[v0_, .int .i64 r2]) ∧ Kd.R k23 23 w' w.heap.size (fun _ => True) v0_ r1 ∧ Below w.heap.size w w' := by
  have hu23 := Try.underlying23
  have HR0 := Aside0.mk hr0
  have HC0 := Aside0.mk hc0
  clear hr0 hc0
  have HB := Aside0.mk (Below.refl w.heap.size w)
  have H : ((corporaref11_Normalize.f k l0).bind fun bt235 => (if bt235.2 = 0 then (corporaref11_Cover.l0 k ([] : List (S23)) bt235.1 (bt235.1.length : Int) 0) else (some (([] : List (S23)), bt235.2)))) = some (r1, r2) := h
  clear h
  replace H := Option.bind_eq_some_iff.mp H
  obtain ⟨⟨t235, t236⟩, A20, H⟩ := H
  replace H : (if t236 = 0 then (corporaref11_Cover.l0 k ([] : List (S23)) t235 (t235.length : Int) 0) else (some (([] : List (S23)), t236))) = some (r1, r2) := H
  have A2 := Aside0.mk A20
  clear A20
  by_cases c3 : t236 = 0
  · rw [if_pos c3] at H
    have c3b0 : (t236 == 0) = true := beq_iff_eq.mpr c3
    have c3b1 : (t236 != 0) = false := bne_eq_false_iff_eq.mpr c3
    clear c3
    have H' := Aside0.mk H
    clear H
    go_enter Try.func18, Try.ntmps18
    go_wp2_with (first | ((with_reducible refine gate_callee (f := 16) rfl ?_); refine goesL_ (some 12) rfl rfl Try.func16 (by kernel_rfl) rfl #[.slice A0 l0.length c0] rfl (by (try simp only [List.map_toArray, List.map_cons, List.map_nil]); first | done | rfl | (simp only [List.length_drop, List.length_take]; rfl)) ?_; (with_reducible refine (corporaref11_Normalize.calls k _ _ l0 t235 t236 _ ?side1 ?side2 A2.out).mono ?_); (case side1 => repeat (first | exact HR0.out | (with_reducible refine Kd.C_alloc ?_ _) | (with_reducible refine Kd.C_drewN ?_ _) | (with_reducible refine Kd.C_drew ?_))); (case side2 => exact HC0.out); rintro e w4 ⟨v237, rfl, ho0, hb⟩; refine ⟨_, rfl, ?_⟩; have n0_ := Aside0.mk (Kd.R_lower ho0 (below_size (by repeat (first | (with_reducible first | exact HB.out | apply below_alloc | apply pw_below_drewN | apply below_drew1) | exact HB.out)))); have n1_ := Aside0.mk (below_step (by repeat (first | (with_reducible first | exact HB.out | apply below_alloc | apply pw_below_drewN | apply below_drew1) | exact HB.out)) hb); clear HB; have HO238 := n0_; have HB := n1_; clear n0_ n1_; (try clear hb); (try clear hb2); (try clear hk); (try clear hi); (try clear ho0); obtain ⟨Ao5, co5, eo5⟩ := Kd.R_slice HO238.out; subst eo5))
    go_loopg [6, 20] k (fun kq v6 v20 w' => ∃ (x6_1 : List (S23)) (x18_1 : List (S23)) (x20_1 : Int), v20 = .int .i64 x20_1 ∧ Aside0 (corporaref11_Cover.l0 kq x6_1 x18_1 (t235.length : Int) x20_1 = some (r1, r2)) ∧ Aside0 (kq ≤ k) ∧ Aside0 (Kd.R k23 23 w' w.heap.size (fun k_ => some k_ ≠ ((.slice Ao5 t235.length co5) : Value).ownBlock) v6 x6_1) ∧ Aside0 (Kd.R k23 23 w' w.heap.size (fun k_ => some k_ ≠ (v6 : Value).ownBlock) (.slice Ao5 t235.length co5) x18_1) ∧ Aside0 (Below w.heap.size w w'))
    case atStart => exact ⟨(([] : List (S23))), (t235), (0), (by first | rfl | (simp; done) | (simp [*]; done)), H', ⟨Nat.le_refl _⟩, ⟨by first | exact Kd.R_nil _ _ _ _ _ | exact Kd.N_nil _ _ _ _ _ | exact Kd.V_nil _ _ _ _ _ | exact Kd.Q_nil _ _ _ _ _ | exact Kd.S_nil _ _ _ _ _⟩, ⟨by (with_reducible repeat (first | apply Kd.R_alloc | apply Kd.R_drewN | apply Kd.R_drew)); exact Kd.R_mono HO238.out (fun _ hk => (by simp [Value.ownBlock]))⟩, ⟨by repeat (first | (with_reducible first | exact HB.out | apply below_alloc | apply pw_below_drewN | apply below_drew1) | exact HB.out)⟩⟩
    case round =>
      clear H'
      try clear c1
      try clear p2
      try clear c3
      try clear c3b0
      try clear c3b1
      obtain ⟨x6_1, x18_1, x20_1, rfl, HA, HK1, HO_6, HO_18, HB⟩ := hrel
      have hl18_1 := (Kd.R_reads' HO_18.out).1
      rw [hl18_1] at HO_18
      (try simp only [hl18_1])
      (try simp only [hl18_1] at HO_6)
      cases gk with
      | zero => exact absurd HA.out (by simp [corporaref11_Cover.l0])
      | succ k1 =>
        have H := HA.out
        clear HA
        simp only [corporaref11_Cover.l0] at H
        by_cases c6 : x20_1 < (t235.length : Int)
        · rw [if_pos c6] at H
          have c6b0 : decide (x20_1 < (t235.length : Int)) = true := decide_eq_true c6
          clear c6
          by_cases c7 : 0 ≤ x20_1
          · rw [if_pos c7] at H
            have c7b0 : decide (0 ≤ x20_1) = true := decide_eq_true c7
            clear c7
            by_cases c8 : x20_1 < (x18_1.length : Int)
            · rw [if_pos c8] at H
              have c8b0 : decide (x20_1 < (x18_1.length : Int)) = true := decide_eq_true c8
              clear c8
              by_cases c9 : (wrap64 ((x6_1.length : Int) - 1)) ≥ 0
              · rw [if_pos c9] at H
                have c9b0 : decide (0 ≤ (wrap64 ((x6_1.length : Int) - 1))) = true := decide_eq_true c9
                clear c9
                obtain ⟨ji10, hji10⟩ : ∃ j_ : Int, (wrap64 ((x6_1.length : Int) - 1)) = j_ := ⟨_, rfl⟩
                replace H : (if 0 ≤ (ji10) then (if (ji10) < (x6_1.length : Int) then (if ((rd_T23 x18_1 x20_1).f0) ≤ ((rd_T23 x6_1 (ji10)).f1) then (corporaref11_Cover.l0 k1 (x6_1.set ((ji10) : Int).toNat (⟨(rd_T23 x6_1 (ji10)).f0, mx ((rd_T23 x6_1 (ji10)).f1) ((rd_T23 x18_1 x20_1).f1)⟩ : S23)) x18_1 (t235.length : Int) (wrap64 (x20_1 + 1))) else (if x6_1.length < 8796093022208 then (corporaref11_Cover.l0 k1 (x6_1 ++ [(⟨(rd_T23 x18_1 x20_1).f0, (rd_T23 x18_1 x20_1).f1⟩ : S23)]) x18_1 (t235.length : Int) (wrap64 (x20_1 + 1))) else (none))) else (none)) else (none)) = some (r1, r2) := by first | (rw [hji10] at H; exact H) | (simp only [hji10] at H ⊢; exact H)
                (try rw [hji10] at c9b0)
                have hji10w : (IntKind.i64.wrap ((x6_1.length : Int) - 1)) = ji10 := (i64_w _).trans hji10
                by_cases c11 : 0 ≤ (ji10)
                · rw [if_pos c11] at H
                  have c11b0 : decide (0 ≤ (ji10)) = true := decide_eq_true c11
                  clear c11
                  by_cases c12 : (ji10) < (x6_1.length : Int)
                  · rw [if_pos c12] at H
                    have c12b0 : decide ((ji10) < (x6_1.length : Int)) = true := decide_eq_true c12
                    clear c12
                    by_cases c13 : ((rd_T23 x18_1 x20_1).f0) ≤ ((rd_T23 x6_1 (ji10)).f1)
                    · rw [if_pos c13] at H
                      have c13b0 : decide (((rd_T23 x18_1 x20_1).f0) ≤ ((rd_T23 x6_1 (ji10)).f1)) = true := decide_eq_true c13
                      clear c13
                      obtain ⟨ji14, hji14⟩ : ∃ j_ : Int, (mx ((rd_T23 x6_1 (ji10)).f1) ((rd_T23 x18_1 x20_1).f1)) = j_ := ⟨_, rfl⟩
                      replace H : (corporaref11_Cover.l0 k1 (x6_1.set ((ji10) : Int).toNat (⟨(rd_T23 x6_1 (ji10)).f0, ji14⟩ : S23)) x18_1 (t235.length : Int) (wrap64 (x20_1 + 1))) = some (r1, r2) := by first | (rw [hji14] at H; exact H) | (simp only [hji14] at H ⊢; exact H)
                      have hji14_ : (if ((rd_T23 x6_1 (ji10)).f1) < ((rd_T23 x18_1 x20_1).f1) then ((rd_T23 x18_1 x20_1).f1) else ((rd_T23 x6_1 (ji10)).f1)) = ji14 := hji14
                      obtain ⟨y243, hy243⟩ : ∃ y_ : List (S23), y_ = (x6_1.set ((ji10) : Int).toNat (⟨(rd_T23 x6_1 (ji10)).f0, ji14⟩ : S23)) := ⟨_, rfl⟩
                      replace H : (corporaref11_Cover.l0 k1 y243 x18_1 (t235.length : Int) (wrap64 (x20_1 + 1))) = some (r1, r2) := by first | (rw [hy243]; with_reducible exact H) | (have H2_ := (Option.bind_some _ _).symm.trans H; rw [hy243]; with_reducible exact H2_) | (have H2_ := (Option.bind_some _ _).symm.trans H; with_reducible exact H2_) | with_reducible exact H | (rw [hy243]; exact H) | exact H
                      have Ny243 := Aside0.mk hy243
                      clear hy243
                      have H' := Aside0.mk H
                      clear H
                      have p239 : 0 ≤ (x20_1 : Int) := of_decide_eq_true (by first | (with_reducible assumption) | assumption)
                      have q239 : x20_1 < (x18_1.length : Int) := of_decide_eq_true (by first | (with_reducible assumption) | assumption)
                      obtain ⟨ad239, e239, hx239_0, hx239_1⟩ := at_T23 (Kd.R_reads' HO_18.out).2.2 x20_1 p239 q239
                      cases e239
                      replace p239 := eq_true p239
                      replace q239 := eq_true q239
                      try go_wp2_with (first | ((with_reducible refine gate_dst (N := 8) rfl ?_); refine box_event ?hg (N := 8) ?hd (cs := #[.int .i64 0, .int .i64 0]) (t := 23) ?hr ?_; (case hd => rfl); (case hg => rfl); (case hr => first | (go_simp; done) | (go_simp; rfl)); intro gb240 hg w16 hbox hb; have n0_ := Aside0.mk (Kd.R_below (Kd.R_elderB (by (with_reducible repeat (first | apply Kd.R_alloc | apply Kd.R_drewN | apply Kd.R_drew)); exact HO_6.out) gb240 (Nat.le_of_eq hg.symm)) hb); have n1_ := Aside0.mk (Kd.R_below (Kd.R_elderB (by (with_reducible repeat (first | apply Kd.R_alloc | apply Kd.R_drewN | apply Kd.R_drew)); exact HO_18.out) gb240 (Nat.le_of_eq hg.symm)) hb); have n2_ := Aside0.mk (below_step (by repeat (first | (with_reducible first | exact HB.out | apply below_alloc | apply pw_below_drewN | apply below_drew1) | exact HB.out)) hb); have n3_ := Aside0.mk (hbox); have n4_ := Aside0.mk ((by rw [hg]; exact (below_size (by repeat (first | (with_reducible first | exact HB.out | apply below_alloc | apply pw_below_drewN | apply below_drew1) | exact HB.out))) : w.heap.size ≤ gb240)); have n5_ := Aside0.mk ((by rw [hg]; exact (below_size (by repeat (first | (with_reducible first | exact HB.out | apply below_alloc | apply pw_below_drewN | apply below_drew1) | exact HB.out))) : w.heap.size ≤ gb240)); clear HO_6; clear HO_18; clear HB; have HO_6 := n0_; have HO_18 := n1_; have HB := n2_; have BK240 := n3_; have GW240 := n4_; have GE240 := n5_; clear n0_ n1_ n2_ n3_ n4_ n5_; clear hb hbox hg; have hcz17_0 : w16.cell? ⟨gb240, 0, none⟩ = some (.int .i64 0) := (blk_cell BK240.out 0).trans rfl; have hcz17_1 : w16.cell? ⟨gb240, 1, none⟩ = some (.int .i64 0) := (blk_cell BK240.out 1).trans rfl; have hfz17_0 := blk_frozen BK240.out 0; have hfz17_1 := blk_frozen BK240.out 1; obtain ⟨Ao18, co18, eo18⟩ := Kd.R_slice HO_6.out; subst eo18))
                      have n0_ : Aside0 (Kd.R k23 23 ((w16.setCell ⟨gb240, 0, none⟩ (.int .i64 ((rd_T23 x18_1 x20_1).f0))).setCell ⟨gb240, 1, none⟩ (.int .i64 ((rd_T23 x18_1 x20_1).f1))) w.heap.size (fun k_ => some k_ ≠ (.slice (some ad239) x18_1.length co5 : Value).ownBlock ∧ k_ ≠ gb240) (.slice Ao18 x6_1.length co18) x6_1) := ⟨by (with_reducible repeat (first | apply Kd.R_alloc | apply Kd.R_drewN | apply Kd.R_drew)); exact Kd.R_mono (Kd.R_far (p := ⟨gb240, 1, none⟩) (Kd.R_far (p := ⟨gb240, 0, none⟩) (Kd.R_mono HO_6.out (fun k_ hk => (⟨hk, hk.2⟩ : _ ∧ k_ ≠ gb240))) (fun _ hk => hk.2) (.int .i64 ((rd_T23 x18_1 x20_1).f0))) (fun _ hk => hk.2) (.int .i64 ((rd_T23 x18_1 x20_1).f1))) (fun _ hk => ⟨hk.1.1, hk.1.2⟩)⟩
                      have n1_ : Aside0 (Kd.R k23 23 ((w16.setCell ⟨gb240, 0, none⟩ (.int .i64 ((rd_T23 x18_1 x20_1).f0))).setCell ⟨gb240, 1, none⟩ (.int .i64 ((rd_T23 x18_1 x20_1).f1))) w.heap.size (fun k_ => some k_ ≠ (.slice Ao18 x6_1.length co18 : Value).ownBlock ∧ k_ ≠ gb240) (.slice (some ad239) x18_1.length co5) x18_1) := ⟨by (with_reducible repeat (first | apply Kd.R_alloc | apply Kd.R_drewN | apply Kd.R_drew)); exact Kd.R_mono (Kd.R_far (p := ⟨gb240, 1, none⟩) (Kd.R_far (p := ⟨gb240, 0, none⟩) (Kd.R_mono HO_18.out (fun k_ hk => (⟨hk, hk.2⟩ : _ ∧ k_ ≠ gb240))) (fun _ hk => hk.2) (.int .i64 ((rd_T23 x18_1 x20_1).f0))) (fun _ hk => hk.2) (.int .i64 ((rd_T23 x18_1 x20_1).f1))) (fun _ hk => ⟨hk.1.1, hk.1.2⟩)⟩
                      have n2_ : Aside0 (((w16.setCell ⟨gb240, 0, none⟩ (.int .i64 ((rd_T23 x18_1 x20_1).f0))).setCell ⟨gb240, 1, none⟩ (.int .i64 ((rd_T23 x18_1 x20_1).f1))).heap[gb240]? = some (.cells #[.int .i64 ((rd_T23 x18_1 x20_1).f0), .int .i64 ((rd_T23 x18_1 x20_1).f1)] 23 (0, 0))) := ⟨by (with_reducible repeat (first | refine blk_drewN ?_ _ | refine blk_drew ?_ | refine blk_alloc ?_ _)); refine blk_put (cs := #[.int .i64 ((rd_T23 x18_1 x20_1).f0), .int .i64 0]) ?_ 1 _ rfl; (with_reducible repeat (first | refine blk_drewN ?_ _ | refine blk_drew ?_ | refine blk_alloc ?_ _)); refine blk_put (cs := #[.int .i64 0, .int .i64 0]) ?_ 0 _ rfl; (with_reducible repeat (first | refine blk_drewN ?_ _ | refine blk_drew ?_ | refine blk_alloc ?_ _)); exact BK240.out⟩
                      have n3_ : Aside0 (Below w.heap.size w ((w16.setCell ⟨gb240, 0, none⟩ (.int .i64 ((rd_T23 x18_1 x20_1).f0))).setCell ⟨gb240, 1, none⟩ (.int .i64 ((rd_T23 x18_1 x20_1).f1)))) := ⟨by repeat (first | (with_reducible first | exact HB.out | apply below_alloc | apply pw_below_drewN | apply below_drew1 | refine below_set ?_ GE240.out) | exact HB.out)⟩
                      (try clear HO_6)
                      (try clear HO_18)
                      (try clear BK240)
                      (try clear HB)
                      generalize ((w16.setCell ⟨gb240, 0, none⟩ (.int .i64 ((rd_T23 x18_1 x20_1).f0))).setCell ⟨gb240, 1, none⟩ (.int .i64 ((rd_T23 x18_1 x20_1).f1))) = w19 at n0_ n1_ n2_ n3_ ⊢
                      have HO_6 := n0_
                      have HO_18 := n1_
                      have BK240 := n2_
                      have HB := n3_
                      clear n0_ n1_ n2_ n3_
                      have n0_ := Aside0.mk (Kd.R_drew HO_6.out)
                      have n1_ := Aside0.mk (Kd.R_drew HO_18.out)
                      have n2_ := Aside0.mk (blk_drew BK240.out)
                      have n3_ := Aside0.mk (below_drew1 HB.out)
                      clear HO_6
                      clear HO_18
                      clear BK240
                      clear HB
                      have HO_6 := n0_
                      have HO_18 := n1_
                      have BK240 := n2_
                      have HB := n3_
                      clear n0_ n1_ n2_ n3_
                      have p241 : 0 ≤ ((ji10) : Int) := of_decide_eq_true (by first | (with_reducible assumption) | assumption)
                      have q241 : (ji10) < (x6_1.length : Int) := of_decide_eq_true (by first | (with_reducible assumption) | assumption)
                      obtain ⟨ad241, e241, hx241_0, hx241_1⟩ := at_T23 (Kd.R_reads' HO_6.out).2.2 (ji10) p241 q241
                      cases e241
                      replace p241 := eq_true p241
                      replace q241 := eq_true q241
                      refine start_ (n := 12) (S := fun w' => w'.cell? ⟨gb240, 0, none⟩ = some (.int .i64 ((rd_T23 x18_1 x20_1).f0)) ∧ w'.cell? ⟨gb240, 1, none⟩ = some (.int .i64 ((rd_T23 x18_1 x20_1).f1)) ∧ w'.cell? (ad241.add (((ji10)).toNat * 2)) = some (.int .i64 ((rd_T23 x6_1 (ji10)).f0)) ∧ w'.cell? ⟨(ad241.add (((ji10)).toNat * 2)).block, (ad241.add (((ji10)).toNat * 2)).off + 1, none⟩ = some (.int .i64 ((rd_T23 x6_1 (ji10)).f1))) (ds := []) #[false, false, false, false, false, false, false, false, false, false, false, false] (by kernel_rfl) rfl rfl ⟨(blk_cell BK240.out 0).trans rfl, (blk_cell BK240.out 1).trans rfl, hx241_0, hx241_1⟩ (fun hHeld => ?_); refine with_tabW corporaref11_Cover.tab9 corporaref11_Cover.bits9 (fun HT_ HW_ => ?_)
                      generalize w19.drew = w20 at HO_6 HO_18 BK240 HB hx241_0 hx241_1 hHeld ⊢
                      refine pure_ (i := 0) (N := some 27) (v := ?_) (a' := ?_) #[true, false, false, false, false, false, false, false, false, false, false, false] rfl rfl (any_of HT_.out (by kernel_rfl)) (fun _ _ _ h => h) (Or.inl ⟨by rfl, ?_⟩) ?_ ?_
                      rotate_left
                      · intro w'
                        go_simp
                        with_reducible rfl
                      rotate_left
                      · simp only [Act.put, List.setIfInBounds_toArray, List.set_cons_zero, List.set_cons_succ, i64_w, i32_w]
                        rfl
                      refine pure_ (i := 1) (N := some 28) (v := ?_) (a' := ?_) #[true, true, false, false, false, false, false, false, false, false, false, false] rfl rfl (any_of HT_.out (by kernel_rfl)) (fun _ _ _ h => h) (Or.inl ⟨by rfl, ?_⟩) ?_ ?_
                      rotate_left
                      · intro w'
                        go_simp
                        with_reducible rfl
                      rotate_left
                      · simp only [Act.put, List.setIfInBounds_toArray, List.set_cons_zero, List.set_cons_succ, i64_w, i32_w]
                        rfl
                      refine pure_ (i := 2) (N := some 29) (v := ?_) (a' := ?_) #[true, true, true, false, false, false, false, false, false, false, false, false] rfl rfl (any_of HT_.out (by kernel_rfl)) (fun _ _ _ h => h) (Or.inl ⟨by rfl, ?_⟩) ?_ ?_
                      rotate_left
                      · intro w'
                        go_simp
                        with_reducible rfl
                      rotate_left
                      · simp only [Act.put, List.setIfInBounds_toArray, List.set_cons_zero, List.set_cons_succ, i64_w, i32_w]
                        rfl
                      refine pure_ (i := 3) (N := some 30) (v := ?_) (a' := ?_) #[true, true, true, true, false, false, false, false, false, false, false, false] rfl rfl (any_of HT_.out (by kernel_rfl)) (fun _ _ _ h => h) (Or.inl ⟨by rfl, ?_⟩) ?_ ?_
                      rotate_left
                      · intro w'
                        go_simp
                        with_reducible rfl
                      rotate_left
                      · simp only [Act.put, List.setIfInBounds_toArray, List.set_cons_zero, List.set_cons_succ, i64_w, i32_w]
                        rfl
                      refine pure_ (i := 5) (N := some 32) (v := ?_) (a' := ?_) #[true, true, true, true, false, true, false, false, false, false, false, false] rfl rfl (any_of HT_.out (by kernel_rfl)) (fun _ _ _ h => h) (Or.inl ⟨by rfl, ?_⟩) ?_ ?_
                      rotate_left
                      · intro w'
                        go_simp
                        with_reducible rfl
                      rotate_left
                      · simp only [Act.put, List.setIfInBounds_toArray, List.set_cons_zero, List.set_cons_succ, i64_w, i32_w]
                        rfl
                      refine pure_ (i := 6) (N := some 33) (v := ?_) (a' := ?_) #[true, true, true, true, false, true, true, false, false, false, false, false] rfl rfl (any_of HT_.out (by kernel_rfl)) (fun _ _ _ h => h) (Or.inl ⟨by rfl, ?_⟩) ?_ ?_
                      rotate_left
                      · intro w'
                        go_simp
                        with_reducible rfl
                      rotate_left
                      · simp only [Act.put, List.setIfInBounds_toArray, List.set_cons_zero, List.set_cons_succ, i64_w, i32_w]
                        rfl
                      refine pure_ (i := 7) (N := some 34) (v := ?_) (a' := ?_) #[true, true, true, true, false, true, true, true, false, false, false, false] rfl rfl (any_of HT_.out (by kernel_rfl)) (fun _ _ _ h => h) (Or.inl ⟨by rfl, ?_⟩) ?_ ?_
                      rotate_left
                      · intro w'
                        go_simp
                        with_reducible rfl
                      rotate_left
                      · simp only [Act.put, List.setIfInBounds_toArray, List.set_cons_zero, List.set_cons_succ, i64_w, i32_w]
                        rfl
                      refine pure_ (i := 8) (N := some 35) (v := ?_) (a' := ?_) #[true, true, true, true, false, true, true, true, true, false, false, false] rfl rfl (any_of HT_.out (by kernel_rfl)) (fun _ _ _ h => h) (Or.inl ⟨by rfl, ?_⟩) ?_ ?_
                      rotate_left
                      · intro w'
                        go_simp
                        with_reducible rfl
                      rotate_left
                      · simp only [Act.put, List.setIfInBounds_toArray, List.set_cons_zero, List.set_cons_succ, i64_w, i32_w]
                        rfl
                      refine take_ (i := 4) (N := some 31) (v := ?_) (a' := ?_) #[true, true, true, true, true, true, true, true, true, false, false, false] rfl rfl (take_ofW HT_.out HW_.out (by kernel_rfl)) (fun _ _ _ h => h) (Or.inl ⟨by rfl, ?_⟩) hHeld ?_ ?_
                      rotate_left
                      · rintro w' ⟨s0, s1, s2, s3⟩
                        go_simp
                        with_reducible rfl
                      rotate_left
                      · simp only [Act.put, List.setIfInBounds_toArray, List.set_cons_zero, List.set_cons_succ, i64_w, i32_w]
                        rfl
                      refine take_ (i := 9) (N := some 36) (v := ?_) (a' := ?_) #[true, true, true, true, true, true, true, true, true, true, false, false] rfl rfl (take_ofW HT_.out HW_.out (by kernel_rfl)) (fun _ _ _ h => h) (Or.inl ⟨by rfl, ?_⟩) hHeld ?_ ?_
                      rotate_left
                      · rintro w' ⟨s0, s1, s2, s3⟩
                        go_simp
                        with_reducible rfl
                      rotate_left
                      · simp only [Act.put, List.setIfInBounds_toArray, List.set_cons_zero, List.set_cons_succ, i64_w, i32_w]
                        rfl
                      refine pure_ (i := 10) (N := some 37) (v := ?_) (a' := ?_) #[true, true, true, true, true, true, true, true, true, true, true, false] rfl rfl (any_of HT_.out (by kernel_rfl)) (fun _ _ _ h => h) (Or.inl ⟨by rfl, ?_⟩) ?_ ?_
                      rotate_left
                      · intro w'
                        go_simp
                        with_reducible rfl
                      rotate_left
                      · simp only [Act.put, List.setIfInBounds_toArray, List.set_cons_zero, List.set_cons_succ, i64_w, i32_w]
                        rfl
                      refine pure_ (i := 11) (N := some 38) (v := ?_) (a' := ?_) #[true, true, true, true, true, true, true, true, true, true, true, true] rfl rfl (any_of HT_.out (by kernel_rfl)) (fun _ _ _ h => h) (Or.inl ⟨by rfl, ?_⟩) ?_ ?_
                      rotate_left
                      · intro w'
                        go_simp
                        with_reducible rfl
                      rotate_left
                      · simp only [Act.put, List.setIfInBounds_toArray, List.set_cons_zero, List.set_cons_succ, i64_w, i32_w]
                        rfl
                      refine done_ (done_of HT_.out (by kernel_rfl)) ?_
                      try go_wp2
                      have n0_ := Aside0.mk (Kd.R_drew HO_6.out)
                      have n1_ := Aside0.mk (Kd.R_drew HO_18.out)
                      have n2_ := Aside0.mk (blk_drew BK240.out)
                      have n3_ := Aside0.mk (below_drew1 HB.out)
                      clear HO_6
                      clear HO_18
                      clear BK240
                      clear HB
                      have HO_6 := n0_
                      have HO_18 := n1_
                      have BK240 := n2_
                      have HB := n3_
                      clear n0_ n1_ n2_ n3_
                      have p242 : 0 ≤ ((ji10) : Int) := of_decide_eq_true (by first | (with_reducible assumption) | assumption)
                      have q242 : (ji10) < (x6_1.length : Int) := of_decide_eq_true (by first | (with_reducible assumption) | assumption)
                      obtain ⟨ad242, e242, hx242_0, hx242_1⟩ := at_T23 (Kd.R_reads' HO_6.out).2.2 (ji10) p242 q242
                      obtain rfl : ad241 = ad242 := (by injection e242)
                      replace p242 := eq_true p242
                      replace q242 := eq_true q242
                      have p15 : 0 ≤ ((ji10) : Int) := of_decide_eq_true (by first | (with_reducible assumption) | assumption)
                      have q15 : ((ji10) : Int) < ((x6_1.length : Int) : Int) := of_decide_eq_true (by first | (with_reducible assumption) | assumption)
                      obtain ⟨go15, co15, eo15, gb15, gl15, cl15, HG15⟩ := Kd.R_form HO_6.out (by omega)
                      (first | cases eo15 | (injection eo15 with ea_ en_ ec_; (first | subst ea_ | (injection ea_ with ea_; subst ea_)); subst ec_; clear en_))
                      have GB15 := Aside0.mk gb15
                      have GG15 := Aside0.mk HG15
                      clear gb15 gl15 HG15
                      (first | simp only [add_plain] at hx241_0 | skip)
                      (first | simp only [add_plain] at hx241_1 | skip)
                      (first | simp only [add_plain] at hx242_0 | skip)
                      (first | simp only [add_plain] at hx242_1 | skip)
                      obtain ⟨ce15, hcl15, hM15, hcc15, hfr15⟩ := Kd.R_elem HO_6.out z23 ((ji10) : Int) p15 q15
                      obtain rfl := k23_openM hM15
                      have hx15_0 : World.cell? _ ⟨go15, ((ji10) : Int).toNat * 2, none⟩ = some (.int .i64 ((rd_T23 x6_1 (ji10)).f0)) := hcc15 0 _ rfl
                      have hx15_1 : World.cell? _ ⟨go15, ((ji10) : Int).toNat * 2 + 1, none⟩ = some (.int .i64 ((rd_T23 x6_1 (ji10)).f1)) := hcc15 1 _ rfl
                      have hf15_0 : World.frozen? _ ⟨go15, ((ji10) : Int).toNat * 2, none⟩ = false := hfr15 0
                      have hf15_1 : World.frozen? _ ⟨go15, ((ji10) : Int).toNat * 2 + 1, none⟩ = false := hfr15 1
                      clear hcl15 hcc15 hfr15 hM15
                      replace p15 := eq_true p15
                      replace q15 := eq_true q15
                      obtain ⟨ce22, hcl22, hM22, hcc22, hfr22⟩ := Kd.R_elem HO_6.out z23 ((ji10) : Int) (of_decide_eq_true (by first | (with_reducible assumption) | assumption)) (by have h_ : ((ji10) : Int) < ((x6_1.length : Int) : Int) := of_decide_eq_true (by first | (with_reducible assumption) | assumption); first | exact h_ | (have e_ := (Kd.R_reads' HO_6.out).1; omega) | simpa using h_)
                      obtain rfl := k23_openM hM22
                      have HP22 := (Kd.R_seg HO_6.out ((ji10) : Int) (of_decide_eq_true (by first | (with_reducible assumption) | assumption)) (by have h_ : ((ji10) : Int) < ((x6_1.length : Int) : Int) := of_decide_eq_true (by first | (with_reducible assumption) | assumption); first | exact h_ | (have e_ := (Kd.R_reads' HO_6.out).1; omega) | simpa using h_) (seg := [.int .i64 ji14]) (j := 1) hcl22 hcc22 (show 2 ≤ 2 from by decide) (x' := (⟨(rd_T23 x6_1 (ji10)).f0, ji14⟩ : S23)) (k23_mkM _ _ _ (⟨(rd_T23 x6_1 (ji10)).f0, ji14⟩ : S23) ) (fun _ hk => hk)).1
                      rw [← Ny243.out] at HP22
                      have HQ22 := Aside0.mk HP22
                      clear hcl22 hcc22 hfr22 hM22 HP22
                      refine start_ (n := 13) (S := fun w' => w'.cell? ⟨gb240, 0, none⟩ = some (.int .i64 ((rd_T23 x18_1 x20_1).f0)) ∧ w'.cell? ⟨gb240, 1, none⟩ = some (.int .i64 ((rd_T23 x18_1 x20_1).f1)) ∧ w'.cell? ⟨go15, ((ji10)).toNat * 2, none⟩ = some (.int .i64 ((rd_T23 x6_1 (ji10)).f0)) ∧ w'.cell? ⟨go15, ((ji10)).toNat * 2 + 1, none⟩ = some (.int .i64 ((rd_T23 x6_1 (ji10)).f1))) (ds := [12]) #[false, false, false, false, false, false, false, false, false, false, false, false, false] (by kernel_rfl) rfl rfl ⟨(blk_cell BK240.out 0).trans rfl, (blk_cell BK240.out 1).trans rfl, hx242_0, hx242_1⟩ (fun hHeld => ?_); refine with_tabW corporaref11_Cover.tab10 corporaref11_Cover.bits10 (fun HT_ HW_ => ?_)
                      generalize w20.drew = w21 at HO_6 HO_18 BK240 HB GG15 HQ22 hf15_0 hf15_1 hx15_0 hx15_1 hx241_0 hx241_1 hx242_0 hx242_1 hHeld ⊢
                      refine pure_ (i := 0) (N := some 39) (v := ?_) (a' := ?_) #[true, false, false, false, false, false, false, false, false, false, false, false, false] rfl rfl (any_of HT_.out (by kernel_rfl)) (fun _ _ _ h => h) (Or.inl ⟨by rfl, ?_⟩) ?_ ?_
                      rotate_left
                      · intro w'
                        go_simp
                        with_reducible rfl
                      rotate_left
                      · simp only [Act.put, List.setIfInBounds_toArray, List.set_cons_zero, List.set_cons_succ, i64_w, i32_w]
                        rfl
                      refine pure_ (i := 1) (N := some 40) (v := ?_) (a' := ?_) #[true, true, false, false, false, false, false, false, false, false, false, false, false] rfl rfl (any_of HT_.out (by kernel_rfl)) (fun _ _ _ h => h) (Or.inl ⟨by rfl, ?_⟩) ?_ ?_
                      rotate_left
                      · intro w'
                        go_simp
                        with_reducible rfl
                      rotate_left
                      · simp only [Act.put, List.setIfInBounds_toArray, List.set_cons_zero, List.set_cons_succ, i64_w, i32_w]
                        rfl
                      refine pure_ (i := 2) (N := some 41) (v := ?_) (a' := ?_) #[true, true, true, false, false, false, false, false, false, false, false, false, false] rfl rfl (any_of HT_.out (by kernel_rfl)) (fun _ _ _ h => h) (Or.inl ⟨by rfl, ?_⟩) ?_ ?_
                      rotate_left
                      · intro w'
                        go_simp
                        with_reducible rfl
                      rotate_left
                      · simp only [Act.put, List.setIfInBounds_toArray, List.set_cons_zero, List.set_cons_succ, i64_w, i32_w]
                        rfl
                      refine pure_ (i := 3) (N := some 42) (v := ?_) (a' := ?_) #[true, true, true, true, false, false, false, false, false, false, false, false, false] rfl rfl (any_of HT_.out (by kernel_rfl)) (fun _ _ _ h => h) (Or.inl ⟨by rfl, ?_⟩) ?_ ?_
                      rotate_left
                      · intro w'
                        go_simp
                        with_reducible rfl
                      rotate_left
                      · simp only [Act.put, List.setIfInBounds_toArray, List.set_cons_zero, List.set_cons_succ, i64_w, i32_w]
                        rfl
                      refine pure_ (i := 4) (N := some 43) (v := ?_) (a' := ?_) #[true, true, true, true, true, false, false, false, false, false, false, false, false] rfl rfl (any_of HT_.out (by kernel_rfl)) (fun _ _ _ h => h) (Or.inl ⟨by rfl, ?_⟩) ?_ ?_
                      rotate_left
                      · intro w'
                        go_simp
                        with_reducible rfl
                      rotate_left
                      · simp only [Act.put, List.setIfInBounds_toArray, List.set_cons_zero, List.set_cons_succ, i64_w, i32_w]
                        rfl
                      refine pure_ (i := 5) (N := some 44) (v := ?_) (a' := ?_) #[true, true, true, true, true, true, false, false, false, false, false, false, false] rfl rfl (any_of HT_.out (by kernel_rfl)) (fun _ _ _ h => h) (Or.inl ⟨by rfl, ?_⟩) ?_ ?_
                      rotate_left
                      · intro w'
                        go_simp
                        with_reducible rfl
                      rotate_left
                      · simp only [Act.put, List.setIfInBounds_toArray, List.set_cons_zero, List.set_cons_succ, i64_w, i32_w]
                        rfl
                      refine pure_ (i := 7) (N := some 46) (v := ?_) (a' := ?_) #[true, true, true, true, true, true, false, true, false, false, false, false, false] rfl rfl (any_of HT_.out (by kernel_rfl)) (fun _ _ _ h => h) (Or.inl ⟨by rfl, ?_⟩) ?_ ?_
                      rotate_left
                      · intro w'
                        go_simp
                        with_reducible rfl
                      rotate_left
                      · simp only [Act.put, List.setIfInBounds_toArray, List.set_cons_zero, List.set_cons_succ, i64_w, i32_w]
                        rfl
                      refine take_ (i := 6) (N := some 45) (v := ?_) (a' := ?_) #[true, true, true, true, true, true, true, true, false, false, false, false, false] rfl rfl (take_ofW HT_.out HW_.out (by kernel_rfl)) (fun _ _ _ h => h) (Or.inl ⟨by rfl, ?_⟩) hHeld ?_ ?_
                      rotate_left
                      · rintro w' ⟨s0, s1, s2, s3⟩
                        go_simp
                        with_reducible rfl
                      rotate_left
                      · simp only [Act.put, List.setIfInBounds_toArray, List.set_cons_zero, List.set_cons_succ, i64_w, i32_w]
                        rfl
                      refine take_ (i := 8) (N := some 47) (v := ?_) (a' := ?_) #[true, true, true, true, true, true, true, true, true, false, false, false, false] rfl rfl (take_ofW HT_.out HW_.out (by kernel_rfl)) (fun _ _ _ h => h) (Or.inl ⟨by rfl, ?_⟩) hHeld ?_ ?_
                      rotate_left
                      · rintro w' ⟨s0, s1, s2, s3⟩
                        go_simp
                        with_reducible rfl
                      rotate_left
                      · simp only [Act.put, List.setIfInBounds_toArray, List.set_cons_zero, List.set_cons_succ, i64_w, i32_w]
                        rfl
                      refine pure_ (i := 9) (N := some 48) (v := ?_) (a' := ?_) #[true, true, true, true, true, true, true, true, true, true, false, false, false] rfl rfl (any_of HT_.out (by kernel_rfl)) (fun _ _ _ h => h) (Or.inl ⟨by rfl, ?_⟩) ?_ ?_
                      rotate_left
                      · intro w'
                        go_simp
                        with_reducible rfl
                      rotate_left
                      · simp only [Act.put, List.setIfInBounds_toArray, List.set_cons_zero, List.set_cons_succ, i64_w, i32_w]
                        rfl
                      refine pure_ (i := 10) (N := some 49) (v := ?_) (a' := ?_) #[true, true, true, true, true, true, true, true, true, true, true, false, false] rfl rfl (any_of HT_.out (by kernel_rfl)) (fun _ _ _ h => h) (Or.inl ⟨by rfl, ?_⟩) ?_ ?_
                      rotate_left
                      · intro w'
                        go_simp
                        with_reducible rfl
                      rotate_left
                      · simp only [Act.put, List.setIfInBounds_toArray, List.set_cons_zero, List.set_cons_succ, i64_w, i32_w]
                        rfl
                      refine pure_ (i := 11) (N := some 50) (v := ?_) (a' := ?_) #[true, true, true, true, true, true, true, true, true, true, true, true, false] rfl rfl (any_of HT_.out (by kernel_rfl)) (fun _ _ _ h => h) (Or.inl ⟨by rfl, ?_⟩) ?_ ?_
                      rotate_left
                      · intro w'
                        go_simp
                        with_reducible rfl
                      rotate_left
                      · simp only [Act.put, List.setIfInBounds_toArray, List.set_cons_zero, List.set_cons_succ, i64_w, i32_w]
                        rfl
                      refine last_ (i := 12) (N := none) #[true, true, true, true, true, true, true, true, true, true, true, true, true] rfl rfl (one_of HT_.out (by kernel_rfl)) (by decide) (fun K hK => ?_)
                      refine skip_ (w1 := ?_) (by rfl) rfl ?_ ?_
                      rotate_left
                      · go_simp
                        rfl
                      refine hK.out _ _ ?_
                      clear hK K
                      refine done_ (done_of HT_.out (by kernel_rfl)) ?_
                      try go_wp2
                      (try simp only [← hl18_1])
                      go_roundg k1
                      case measure => have := HK1.out; omega
                      case rel => exact ⟨(y243), (x18_1), (wrap64 (x20_1 + 1)), (by first | rfl | (simp; done) | (simp [*]; done)), H', ⟨by have := HK1.out; omega⟩, ⟨by (try simp only [hl18_1]); (with_reducible repeat (first | apply Kd.R_alloc | apply Kd.R_drewN | apply Kd.R_drew)); exact Kd.R_mono HQ22.out (fun _ hk => hk.1)⟩, ⟨by (try simp only [hl18_1]); (with_reducible repeat (first | apply Kd.R_alloc | apply Kd.R_drewN | apply Kd.R_drew)); exact Kd.R_mono (Kd.R_far (p := ⟨go15, ((ji10) : Int).toNat * 2 + 1, none⟩) (Kd.R_mono HO_18.out (fun k_ hk => (⟨hk, fun e_ => hk.1 (by rw [e_]; rfl)⟩ : _ ∧ k_ ≠ go15))) (fun _ hk => hk.2) (.int .i64 ji14)) (fun _ hk => hk.1.1)⟩, ⟨by repeat (first | (with_reducible first | exact HB.out | apply below_alloc | apply pw_below_drewN | apply below_drew1 | refine below_set ?_ GB15.out | refine below_set ?_ GE240.out) | exact HB.out)⟩⟩
                    · rw [if_neg c13] at H
                      have c13b0 : decide (((rd_T23 x18_1 x20_1).f0) ≤ ((rd_T23 x6_1 (ji10)).f1)) = false := decide_eq_false c13
                      clear c13
                      by_cases c23 : x6_1.length < 8796093022208
                      · rw [if_pos c23] at H
                        have LMc23 := Aside0.mk c23
                        clear c23
                        obtain ⟨y244, hy244⟩ : ∃ y_ : List (S23), y_ = (x6_1 ++ [(⟨(rd_T23 x18_1 x20_1).f0, (rd_T23 x18_1 x20_1).f1⟩ : S23)]) := ⟨_, rfl⟩
                        replace H : (corporaref11_Cover.l0 k1 y244 x18_1 (t235.length : Int) (wrap64 (x20_1 + 1))) = some (r1, r2) := by first | (rw [hy244]; with_reducible exact H) | (have H2_ := (Option.bind_some _ _).symm.trans H; rw [hy244]; with_reducible exact H2_) | (have H2_ := (Option.bind_some _ _).symm.trans H; with_reducible exact H2_) | with_reducible exact H | (rw [hy244]; exact H) | exact H
                        have Ny244 := Aside0.mk hy244
                        clear hy244
                        have H' := Aside0.mk H
                        clear H
                        have p239 : 0 ≤ (x20_1 : Int) := of_decide_eq_true (by first | (with_reducible assumption) | assumption)
                        have q239 : x20_1 < (x18_1.length : Int) := of_decide_eq_true (by first | (with_reducible assumption) | assumption)
                        obtain ⟨ad239, e239, hx239_0, hx239_1⟩ := at_T23 (Kd.R_reads' HO_18.out).2.2 x20_1 p239 q239
                        cases e239
                        replace p239 := eq_true p239
                        replace q239 := eq_true q239
                        try go_wp2_with (first | ((with_reducible refine gate_dst (N := 8) rfl ?_); refine box_event ?hg (N := 8) ?hd (cs := #[.int .i64 0, .int .i64 0]) (t := 23) ?hr ?_; (case hd => rfl); (case hg => rfl); (case hr => first | (go_simp; done) | (go_simp; rfl)); intro gb240 hg w24 hbox hb; have n0_ := Aside0.mk (Kd.R_below (Kd.R_elderB (by (with_reducible repeat (first | apply Kd.R_alloc | apply Kd.R_drewN | apply Kd.R_drew)); exact HO_6.out) gb240 (Nat.le_of_eq hg.symm)) hb); have n1_ := Aside0.mk (Kd.R_below (Kd.R_elderB (by (with_reducible repeat (first | apply Kd.R_alloc | apply Kd.R_drewN | apply Kd.R_drew)); exact HO_18.out) gb240 (Nat.le_of_eq hg.symm)) hb); have n2_ := Aside0.mk (below_step (by repeat (first | (with_reducible first | exact HB.out | apply below_alloc | apply pw_below_drewN | apply below_drew1) | exact HB.out)) hb); have n3_ := Aside0.mk (hbox); have n4_ := Aside0.mk ((by rw [hg]; exact (below_size (by repeat (first | (with_reducible first | exact HB.out | apply below_alloc | apply pw_below_drewN | apply below_drew1) | exact HB.out))) : w.heap.size ≤ gb240)); have n5_ := Aside0.mk ((by rw [hg]; exact (below_size (by repeat (first | (with_reducible first | exact HB.out | apply below_alloc | apply pw_below_drewN | apply below_drew1) | exact HB.out))) : w.heap.size ≤ gb240)); clear HO_6; clear HO_18; clear HB; have HO_6 := n0_; have HO_18 := n1_; have HB := n2_; have BK240 := n3_; have GW240 := n4_; have GE240 := n5_; clear n0_ n1_ n2_ n3_ n4_ n5_; clear hb hbox hg; have hcz25_0 : w24.cell? ⟨gb240, 0, none⟩ = some (.int .i64 0) := (blk_cell BK240.out 0).trans rfl; have hcz25_1 : w24.cell? ⟨gb240, 1, none⟩ = some (.int .i64 0) := (blk_cell BK240.out 1).trans rfl; have hfz25_0 := blk_frozen BK240.out 0; have hfz25_1 := blk_frozen BK240.out 1; obtain ⟨Ao26, co26, eo26⟩ := Kd.R_slice HO_6.out; subst eo26))
                        have n0_ : Aside0 (Kd.R k23 23 ((w24.setCell ⟨gb240, 0, none⟩ (.int .i64 ((rd_T23 x18_1 x20_1).f0))).setCell ⟨gb240, 1, none⟩ (.int .i64 ((rd_T23 x18_1 x20_1).f1))) w.heap.size (fun k_ => some k_ ≠ (.slice (some ad239) x18_1.length co5 : Value).ownBlock ∧ k_ ≠ gb240) (.slice Ao26 x6_1.length co26) x6_1) := ⟨by (with_reducible repeat (first | apply Kd.R_alloc | apply Kd.R_drewN | apply Kd.R_drew)); exact Kd.R_mono (Kd.R_far (p := ⟨gb240, 1, none⟩) (Kd.R_far (p := ⟨gb240, 0, none⟩) (Kd.R_mono HO_6.out (fun k_ hk => (⟨hk, hk.2⟩ : _ ∧ k_ ≠ gb240))) (fun _ hk => hk.2) (.int .i64 ((rd_T23 x18_1 x20_1).f0))) (fun _ hk => hk.2) (.int .i64 ((rd_T23 x18_1 x20_1).f1))) (fun _ hk => ⟨hk.1.1, hk.1.2⟩)⟩
                        have n1_ : Aside0 (Kd.R k23 23 ((w24.setCell ⟨gb240, 0, none⟩ (.int .i64 ((rd_T23 x18_1 x20_1).f0))).setCell ⟨gb240, 1, none⟩ (.int .i64 ((rd_T23 x18_1 x20_1).f1))) w.heap.size (fun k_ => some k_ ≠ (.slice Ao26 x6_1.length co26 : Value).ownBlock ∧ k_ ≠ gb240) (.slice (some ad239) x18_1.length co5) x18_1) := ⟨by (with_reducible repeat (first | apply Kd.R_alloc | apply Kd.R_drewN | apply Kd.R_drew)); exact Kd.R_mono (Kd.R_far (p := ⟨gb240, 1, none⟩) (Kd.R_far (p := ⟨gb240, 0, none⟩) (Kd.R_mono HO_18.out (fun k_ hk => (⟨hk, hk.2⟩ : _ ∧ k_ ≠ gb240))) (fun _ hk => hk.2) (.int .i64 ((rd_T23 x18_1 x20_1).f0))) (fun _ hk => hk.2) (.int .i64 ((rd_T23 x18_1 x20_1).f1))) (fun _ hk => ⟨hk.1.1, hk.1.2⟩)⟩
                        have n2_ : Aside0 (((w24.setCell ⟨gb240, 0, none⟩ (.int .i64 ((rd_T23 x18_1 x20_1).f0))).setCell ⟨gb240, 1, none⟩ (.int .i64 ((rd_T23 x18_1 x20_1).f1))).heap[gb240]? = some (.cells #[.int .i64 ((rd_T23 x18_1 x20_1).f0), .int .i64 ((rd_T23 x18_1 x20_1).f1)] 23 (0, 0))) := ⟨by (with_reducible repeat (first | refine blk_drewN ?_ _ | refine blk_drew ?_ | refine blk_alloc ?_ _)); refine blk_put (cs := #[.int .i64 ((rd_T23 x18_1 x20_1).f0), .int .i64 0]) ?_ 1 _ rfl; (with_reducible repeat (first | refine blk_drewN ?_ _ | refine blk_drew ?_ | refine blk_alloc ?_ _)); refine blk_put (cs := #[.int .i64 0, .int .i64 0]) ?_ 0 _ rfl; (with_reducible repeat (first | refine blk_drewN ?_ _ | refine blk_drew ?_ | refine blk_alloc ?_ _)); exact BK240.out⟩
                        have n3_ : Aside0 (Below w.heap.size w ((w24.setCell ⟨gb240, 0, none⟩ (.int .i64 ((rd_T23 x18_1 x20_1).f0))).setCell ⟨gb240, 1, none⟩ (.int .i64 ((rd_T23 x18_1 x20_1).f1)))) := ⟨by repeat (first | (with_reducible first | exact HB.out | apply below_alloc | apply pw_below_drewN | apply below_drew1 | refine below_set ?_ GE240.out) | exact HB.out)⟩
                        (try clear HO_6)
                        (try clear HO_18)
                        (try clear BK240)
                        (try clear HB)
                        generalize ((w24.setCell ⟨gb240, 0, none⟩ (.int .i64 ((rd_T23 x18_1 x20_1).f0))).setCell ⟨gb240, 1, none⟩ (.int .i64 ((rd_T23 x18_1 x20_1).f1))) = w27 at n0_ n1_ n2_ n3_ ⊢
                        have HO_6 := n0_
                        have HO_18 := n1_
                        have BK240 := n2_
                        have HB := n3_
                        clear n0_ n1_ n2_ n3_
                        have n0_ := Aside0.mk (Kd.R_drew HO_6.out)
                        have n1_ := Aside0.mk (Kd.R_drew HO_18.out)
                        have n2_ := Aside0.mk (blk_drew BK240.out)
                        have n3_ := Aside0.mk (below_drew1 HB.out)
                        clear HO_6
                        clear HO_18
                        clear BK240
                        clear HB
                        have HO_6 := n0_
                        have HO_18 := n1_
                        have BK240 := n2_
                        have HB := n3_
                        clear n0_ n1_ n2_ n3_
                        have p241 : 0 ≤ ((ji10) : Int) := of_decide_eq_true (by first | (with_reducible assumption) | assumption)
                        have q241 : (ji10) < (x6_1.length : Int) := of_decide_eq_true (by first | (with_reducible assumption) | assumption)
                        obtain ⟨ad241, e241, hx241_0, hx241_1⟩ := at_T23 (Kd.R_reads' HO_6.out).2.2 (ji10) p241 q241
                        cases e241
                        replace p241 := eq_true p241
                        replace q241 := eq_true q241
                        refine start_ (n := 12) (S := fun w' => w'.cell? ⟨gb240, 0, none⟩ = some (.int .i64 ((rd_T23 x18_1 x20_1).f0)) ∧ w'.cell? ⟨gb240, 1, none⟩ = some (.int .i64 ((rd_T23 x18_1 x20_1).f1)) ∧ w'.cell? (ad241.add (((ji10)).toNat * 2)) = some (.int .i64 ((rd_T23 x6_1 (ji10)).f0)) ∧ w'.cell? ⟨(ad241.add (((ji10)).toNat * 2)).block, (ad241.add (((ji10)).toNat * 2)).off + 1, none⟩ = some (.int .i64 ((rd_T23 x6_1 (ji10)).f1))) (ds := []) #[false, false, false, false, false, false, false, false, false, false, false, false] (by kernel_rfl) rfl rfl ⟨(blk_cell BK240.out 0).trans rfl, (blk_cell BK240.out 1).trans rfl, hx241_0, hx241_1⟩ (fun hHeld => ?_); refine with_tabW corporaref11_Cover.tab9 corporaref11_Cover.bits9 (fun HT_ HW_ => ?_)
                        generalize w27.drew = w28 at HO_6 HO_18 BK240 HB hx241_0 hx241_1 hHeld ⊢
                        refine pure_ (i := 0) (N := some 27) (v := ?_) (a' := ?_) #[true, false, false, false, false, false, false, false, false, false, false, false] rfl rfl (any_of HT_.out (by kernel_rfl)) (fun _ _ _ h => h) (Or.inl ⟨by rfl, ?_⟩) ?_ ?_
                        rotate_left
                        · intro w'
                          go_simp
                          with_reducible rfl
                        rotate_left
                        · simp only [Act.put, List.setIfInBounds_toArray, List.set_cons_zero, List.set_cons_succ, i64_w, i32_w]
                          rfl
                        refine pure_ (i := 1) (N := some 28) (v := ?_) (a' := ?_) #[true, true, false, false, false, false, false, false, false, false, false, false] rfl rfl (any_of HT_.out (by kernel_rfl)) (fun _ _ _ h => h) (Or.inl ⟨by rfl, ?_⟩) ?_ ?_
                        rotate_left
                        · intro w'
                          go_simp
                          with_reducible rfl
                        rotate_left
                        · simp only [Act.put, List.setIfInBounds_toArray, List.set_cons_zero, List.set_cons_succ, i64_w, i32_w]
                          rfl
                        refine pure_ (i := 2) (N := some 29) (v := ?_) (a' := ?_) #[true, true, true, false, false, false, false, false, false, false, false, false] rfl rfl (any_of HT_.out (by kernel_rfl)) (fun _ _ _ h => h) (Or.inl ⟨by rfl, ?_⟩) ?_ ?_
                        rotate_left
                        · intro w'
                          go_simp
                          with_reducible rfl
                        rotate_left
                        · simp only [Act.put, List.setIfInBounds_toArray, List.set_cons_zero, List.set_cons_succ, i64_w, i32_w]
                          rfl
                        refine pure_ (i := 3) (N := some 30) (v := ?_) (a' := ?_) #[true, true, true, true, false, false, false, false, false, false, false, false] rfl rfl (any_of HT_.out (by kernel_rfl)) (fun _ _ _ h => h) (Or.inl ⟨by rfl, ?_⟩) ?_ ?_
                        rotate_left
                        · intro w'
                          go_simp
                          with_reducible rfl
                        rotate_left
                        · simp only [Act.put, List.setIfInBounds_toArray, List.set_cons_zero, List.set_cons_succ, i64_w, i32_w]
                          rfl
                        refine pure_ (i := 5) (N := some 32) (v := ?_) (a' := ?_) #[true, true, true, true, false, true, false, false, false, false, false, false] rfl rfl (any_of HT_.out (by kernel_rfl)) (fun _ _ _ h => h) (Or.inl ⟨by rfl, ?_⟩) ?_ ?_
                        rotate_left
                        · intro w'
                          go_simp
                          with_reducible rfl
                        rotate_left
                        · simp only [Act.put, List.setIfInBounds_toArray, List.set_cons_zero, List.set_cons_succ, i64_w, i32_w]
                          rfl
                        refine pure_ (i := 6) (N := some 33) (v := ?_) (a' := ?_) #[true, true, true, true, false, true, true, false, false, false, false, false] rfl rfl (any_of HT_.out (by kernel_rfl)) (fun _ _ _ h => h) (Or.inl ⟨by rfl, ?_⟩) ?_ ?_
                        rotate_left
                        · intro w'
                          go_simp
                          with_reducible rfl
                        rotate_left
                        · simp only [Act.put, List.setIfInBounds_toArray, List.set_cons_zero, List.set_cons_succ, i64_w, i32_w]
                          rfl
                        refine pure_ (i := 7) (N := some 34) (v := ?_) (a' := ?_) #[true, true, true, true, false, true, true, true, false, false, false, false] rfl rfl (any_of HT_.out (by kernel_rfl)) (fun _ _ _ h => h) (Or.inl ⟨by rfl, ?_⟩) ?_ ?_
                        rotate_left
                        · intro w'
                          go_simp
                          with_reducible rfl
                        rotate_left
                        · simp only [Act.put, List.setIfInBounds_toArray, List.set_cons_zero, List.set_cons_succ, i64_w, i32_w]
                          rfl
                        refine pure_ (i := 8) (N := some 35) (v := ?_) (a' := ?_) #[true, true, true, true, false, true, true, true, true, false, false, false] rfl rfl (any_of HT_.out (by kernel_rfl)) (fun _ _ _ h => h) (Or.inl ⟨by rfl, ?_⟩) ?_ ?_
                        rotate_left
                        · intro w'
                          go_simp
                          with_reducible rfl
                        rotate_left
                        · simp only [Act.put, List.setIfInBounds_toArray, List.set_cons_zero, List.set_cons_succ, i64_w, i32_w]
                          rfl
                        refine take_ (i := 4) (N := some 31) (v := ?_) (a' := ?_) #[true, true, true, true, true, true, true, true, true, false, false, false] rfl rfl (take_ofW HT_.out HW_.out (by kernel_rfl)) (fun _ _ _ h => h) (Or.inl ⟨by rfl, ?_⟩) hHeld ?_ ?_
                        rotate_left
                        · rintro w' ⟨s0, s1, s2, s3⟩
                          go_simp
                          with_reducible rfl
                        rotate_left
                        · simp only [Act.put, List.setIfInBounds_toArray, List.set_cons_zero, List.set_cons_succ, i64_w, i32_w]
                          rfl
                        refine take_ (i := 9) (N := some 36) (v := ?_) (a' := ?_) #[true, true, true, true, true, true, true, true, true, true, false, false] rfl rfl (take_ofW HT_.out HW_.out (by kernel_rfl)) (fun _ _ _ h => h) (Or.inl ⟨by rfl, ?_⟩) hHeld ?_ ?_
                        rotate_left
                        · rintro w' ⟨s0, s1, s2, s3⟩
                          go_simp
                          with_reducible rfl
                        rotate_left
                        · simp only [Act.put, List.setIfInBounds_toArray, List.set_cons_zero, List.set_cons_succ, i64_w, i32_w]
                          rfl
                        refine pure_ (i := 10) (N := some 37) (v := ?_) (a' := ?_) #[true, true, true, true, true, true, true, true, true, true, true, false] rfl rfl (any_of HT_.out (by kernel_rfl)) (fun _ _ _ h => h) (Or.inl ⟨by rfl, ?_⟩) ?_ ?_
                        rotate_left
                        · intro w'
                          go_simp
                          with_reducible rfl
                        rotate_left
                        · simp only [Act.put, List.setIfInBounds_toArray, List.set_cons_zero, List.set_cons_succ, i64_w, i32_w]
                          rfl
                        refine pure_ (i := 11) (N := some 38) (v := ?_) (a' := ?_) #[true, true, true, true, true, true, true, true, true, true, true, true] rfl rfl (any_of HT_.out (by kernel_rfl)) (fun _ _ _ h => h) (Or.inl ⟨by rfl, ?_⟩) ?_ ?_
                        rotate_left
                        · intro w'
                          go_simp
                          with_reducible rfl
                        rotate_left
                        · simp only [Act.put, List.setIfInBounds_toArray, List.set_cons_zero, List.set_cons_succ, i64_w, i32_w]
                          rfl
                        refine done_ (done_of HT_.out (by kernel_rfl)) ?_
                        have hcz29_0 : w28.cell? ⟨gb240, 0, none⟩ = some (.int .i64 ((rd_T23 x18_1 x20_1).f0)) := (blk_cell BK240.out 0).trans rfl
                        have hcz29_1 : w28.cell? ⟨gb240, 1, none⟩ = some (.int .i64 ((rd_T23 x18_1 x20_1).f1)) := (blk_cell BK240.out 1).trans rfl
                        have hfz29_0 := blk_frozen BK240.out 0
                        have hfz29_1 := blk_frozen BK240.out 1
                        try go_wp2_with (first | ((with_reducible refine gate_builtin (b := .append) (xs := #[.tmp 51, .tmp 53]) rfl ?_); at_builtin; refine Kd.R_append k23 (w0 := w) w.heap.size rfl (.tmp 51) (.tmp 53) 28 23 (.agg #[(.int .i64 0), (.int .i64 0)]) 16 rfl Try.underlying28 info23 rfl (by decide) (by omega) (.slice (some ad241) x6_1.length co26) x6_1 (⟨(rd_T23 x18_1 x20_1).f0, (rd_T23 x18_1 x20_1).f1⟩ : S23) [.int .i64 ((rd_T23 x18_1 x20_1).f0), .int .i64 ((rd_T23 x18_1 x20_1).f1)] (fun k_ => some k_ ≠ (.slice (some ad239) x18_1.length co5 : Value).ownBlock ∧ k_ ≠ gb240) (fun _ => False) rfl rfl ?aP (fun _ hk => hk.elim) ?aF ?aO ?aB ?aS ?aL ?_; (case aP => exact k23_mkM _ _ _ (⟨(rd_T23 x18_1 x20_1).f0, (rd_T23 x18_1 x20_1).f1⟩ : S23)); (case aB => exact (by repeat (first | (with_reducible first | exact HB.out | apply below_alloc | apply pw_below_drewN | apply below_drew1 | refine below_set ?_ GE240.out) | exact HB.out))); (case aF => exact (fun k_ hk => ⟨Kd.fresh' (Kd.R_lt (by (with_reducible repeat (first | apply Kd.R_alloc | apply Kd.R_drewN | apply Kd.R_drew)); exact HO_18.out)) k_ hk, Kd.freshB (g := gb240) (o := .cells #[.int .i64 ((rd_T23 x18_1 x20_1).f0), .int .i64 ((rd_T23 x18_1 x20_1).f1)] 23 (0, 0)) (by (with_reducible repeat (first | refine blk_drewN ?_ _ | refine blk_drew ?_ | refine blk_alloc ?_ _)); exact BK240.out) k_ hk⟩)); (case aO => exact (by (with_reducible repeat (first | apply Kd.R_alloc | apply Kd.R_drewN | apply Kd.R_drew)); exact HO_6.out)); (case aS => exact (below_size (by repeat (first | (with_reducible first | exact HB.out | apply below_alloc | apply pw_below_drewN | apply below_drew1 | refine below_set ?_ GE240.out) | exact HB.out)))); (case aL => have := LMc23.out; omega); intro v245 w30 ho hb hg hat; rw [← Ny244.out] at ho; have n0_ := Aside0.mk (Kd.R_after (ok := (fun k_ => k_ ≠ gb240)) (by (with_reducible repeat (first | apply Kd.R_alloc | apply Kd.R_drewN | apply Kd.R_drew)); exact Kd.R_mono HO_18.out (fun _ hk => ⟨hk.2, hk.1⟩)) hg hat); have n1_ := Aside0.mk (blk_grown (g := gb240) (o := .cells #[.int .i64 ((rd_T23 x18_1 x20_1).f0), .int .i64 ((rd_T23 x18_1 x20_1).f1)] 23 (0, 0)) (by (with_reducible repeat (first | refine blk_drewN ?_ _ | refine blk_drew ?_ | refine blk_alloc ?_ _)); exact BK240.out) hg (Kd.R_away HO_6.out (fun _ hk => hk.2))); have n2_ := Aside0.mk (hb); have n3_ := Aside0.mk (ho); clear HO_18; clear BK240; clear HB; clear HO_6; have HO_18 := n0_; have BK240 := n1_; have HB := n2_; have HO246 := n3_; clear n0_ n1_ n2_ n3_; clear ho hb hg hat))
                        (try simp only [← hl18_1])
                        go_roundg k1
                        case measure => have := HK1.out; omega
                        case rel => exact ⟨(y244), (x18_1), (wrap64 (x20_1 + 1)), (by first | rfl | (simp; done) | (simp [*]; done)), H', ⟨by have := HK1.out; omega⟩, ⟨by (try simp only [hl18_1]); (with_reducible repeat (first | apply Kd.R_alloc | apply Kd.R_drewN | apply Kd.R_drew)); exact Kd.R_mono HO246.out (fun _ hk => hk.1)⟩, ⟨by (try simp only [hl18_1]); (with_reducible repeat (first | apply Kd.R_alloc | apply Kd.R_drewN | apply Kd.R_drew)); exact Kd.R_mono HO_18.out (fun _ hk => hk.2)⟩, ⟨by repeat (first | (with_reducible first | exact HB.out | apply below_alloc | apply pw_below_drewN | apply below_drew1 | refine below_set ?_ GE240.out) | exact HB.out)⟩⟩
                      · rw [if_neg c23] at H
                        exact absurd H (by simp)
                  · rw [if_neg c12] at H
                    exact absurd H (by simp)
                · rw [if_neg c11] at H
                  exact absurd H (by simp)
              · rw [if_neg c9] at H
                have c9b0 : decide (0 ≤ (wrap64 ((x6_1.length : Int) - 1))) = false := decide_eq_false c9
                clear c9
                by_cases c31 : x6_1.length < 8796093022208
                · rw [if_pos c31] at H
                  have LMc31 := Aside0.mk c31
                  clear c31
                  obtain ⟨y247, hy247⟩ : ∃ y_ : List (S23), y_ = (x6_1 ++ [(⟨(rd_T23 x18_1 x20_1).f0, (rd_T23 x18_1 x20_1).f1⟩ : S23)]) := ⟨_, rfl⟩
                  replace H : (corporaref11_Cover.l0 k1 y247 x18_1 (t235.length : Int) (wrap64 (x20_1 + 1))) = some (r1, r2) := by first | (rw [hy247]; with_reducible exact H) | (have H2_ := (Option.bind_some _ _).symm.trans H; rw [hy247]; with_reducible exact H2_) | (have H2_ := (Option.bind_some _ _).symm.trans H; with_reducible exact H2_) | with_reducible exact H | (rw [hy247]; exact H) | exact H
                  have Ny247 := Aside0.mk hy247
                  clear hy247
                  have H' := Aside0.mk H
                  clear H
                  have p239 : 0 ≤ (x20_1 : Int) := of_decide_eq_true (by first | (with_reducible assumption) | assumption)
                  have q239 : x20_1 < (x18_1.length : Int) := of_decide_eq_true (by first | (with_reducible assumption) | assumption)
                  obtain ⟨ad239, e239, hx239_0, hx239_1⟩ := at_T23 (Kd.R_reads' HO_18.out).2.2 x20_1 p239 q239
                  cases e239
                  replace p239 := eq_true p239
                  replace q239 := eq_true q239
                  try go_wp2_with (first | ((with_reducible refine gate_dst (N := 8) rfl ?_); refine box_event ?hg (N := 8) ?hd (cs := #[.int .i64 0, .int .i64 0]) (t := 23) ?hr ?_; (case hd => rfl); (case hg => rfl); (case hr => first | (go_simp; done) | (go_simp; rfl)); intro gb240 hg w32 hbox hb; have n0_ := Aside0.mk (Kd.R_below (Kd.R_elderB (by (with_reducible repeat (first | apply Kd.R_alloc | apply Kd.R_drewN | apply Kd.R_drew)); exact HO_6.out) gb240 (Nat.le_of_eq hg.symm)) hb); have n1_ := Aside0.mk (Kd.R_below (Kd.R_elderB (by (with_reducible repeat (first | apply Kd.R_alloc | apply Kd.R_drewN | apply Kd.R_drew)); exact HO_18.out) gb240 (Nat.le_of_eq hg.symm)) hb); have n2_ := Aside0.mk (below_step (by repeat (first | (with_reducible first | exact HB.out | apply below_alloc | apply pw_below_drewN | apply below_drew1) | exact HB.out)) hb); have n3_ := Aside0.mk (hbox); have n4_ := Aside0.mk ((by rw [hg]; exact (below_size (by repeat (first | (with_reducible first | exact HB.out | apply below_alloc | apply pw_below_drewN | apply below_drew1) | exact HB.out))) : w.heap.size ≤ gb240)); have n5_ := Aside0.mk ((by rw [hg]; exact (below_size (by repeat (first | (with_reducible first | exact HB.out | apply below_alloc | apply pw_below_drewN | apply below_drew1) | exact HB.out))) : w.heap.size ≤ gb240)); clear HO_6; clear HO_18; clear HB; have HO_6 := n0_; have HO_18 := n1_; have HB := n2_; have BK240 := n3_; have GW240 := n4_; have GE240 := n5_; clear n0_ n1_ n2_ n3_ n4_ n5_; clear hb hbox hg; have hcz33_0 : w32.cell? ⟨gb240, 0, none⟩ = some (.int .i64 0) := (blk_cell BK240.out 0).trans rfl; have hcz33_1 : w32.cell? ⟨gb240, 1, none⟩ = some (.int .i64 0) := (blk_cell BK240.out 1).trans rfl; have hfz33_0 := blk_frozen BK240.out 0; have hfz33_1 := blk_frozen BK240.out 1; obtain ⟨Ao34, co34, eo34⟩ := Kd.R_slice HO_6.out; subst eo34))
                  have n0_ : Aside0 (Kd.R k23 23 ((w32.setCell ⟨gb240, 0, none⟩ (.int .i64 ((rd_T23 x18_1 x20_1).f0))).setCell ⟨gb240, 1, none⟩ (.int .i64 ((rd_T23 x18_1 x20_1).f1))) w.heap.size (fun k_ => some k_ ≠ (.slice (some ad239) x18_1.length co5 : Value).ownBlock ∧ k_ ≠ gb240) (.slice Ao34 x6_1.length co34) x6_1) := ⟨by (with_reducible repeat (first | apply Kd.R_alloc | apply Kd.R_drewN | apply Kd.R_drew)); exact Kd.R_mono (Kd.R_far (p := ⟨gb240, 1, none⟩) (Kd.R_far (p := ⟨gb240, 0, none⟩) (Kd.R_mono HO_6.out (fun k_ hk => (⟨hk, hk.2⟩ : _ ∧ k_ ≠ gb240))) (fun _ hk => hk.2) (.int .i64 ((rd_T23 x18_1 x20_1).f0))) (fun _ hk => hk.2) (.int .i64 ((rd_T23 x18_1 x20_1).f1))) (fun _ hk => ⟨hk.1.1, hk.1.2⟩)⟩
                  have n1_ : Aside0 (Kd.R k23 23 ((w32.setCell ⟨gb240, 0, none⟩ (.int .i64 ((rd_T23 x18_1 x20_1).f0))).setCell ⟨gb240, 1, none⟩ (.int .i64 ((rd_T23 x18_1 x20_1).f1))) w.heap.size (fun k_ => some k_ ≠ (.slice Ao34 x6_1.length co34 : Value).ownBlock ∧ k_ ≠ gb240) (.slice (some ad239) x18_1.length co5) x18_1) := ⟨by (with_reducible repeat (first | apply Kd.R_alloc | apply Kd.R_drewN | apply Kd.R_drew)); exact Kd.R_mono (Kd.R_far (p := ⟨gb240, 1, none⟩) (Kd.R_far (p := ⟨gb240, 0, none⟩) (Kd.R_mono HO_18.out (fun k_ hk => (⟨hk, hk.2⟩ : _ ∧ k_ ≠ gb240))) (fun _ hk => hk.2) (.int .i64 ((rd_T23 x18_1 x20_1).f0))) (fun _ hk => hk.2) (.int .i64 ((rd_T23 x18_1 x20_1).f1))) (fun _ hk => ⟨hk.1.1, hk.1.2⟩)⟩
                  have n2_ : Aside0 (((w32.setCell ⟨gb240, 0, none⟩ (.int .i64 ((rd_T23 x18_1 x20_1).f0))).setCell ⟨gb240, 1, none⟩ (.int .i64 ((rd_T23 x18_1 x20_1).f1))).heap[gb240]? = some (.cells #[.int .i64 ((rd_T23 x18_1 x20_1).f0), .int .i64 ((rd_T23 x18_1 x20_1).f1)] 23 (0, 0))) := ⟨by (with_reducible repeat (first | refine blk_drewN ?_ _ | refine blk_drew ?_ | refine blk_alloc ?_ _)); refine blk_put (cs := #[.int .i64 ((rd_T23 x18_1 x20_1).f0), .int .i64 0]) ?_ 1 _ rfl; (with_reducible repeat (first | refine blk_drewN ?_ _ | refine blk_drew ?_ | refine blk_alloc ?_ _)); refine blk_put (cs := #[.int .i64 0, .int .i64 0]) ?_ 0 _ rfl; (with_reducible repeat (first | refine blk_drewN ?_ _ | refine blk_drew ?_ | refine blk_alloc ?_ _)); exact BK240.out⟩
                  have n3_ : Aside0 (Below w.heap.size w ((w32.setCell ⟨gb240, 0, none⟩ (.int .i64 ((rd_T23 x18_1 x20_1).f0))).setCell ⟨gb240, 1, none⟩ (.int .i64 ((rd_T23 x18_1 x20_1).f1)))) := ⟨by repeat (first | (with_reducible first | exact HB.out | apply below_alloc | apply pw_below_drewN | apply below_drew1 | refine below_set ?_ GE240.out) | exact HB.out)⟩
                  (try clear HO_6)
                  (try clear HO_18)
                  (try clear BK240)
                  (try clear HB)
                  generalize ((w32.setCell ⟨gb240, 0, none⟩ (.int .i64 ((rd_T23 x18_1 x20_1).f0))).setCell ⟨gb240, 1, none⟩ (.int .i64 ((rd_T23 x18_1 x20_1).f1))) = w35 at n0_ n1_ n2_ n3_ ⊢
                  have HO_6 := n0_
                  have HO_18 := n1_
                  have BK240 := n2_
                  have HB := n3_
                  clear n0_ n1_ n2_ n3_
                  have n0_ := Aside0.mk (Kd.R_drew HO_6.out)
                  have n1_ := Aside0.mk (Kd.R_drew HO_18.out)
                  have n2_ := Aside0.mk (blk_drew BK240.out)
                  have n3_ := Aside0.mk (below_drew1 HB.out)
                  clear HO_6
                  clear HO_18
                  clear BK240
                  clear HB
                  have HO_6 := n0_
                  have HO_18 := n1_
                  have BK240 := n2_
                  have HB := n3_
                  clear n0_ n1_ n2_ n3_
                  refine start_ (n := 12) (S := fun w' => True) (ds := []) #[false, false, false, false, false, false, false, false, false, false, false, false] (by kernel_rfl) rfl rfl trivial (fun hHeld => ?_); refine with_tabW corporaref11_Cover.tab9 corporaref11_Cover.bits9 (fun HT_ HW_ => ?_)
                  generalize w35.drew = w36 at HO_6 HO_18 BK240 HB hHeld ⊢
                  refine pure_ (i := 0) (N := some 27) (v := ?_) (a' := ?_) #[true, false, false, false, false, false, false, false, false, false, false, false] rfl rfl (any_of HT_.out (by kernel_rfl)) (fun _ _ _ h => h) (Or.inl ⟨by rfl, ?_⟩) ?_ ?_
                  rotate_left
                  · intro w'
                    go_simp
                    with_reducible rfl
                  rotate_left
                  · simp only [Act.put, List.setIfInBounds_toArray, List.set_cons_zero, List.set_cons_succ, i64_w, i32_w]
                    rfl
                  refine pure_ (i := 1) (N := some 28) (v := ?_) (a' := ?_) #[true, true, false, false, false, false, false, false, false, false, false, false] rfl rfl (any_of HT_.out (by kernel_rfl)) (fun _ _ _ h => h) (Or.inl ⟨by rfl, ?_⟩) ?_ ?_
                  rotate_left
                  · intro w'
                    go_simp
                    with_reducible rfl
                  rotate_left
                  · simp only [Act.put, List.setIfInBounds_toArray, List.set_cons_zero, List.set_cons_succ, i64_w, i32_w]
                    rfl
                  refine pure_ (i := 2) (N := some 29) (v := ?_) (a' := ?_) #[true, true, true, false, false, false, false, false, false, false, false, false] rfl rfl (any_of HT_.out (by kernel_rfl)) (fun _ _ _ h => h) (Or.inl ⟨by rfl, ?_⟩) ?_ ?_
                  rotate_left
                  · intro w'
                    go_simp
                    with_reducible rfl
                  rotate_left
                  · simp only [Act.put, List.setIfInBounds_toArray, List.set_cons_zero, List.set_cons_succ, i64_w, i32_w]
                    rfl
                  refine pure_ (i := 3) (N := some 30) (v := undef) (a' := ?_) #[true, true, true, true, false, false, false, false, false, false, false, false] rfl rfl (any_of HT_.out (by kernel_rfl)) (fun _ _ _ h => h) (Or.inr ⟨by rfl, rfl⟩) ?_ ?_
                  rotate_left
                  · simp only [Act.put, List.setIfInBounds_toArray, List.set_cons_zero, List.set_cons_succ, i64_w, i32_w]
                    rfl
                  refine pure_ (i := 4) (N := some 31) (v := undef) (a' := ?_) #[true, true, true, true, true, false, false, false, false, false, false, false] rfl rfl (any_of HT_.out (by kernel_rfl)) (fun _ _ _ h => h) (Or.inr ⟨by rfl, rfl⟩) ?_ ?_
                  rotate_left
                  · simp only [Act.put, List.setIfInBounds_toArray, List.set_cons_zero, List.set_cons_succ, i64_w, i32_w]
                    rfl
                  refine pure_ (i := 5) (N := some 32) (v := undef) (a' := ?_) #[true, true, true, true, true, true, false, false, false, false, false, false] rfl rfl (any_of HT_.out (by kernel_rfl)) (fun _ _ _ h => h) (Or.inr ⟨by rfl, rfl⟩) ?_ ?_
                  rotate_left
                  · simp only [Act.put, List.setIfInBounds_toArray, List.set_cons_zero, List.set_cons_succ, i64_w, i32_w]
                    rfl
                  refine pure_ (i := 6) (N := some 33) (v := undef) (a' := ?_) #[true, true, true, true, true, true, true, false, false, false, false, false] rfl rfl (any_of HT_.out (by kernel_rfl)) (fun _ _ _ h => h) (Or.inr ⟨by rfl, rfl⟩) ?_ ?_
                  rotate_left
                  · simp only [Act.put, List.setIfInBounds_toArray, List.set_cons_zero, List.set_cons_succ, i64_w, i32_w]
                    rfl
                  refine pure_ (i := 7) (N := some 34) (v := undef) (a' := ?_) #[true, true, true, true, true, true, true, true, false, false, false, false] rfl rfl (any_of HT_.out (by kernel_rfl)) (fun _ _ _ h => h) (Or.inr ⟨by rfl, rfl⟩) ?_ ?_
                  rotate_left
                  · simp only [Act.put, List.setIfInBounds_toArray, List.set_cons_zero, List.set_cons_succ, i64_w, i32_w]
                    rfl
                  refine pure_ (i := 8) (N := some 35) (v := undef) (a' := ?_) #[true, true, true, true, true, true, true, true, true, false, false, false] rfl rfl (any_of HT_.out (by kernel_rfl)) (fun _ _ _ h => h) (Or.inr ⟨by rfl, rfl⟩) ?_ ?_
                  rotate_left
                  · simp only [Act.put, List.setIfInBounds_toArray, List.set_cons_zero, List.set_cons_succ, i64_w, i32_w]
                    rfl
                  refine pure_ (i := 9) (N := some 36) (v := undef) (a' := ?_) #[true, true, true, true, true, true, true, true, true, true, false, false] rfl rfl (any_of HT_.out (by kernel_rfl)) (fun _ _ _ h => h) (Or.inr ⟨by rfl, rfl⟩) ?_ ?_
                  rotate_left
                  · simp only [Act.put, List.setIfInBounds_toArray, List.set_cons_zero, List.set_cons_succ, i64_w, i32_w]
                    rfl
                  refine pure_ (i := 10) (N := some 37) (v := undef) (a' := ?_) #[true, true, true, true, true, true, true, true, true, true, true, false] rfl rfl (any_of HT_.out (by kernel_rfl)) (fun _ _ _ h => h) (Or.inr ⟨by rfl, rfl⟩) ?_ ?_
                  rotate_left
                  · simp only [Act.put, List.setIfInBounds_toArray, List.set_cons_zero, List.set_cons_succ, i64_w, i32_w]
                    rfl
                  refine pure_ (i := 11) (N := some 38) (v := ?_) (a' := ?_) #[true, true, true, true, true, true, true, true, true, true, true, true] rfl rfl (any_of HT_.out (by kernel_rfl)) (fun _ _ _ h => h) (Or.inl ⟨by rfl, ?_⟩) ?_ ?_
                  rotate_left
                  · intro w'
                    go_simp
                    with_reducible rfl
                  rotate_left
                  · simp only [Act.put, List.setIfInBounds_toArray, List.set_cons_zero, List.set_cons_succ, i64_w, i32_w]
                    rfl
                  refine done_ (done_of HT_.out (by kernel_rfl)) ?_
                  have hcz37_0 : w36.cell? ⟨gb240, 0, none⟩ = some (.int .i64 ((rd_T23 x18_1 x20_1).f0)) := (blk_cell BK240.out 0).trans rfl
                  have hcz37_1 : w36.cell? ⟨gb240, 1, none⟩ = some (.int .i64 ((rd_T23 x18_1 x20_1).f1)) := (blk_cell BK240.out 1).trans rfl
                  have hfz37_0 := blk_frozen BK240.out 0
                  have hfz37_1 := blk_frozen BK240.out 1
                  try go_wp2_with (first | ((with_reducible refine gate_builtin (b := .append) (xs := #[.tmp 51, .tmp 53]) rfl ?_); at_builtin; refine Kd.R_append k23 (w0 := w) w.heap.size rfl (.tmp 51) (.tmp 53) 28 23 (.agg #[(.int .i64 0), (.int .i64 0)]) 16 rfl Try.underlying28 info23 rfl (by decide) (by omega) (.slice Ao34 x6_1.length co34) x6_1 (⟨(rd_T23 x18_1 x20_1).f0, (rd_T23 x18_1 x20_1).f1⟩ : S23) [.int .i64 ((rd_T23 x18_1 x20_1).f0), .int .i64 ((rd_T23 x18_1 x20_1).f1)] (fun k_ => some k_ ≠ (.slice (some ad239) x18_1.length co5 : Value).ownBlock ∧ k_ ≠ gb240) (fun _ => False) rfl rfl ?aP (fun _ hk => hk.elim) ?aF ?aO ?aB ?aS ?aL ?_; (case aP => exact k23_mkM _ _ _ (⟨(rd_T23 x18_1 x20_1).f0, (rd_T23 x18_1 x20_1).f1⟩ : S23)); (case aB => exact (by repeat (first | (with_reducible first | exact HB.out | apply below_alloc | apply pw_below_drewN | apply below_drew1 | refine below_set ?_ GE240.out) | exact HB.out))); (case aF => exact (fun k_ hk => ⟨Kd.fresh' (Kd.R_lt (by (with_reducible repeat (first | apply Kd.R_alloc | apply Kd.R_drewN | apply Kd.R_drew)); exact HO_18.out)) k_ hk, Kd.freshB (g := gb240) (o := .cells #[.int .i64 ((rd_T23 x18_1 x20_1).f0), .int .i64 ((rd_T23 x18_1 x20_1).f1)] 23 (0, 0)) (by (with_reducible repeat (first | refine blk_drewN ?_ _ | refine blk_drew ?_ | refine blk_alloc ?_ _)); exact BK240.out) k_ hk⟩)); (case aO => exact (by (with_reducible repeat (first | apply Kd.R_alloc | apply Kd.R_drewN | apply Kd.R_drew)); exact HO_6.out)); (case aS => exact (below_size (by repeat (first | (with_reducible first | exact HB.out | apply below_alloc | apply pw_below_drewN | apply below_drew1 | refine below_set ?_ GE240.out) | exact HB.out)))); (case aL => have := LMc31.out; omega); intro v248 w38 ho hb hg hat; rw [← Ny247.out] at ho; have n0_ := Aside0.mk (Kd.R_after (ok := (fun k_ => k_ ≠ gb240)) (by (with_reducible repeat (first | apply Kd.R_alloc | apply Kd.R_drewN | apply Kd.R_drew)); exact Kd.R_mono HO_18.out (fun _ hk => ⟨hk.2, hk.1⟩)) hg hat); have n1_ := Aside0.mk (blk_grown (g := gb240) (o := .cells #[.int .i64 ((rd_T23 x18_1 x20_1).f0), .int .i64 ((rd_T23 x18_1 x20_1).f1)] 23 (0, 0)) (by (with_reducible repeat (first | refine blk_drewN ?_ _ | refine blk_drew ?_ | refine blk_alloc ?_ _)); exact BK240.out) hg (Kd.R_away HO_6.out (fun _ hk => hk.2))); have n2_ := Aside0.mk (hb); have n3_ := Aside0.mk (ho); clear HO_18; clear BK240; clear HB; clear HO_6; have HO_18 := n0_; have BK240 := n1_; have HB := n2_; have HO249 := n3_; clear n0_ n1_ n2_ n3_; clear ho hb hg hat))
                  (try simp only [← hl18_1])
                  go_roundg k1
                  case measure => have := HK1.out; omega
                  case rel => exact ⟨(y247), (x18_1), (wrap64 (x20_1 + 1)), (by first | rfl | (simp; done) | (simp [*]; done)), H', ⟨by have := HK1.out; omega⟩, ⟨by (try simp only [hl18_1]); (with_reducible repeat (first | apply Kd.R_alloc | apply Kd.R_drewN | apply Kd.R_drew)); exact Kd.R_mono HO249.out (fun _ hk => hk.1)⟩, ⟨by (try simp only [hl18_1]); (with_reducible repeat (first | apply Kd.R_alloc | apply Kd.R_drewN | apply Kd.R_drew)); exact Kd.R_mono HO_18.out (fun _ hk => hk.2)⟩, ⟨by repeat (first | (with_reducible first | exact HB.out | apply below_alloc | apply pw_below_drewN | apply below_drew1 | refine below_set ?_ GE240.out) | exact HB.out)⟩⟩
                · rw [if_neg c31] at H
                  exact absurd H (by simp)
            · rw [if_neg c8] at H
              exact absurd H (by simp)
          · rw [if_neg c7] at H
            exact absurd H (by simp)
        · rw [if_neg c6] at H
          have c6b0 : decide (x20_1 < (t235.length : Int)) = false := decide_eq_false c6
          clear c6
          try simp only [hl18_1] at c6b0
          simp only [Option.some.injEq, Prod.mk.injEq] at H
          obtain ⟨rfl, rfl⟩ := H
          go_wp2
          go_ret2
          exact ⟨_, by first | rfl | (simp [errW_none, errW_some] <;> rfl) | (simp [*, errW_none, errW_some] <;> rfl), by (with_reducible repeat (first | apply Kd.R_alloc | apply Kd.R_drewN | apply Kd.R_drew)); exact Kd.R_mono HO_6.out (fun _ hk => trivial), by repeat (first | (with_reducible first | exact HB.out | apply below_alloc | apply pw_below_drewN | apply below_drew1) | exact HB.out)⟩
  · rw [if_neg c3] at H
    have c3b0 : (t236 == 0) = false := beq_eq_false_iff_ne.mpr c3
    have c3b1 : (t236 != 0) = true := bne_iff_ne.mpr c3
    simp only [Option.some.injEq, Prod.mk.injEq] at H
    obtain ⟨rfl, rfl⟩ := H
    go_enter Try.func18, Try.ntmps18
    go_wp2_with (first | ((with_reducible refine gate_callee (f := 16) rfl ?_); refine goesL_ (some 12) rfl rfl Try.func16 (by kernel_rfl) rfl #[.slice A0 l0.length c0] rfl (by (try simp only [List.map_toArray, List.map_cons, List.map_nil]); first | done | rfl | (simp only [List.length_drop, List.length_take]; rfl)) ?_; (with_reducible refine (corporaref11_Normalize.calls k _ _ l0 t235 t236 _ ?side1 ?side2 A2.out).mono ?_); (case side1 => repeat (first | exact HR0.out | (with_reducible refine Kd.C_alloc ?_ _) | (with_reducible refine Kd.C_drewN ?_ _) | (with_reducible refine Kd.C_drew ?_))); (case side2 => exact HC0.out); rintro e w39 ⟨v237, rfl, ho0, hb⟩; refine ⟨_, rfl, ?_⟩; have n0_ := Aside0.mk (Kd.R_lower ho0 (below_size (by repeat (first | (with_reducible first | exact HB.out | apply below_alloc | apply pw_below_drewN | apply below_drew1) | exact HB.out)))); have n1_ := Aside0.mk (below_step (by repeat (first | (with_reducible first | exact HB.out | apply below_alloc | apply pw_below_drewN | apply below_drew1) | exact HB.out)) hb); clear HB; have HO238 := n0_; have HB := n1_; clear n0_ n1_; (try clear hb); (try clear hb2); (try clear hk); (try clear hi); (try clear ho0)))
    go_ret2
    exact ⟨_, by first | rfl | (simp [errW_none, errW_some] <;> rfl) | (simp [*, errW_none, errW_some] <;> rfl), by first | exact Kd.R_nil _ _ _ _ _ | exact Kd.N_nil _ _ _ _ _ | exact Kd.V_nil _ _ _ _ _ | exact Kd.Q_nil _ _ _ _ _ | exact Kd.S_nil _ _ _ _ _, by repeat (first | (with_reducible first | exact HB.out | apply below_alloc | apply pw_below_drewN | apply below_drew1) | exact HB.out)⟩

end Go.Proofs.Ytbecgpjdeophmaa.Q
