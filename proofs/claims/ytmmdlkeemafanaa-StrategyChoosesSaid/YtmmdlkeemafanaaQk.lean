import Derived.Test.YtmmdlkeemafanaaQx0
import Derived.Test.YtmmdlkeemafanaaQx1
namespace Go.Proofs.Ytmmdlkeemafanaa.Q
open Go.RowKit Go.Proofs.YtmmdlkeemafanaaW.PrintWords Go.Proofs.YtmmdlkeemafanaaW.PrintLast Go.Proofs.YtmmdlkeemafanaaW.PrintMore
attribute [local go_sem] max2_int min2_int max_two min_two max_three min_three max_four min_four   -- for this text's walks alone
set_option linter.unusedVariables false
set_option linter.unusedSimpArgs false

attribute [local go_sem high] eqA40

/-! ### corporaref27_Insert: function 35 -/
def corporaref27_Insert.tail (x0 : List S40) (x5 x169000 x169001 : Int) : Option (List S40) := if x5 > 0 then (if 0 ≤ (wrap64 (x5 - 1)) then (if (wrap64 (x5 - 1)) < (x0.length : Int) then (if (((rd_T40 x0 (wrap64 (x5 - 1))).f0) == x169000 && (((rd_T40 x0 (wrap64 (x5 - 1))).f1) == x169001)) = true then (some x0) else ((some (([] : List (S40)) : List (S40))).bind fun y220 => (if 0 ≤ x5 then (if x5 ≤ (x0.length : Int) then ((some (x0.take (x5 : Int).toNat : List (S40))).bind fun y223 => (if y220.length + y223.length < 8796093022208 then ((some (y220 ++ y223 : List (S40))).bind fun y227 => ((some (([(⟨x169000, x169001⟩ : S40)] : List (S40)) : List (S40))).bind fun y230 => (if y227.length + y230.length < 8796093022208 then ((some (y227 ++ y230 : List (S40))).bind fun y233 => ((some (x0.drop (x5 : Int).toNat : List (S40))).bind fun y236 => (if y233.length + y236.length < 8796093022208 then (some (y233 ++ y236)) else (none)))) else (none)))) else (none))) else (none)) else (none)))) else none) else none) else ((some (([] : List (S40)) : List (S40))).bind fun y220 => (if 0 ≤ x5 then (if x5 ≤ (x0.length : Int) then ((some (x0.take (x5 : Int).toNat : List (S40))).bind fun y223 => (if y220.length + y223.length < 8796093022208 then ((some (y220 ++ y223 : List (S40))).bind fun y227 => ((some (([(⟨x169000, x169001⟩ : S40)] : List (S40)) : List (S40))).bind fun y230 => (if y227.length + y230.length < 8796093022208 then ((some (y227 ++ y230 : List (S40))).bind fun y233 => ((some (x0.drop (x5 : Int).toNat : List (S40))).bind fun y236 => (if y233.length + y236.length < 8796093022208 then (some (y233 ++ y236)) else (none)))) else (none)))) else (none))) else (none)) else (none)))
def corporaref27_Insert.l0 : Nat → List (S40) → Int → Int → Int → Option ((List (S40)))
  | 0, _, _, _, _ => none
  | k + 1, x0, x5, x169000, x169001 => if x5 > 0 then (if 0 ≤ (wrap64 (x5 - 1)) then (if (wrap64 (x5 - 1)) < (x0.length : Int) then (if x169000 < ((rd_T40 x0 (wrap64 (x5 - 1))).f0) then (corporaref27_Insert.l0 k x0 (wrap64 (x5 - 1)) x169000 x169001) else (if x169000 = ((rd_T40 x0 (wrap64 (x5 - 1))).f0) then (if x169001 < ((rd_T40 x0 (wrap64 (x5 - 1))).f1) then (corporaref27_Insert.l0 k x0 (wrap64 (x5 - 1)) x169000 x169001) else (if (((rd_T40 x0 (wrap64 (x5 - 1))).f0) == x169000 && (((rd_T40 x0 (wrap64 (x5 - 1))).f1) == x169001)) = true then (some x0) else ((some (([] : List (S40)) : List (S40))).bind fun y173 => (if 0 ≤ x5 then (if x5 ≤ (x0.length : Int) then ((some (x0.take (x5 : Int).toNat : List (S40))).bind fun y176 => (if y173.length + y176.length < 8796093022208 then ((some (y173 ++ y176 : List (S40))).bind fun y180 => ((some (([(⟨x169000, x169001⟩ : S40)] : List (S40)) : List (S40))).bind fun y183 => (if y180.length + y183.length < 8796093022208 then ((some (y180 ++ y183 : List (S40))).bind fun y186 => ((some (x0.drop (x5 : Int).toNat : List (S40))).bind fun y189 => (if y186.length + y189.length < 8796093022208 then (some (y186 ++ y189)) else (none)))) else (none)))) else (none))) else (none)) else (none))))) else (if (((rd_T40 x0 (wrap64 (x5 - 1))).f0) == x169000 && (((rd_T40 x0 (wrap64 (x5 - 1))).f1) == x169001)) = true then (some x0) else ((some (([] : List (S40)) : List (S40))).bind fun y197 => (if 0 ≤ x5 then (if x5 ≤ (x0.length : Int) then ((some (x0.take (x5 : Int).toNat : List (S40))).bind fun y200 => (if y197.length + y200.length < 8796093022208 then ((some (y197 ++ y200 : List (S40))).bind fun y204 => ((some (([(⟨x169000, x169001⟩ : S40)] : List (S40)) : List (S40))).bind fun y207 => (if y204.length + y207.length < 8796093022208 then ((some (y204 ++ y207 : List (S40))).bind fun y210 => ((some (x0.drop (x5 : Int).toNat : List (S40))).bind fun y213 => (if y210.length + y213.length < 8796093022208 then (some (y210 ++ y213)) else (none)))) else (none)))) else (none))) else (none)) else (none)))))) else (none)) else (none)) else ((some (([] : List (S40)) : List (S40))).bind fun y220 => (if 0 ≤ x5 then (if x5 ≤ (x0.length : Int) then ((some (x0.take (x5 : Int).toNat : List (S40))).bind fun y223 => (if y220.length + y223.length < 8796093022208 then ((some (y220 ++ y223 : List (S40))).bind fun y227 => ((some (([(⟨x169000, x169001⟩ : S40)] : List (S40)) : List (S40))).bind fun y230 => (if y227.length + y230.length < 8796093022208 then ((some (y227 ++ y230 : List (S40))).bind fun y233 => ((some (x0.drop (x5 : Int).toNat : List (S40))).bind fun y236 => (if y233.length + y236.length < 8796093022208 then (some (y233 ++ y236)) else (none)))) else (none)))) else (none))) else (none)) else (none)))
def corporaref27_Insert.f (k : Nat) (l0 : List (S40)) (a1_0 : Int) (a1_1 : Int) : Option ((List (S40))) := corporaref27_Insert.l0 k l0 (l0.length : Int) a1_0 a1_1
theorem corporaref27_Insert.mono_l : ∀ k, (∀ y0 y1 y2 y3, LeO (corporaref27_Insert.l0 k y0 y1 y2 y3) (corporaref27_Insert.l0 (k + 1) y0 y1 y2 y3))
  | 0 => fun _ _ _ _ r h => by simp [corporaref27_Insert.l0] at h
  | k + 1 => by
    have ih0 := corporaref27_Insert.mono_l k
    intro y0 y1 y2 y3
    unfold corporaref27_Insert.l0
    repeat' first
    | (with_reducible exact ih0 _ _ _ _)
    | (with_reducible exact LeO.refl _)
    | (with_reducible exact LeO.none _)
    | (with_reducible refine LeO.ite ?_ ?_)
    | (with_reducible refine LeO.bind ?_ (fun _ => ?_))
    | exact ih0 _ _ _ _
    | exact LeO.none _
    | refine LeO.ite ?_ ?_
    | refine LeO.bind ?_ (fun _ => ?_)
theorem corporaref27_Insert.mono : ∀ a0 a1 a2 k, LeO (corporaref27_Insert.f k a0 a1 a2) (corporaref27_Insert.f (k + 1) a0 a1 a2) := by
  intro a0 a1 a2 k
  have ih0 := corporaref27_Insert.mono_l k
  unfold corporaref27_Insert.f
  repeat' first
      | (with_reducible exact ih0 _ _ _ _)
      | (with_reducible exact LeO.refl _)
      | (with_reducible exact LeO.none _)
      | (with_reducible refine LeO.ite ?_ ?_)
      | (with_reducible refine LeO.bind ?_ (fun _ => ?_))
      | exact ih0 _ _ _ _
      | exact LeO.none _
      | refine LeO.ite ?_ ?_
      | refine LeO.bind ?_ (fun _ => ?_)
def corporaref27_Insert.T2 : Bool × List (List Nat × List Nat) := (true, [([], []), ([0], [0]), ([1], [1]), ([2], [2]), ([3, 2], [2, 3]), ([2], [2]), ([2], [2]), ([6, 2], [2, 6]), ([5, 7, 2], [2, 5, 7]), ([8, 2], [2, 8]), ([9, 2], [2, 9]), ([4, 10, 2], [2, 4, 10]), ([11, 2, 2], [2, 11]), ([12], [12]), ([13, 12], [12, 13]), ([12], [12]), ([12], [12]), ([16, 12], [12, 16]), ([15, 17, 12], [12, 15, 17]), ([18, 12], [12, 18]), ([19, 12], [12, 19]), ([14, 20, 12], [12, 14, 20]), ([21, 12, 12], [12, 21]), ([22], [22]), ([23, 22], [22, 23]), ([22], [22]), ([22], [22]), ([26, 22], [22, 26]), ([25, 27, 22], [22, 25, 27]), ([28, 22], [22, 28]), ([29, 22], [22, 29]), ([24, 30, 22], [22, 24, 30]), ([22, 31, 12], [12, 22, 31]), ([12, 32, 2], [2, 12, 32]), ([2, 33], [2, 33])])
def corporaref27_Insert.B2 : List Nat := [0, 1, 3, 7, 15, 7, 7, 71, 231, 487, 999, 2047, 4095, 8191, 16383, 8191, 8191, 73727, 237567, 499711, 1023999, 2097151, 4194303, 8388607, 16777215, 8388607, 8388607, 75497471, 243269631, 511705087, 1048575999, 2147483647, 4294967295, 8589934591, 17179869183]
theorem corporaref27_Insert.tab2 : rtab .any (opsOf Try.f35 2) = corporaref27_Insert.T2 := by kernel_rfl
theorem corporaref27_Insert.bits2 : waitsOk corporaref27_Insert.T2.2 corporaref27_Insert.B2 = true := by kernel_rfl
def corporaref27_Insert.T4 : Bool × List (List Nat × List Nat) := (true, [([], []), ([0], [0]), ([1], [1]), ([2], [2]), ([2], [2]), ([4, 2], [2, 4]), ([3, 5, 2], [2, 3, 5]), ([6, 2], [2, 6]), ([2], [2]), ([7, 8, 2], [2, 7, 8]), ([2, 9], [2, 9])])
def corporaref27_Insert.B4 : List Nat := [0, 1, 3, 7, 7, 23, 63, 127, 7, 511, 1023]
theorem corporaref27_Insert.tab4 : rtab .any (opsOf Try.f35 4) = corporaref27_Insert.T4 := by kernel_rfl
theorem corporaref27_Insert.bits4 : waitsOk corporaref27_Insert.T4.2 corporaref27_Insert.B4 = true := by kernel_rfl
def corporaref27_Insert.T6 : Bool × List (List Nat × List Nat) := (true, [([], []), ([], []), ([], []), ([1, 2], [1, 2]), ([0, 3], [0, 3]), ([], []), ([5], [5]), ([4, 6, 4], [4, 6]), ([], []), ([], []), ([8, 9], [8, 9]), ([7, 10, 7], [7, 10]), ([11, 11, 0, 1, 2, 3, 4, 5, 6, 7, 8, 9, 10, 11], [11])])
def corporaref27_Insert.B6 : List Nat := [0, 0, 0, 6, 15, 0, 32, 127, 0, 0, 768, 2047, 4095]
theorem corporaref27_Insert.tab6 : rtab .any (opsOf Try.f35 6) = corporaref27_Insert.T6 := by kernel_rfl
theorem corporaref27_Insert.bits6 : waitsOk corporaref27_Insert.T6.2 corporaref27_Insert.B6 = true := by kernel_rfl
set_option maxHeartbeats 8000000 in
set_option maxRecDepth 100000 in
theorem corporaref27_Insert.callsC (k : Nat) (A0 : Option Addr) (c0 : Nat) (l0 : List (S40)) (a1_0 : Int) (a1_1 : Int) (r : List (S40)) (w : World) (hr0 : Kd.C k40 w A0 l0.length l0) (hc0 : l0.length ≤ c0) (h : corporaref27_Insert.f k l0 a1_0 a1_1 = some r) :
    Calls Try.prog 35 #[.slice A0 l0.length c0, .agg #[.int .i64 a1_0, .int .i64 a1_1]] w fun e w' => ∃ v0_ : Value, e = .returned (v0_) ∧ ((v0_ = .slice A0 l0.length c0 ∧ r = l0) ∨ Kd.R k40 40 w' w.heap.size (fun _ => True) v0_ r) ∧ Below w.heap.size w w' := by
  have hu40 := Try.underlying40
  have HR0 := Aside0.mk hr0
  have HC0 := Aside0.mk hc0
  clear hr0 hc0
  have HB := Aside0.mk (Below.refl w.heap.size w)
  have H : (corporaref27_Insert.l0 k l0 (l0.length : Int) a1_0 a1_1) = some r := h
  clear h
  have H' := Aside0.mk H
  clear H
  go_enter Try.func35, Try.ntmps35
  go_upto_block 0 with (first | ((with_reducible refine gate_dst (N := 3) rfl ?_); refine box_event ?hg (N := 3) ?hd (cs := #[.int .i64 a1_0, .int .i64 a1_1]) (t := 40) ?hr ?_; (case hd => rfl); (case hg => rfl); (case hr => first | (go_simp; done) | (go_simp; rfl)); intro gb168 hg w3 hbox hb; have n0_ := Aside0.mk (below_step (by repeat (first | (with_reducible first | exact HB.out | apply below_alloc | apply pw_below_drewN | apply below_drew1) | exact HB.out)) hb); have n1_ := Aside0.mk (hbox); have n2_ := Aside0.mk ((by rw [hg]; exact (below_size (by repeat (first | (with_reducible first | exact HB.out | apply below_alloc | apply pw_below_drewN | apply below_drew1) | exact HB.out))) : w.heap.size ≤ gb168)); have n3_ := Aside0.mk ((by rw [hg]; exact (below_size (by repeat (first | (with_reducible first | exact HB.out | apply below_alloc | apply pw_below_drewN | apply below_drew1) | exact HB.out))) : w.heap.size ≤ gb168)); clear HB; have HB := n0_; have BK168 := n1_; have GW168 := n2_; have GE168 := n3_; clear n0_ n1_ n2_ n3_; clear hb hbox hg))
  go_cut [5] (fun v5 wc => ∃ (x5_1 : Int), v5 = .int .i64 x5_1 ∧ Aside0 (corporaref27_Insert.tail l0 x5_1 a1_0 a1_1 = some r) ∧ Aside0 (wc.heap[gb168]? = some (.cells #[.int .i64 a1_0, .int .i64 a1_1] 40 (0, 0))) ∧ Aside0 (Below w.heap.size w wc))
  case first =>
    go_wp2_with fail
    go_loopg [5] k (fun kq v5 w' => ∃ (x5_1 : Int), v5 = .int .i64 x5_1 ∧ Aside0 (corporaref27_Insert.l0 kq l0 x5_1 a1_0 a1_1 = some r) ∧ Aside0 (kq ≤ k) ∧ Aside0 (w'.heap[gb168]? = some (.cells #[.int .i64 a1_0, .int .i64 a1_1] 40 (0, 0))) ∧ Aside0 (Below w.heap.size w w'))
    case atStart => exact ⟨((l0.length : Int)), (by first | rfl | (simp; done) | (simp [*]; done)), H', ⟨Nat.le_refl _⟩, ⟨by (with_reducible repeat (first | refine blk_drewN ?_ _ | refine blk_drew ?_ | refine blk_alloc ?_ _)); exact BK168.out⟩, ⟨by repeat (first | (with_reducible first | exact HB.out | apply below_alloc | apply pw_below_drewN | apply below_drew1 | refine below_set ?_ GE168.out) | exact HB.out)⟩⟩
    case round =>
      clear H'
      try clear p2
      try clear c3
      obtain ⟨x5_1, rfl, HA, HK1, BK168, HB⟩ := hrel
      cases gk with
      | zero => exact absurd HA.out (by simp [corporaref27_Insert.l0])
      | succ k1 =>
        have H := HA.out
        clear HA
        simp only [corporaref27_Insert.l0] at H
        by_cases c4 : x5_1 > 0
        ·rw [if_pos c4] at H
         have c4b0 : decide (0 < x5_1) = true := decide_eq_true c4
         clear c4
         obtain ⟨ji5, hji5⟩ : ∃ j_ : Int, (wrap64 (x5_1 - 1)) = j_ := ⟨_, rfl⟩
         replace H : (if 0 ≤ (ji5) then (if (ji5) < (l0.length : Int) then (if a1_0 < ((rd_T40 l0 (ji5)).f0) then (corporaref27_Insert.l0 k1 l0 ji5 a1_0 a1_1) else (if a1_0 = ((rd_T40 l0 (ji5)).f0) then (if a1_1 < ((rd_T40 l0 (ji5)).f1) then (corporaref27_Insert.l0 k1 l0 ji5 a1_0 a1_1) else (if (((rd_T40 l0 (ji5)).f0) == a1_0 && (((rd_T40 l0 (ji5)).f1) == a1_1)) = true then (some l0) else ((some (([] : List (S40)) : List (S40))).bind fun y173 => (if 0 ≤ x5_1 then (if x5_1 ≤ (l0.length : Int) then ((some (l0.take (x5_1 : Int).toNat : List (S40))).bind fun y176 => (if y173.length + y176.length < 8796093022208 then ((some (y173 ++ y176 : List (S40))).bind fun y180 => ((some (([(⟨a1_0, a1_1⟩ : S40)] : List (S40)) : List (S40))).bind fun y183 => (if y180.length + y183.length < 8796093022208 then ((some (y180 ++ y183 : List (S40))).bind fun y186 => ((some (l0.drop (x5_1 : Int).toNat : List (S40))).bind fun y189 => (if y186.length + y189.length < 8796093022208 then (some (y186 ++ y189)) else (none)))) else (none)))) else (none))) else (none)) else (none))))) else (if (((rd_T40 l0 (ji5)).f0) == a1_0 && (((rd_T40 l0 (ji5)).f1) == a1_1)) = true then (some l0) else ((some (([] : List (S40)) : List (S40))).bind fun y197 => (if 0 ≤ x5_1 then (if x5_1 ≤ (l0.length : Int) then ((some (l0.take (x5_1 : Int).toNat : List (S40))).bind fun y200 => (if y197.length + y200.length < 8796093022208 then ((some (y197 ++ y200 : List (S40))).bind fun y204 => ((some (([(⟨a1_0, a1_1⟩ : S40)] : List (S40)) : List (S40))).bind fun y207 => (if y204.length + y207.length < 8796093022208 then ((some (y204 ++ y207 : List (S40))).bind fun y210 => ((some (l0.drop (x5_1 : Int).toNat : List (S40))).bind fun y213 => (if y210.length + y213.length < 8796093022208 then (some (y210 ++ y213)) else (none)))) else (none)))) else (none))) else (none)) else (none)))))) else (none)) else (none)) = some r := by first | (rw [hji5] at H; exact H) | (simp only [hji5] at H ⊢; exact H)
         have hji5w : (IntKind.i64.wrap (x5_1 - 1)) = ji5 := (i64_w _).trans hji5
         by_cases c6 : 0 ≤ (ji5)
         ·rw [if_pos c6] at H
          have c6b0 : decide (0 ≤ (ji5)) = true := decide_eq_true c6
          clear c6
          by_cases c7 : (ji5) < (l0.length : Int)
          ·rw [if_pos c7] at H
           have c7b0 : decide ((ji5) < (l0.length : Int)) = true := decide_eq_true c7
           clear c7
           by_cases c8 : a1_0 < ((rd_T40 l0 (ji5)).f0)
           ·rw [if_pos c8] at H
            have c8b0 : decide (a1_0 < ((rd_T40 l0 (ji5)).f0)) = true := decide_eq_true c8
            clear c8
            have H' := Aside0.mk H
            clear H
            have hcz_0 : wr.cell? ⟨gb168, 0, none⟩ = some (.int .i64 a1_0) := (blk_cell BK168.out 0).trans rfl
            have hcz_1 : wr.cell? ⟨gb168, 1, none⟩ = some (.int .i64 a1_1) := (blk_cell BK168.out 1).trans rfl
            have hfz_0 := blk_frozen BK168.out 0
            have hfz_1 := blk_frozen BK168.out 1
            have p169 : 0 ≤ ((ji5) : Int) := of_decide_eq_true (by first | (with_reducible assumption) | assumption)
            have q169 : (ji5) < (l0.length : Int) := of_decide_eq_true (by first | (with_reducible assumption) | assumption)
            obtain ⟨ad169, e169, hx169_0, hx169_1⟩ := at_T40 HR0.out (ji5) p169 q169
            cases e169
            replace hx169_0 := (HB.out.cell (World.block_lt_of_cell? w _ hx169_0)).trans hx169_0
            replace hx169_1 := (HB.out.cell (World.block_lt_of_cell? w _ hx169_1)).trans hx169_1
            replace p169 := eq_true p169
            replace q169 := eq_true q169
            go_wp2
            repeat (go_quiet (fail); try go_wp2)
            go_roundg k1
            case measure => have := HK1.out; omega
            case rel => exact ⟨(ji5), (by first | rfl | (simp; done) | (simp only [← hji5] <;> (first | rfl | simp)) | (simp [*]; done)), H', ⟨by have := HK1.out; omega⟩, ⟨by (with_reducible repeat (first | refine blk_drewN ?_ _ | refine blk_drew ?_ | refine blk_alloc ?_ _)); exact BK168.out⟩, ⟨by repeat (first | (with_reducible first | exact HB.out | apply below_alloc | apply pw_below_drewN | apply below_drew1 | refine below_set ?_ GE168.out) | exact HB.out)⟩⟩
           rw [if_neg c8] at H
           have c8b0 : decide (a1_0 < ((rd_T40 l0 (ji5)).f0)) = false := decide_eq_false c8
           clear c8
           by_cases c10 : a1_0 = ((rd_T40 l0 (ji5)).f0)
           ·rw [if_pos c10] at H
            have c10b0 : (a1_0 == ((rd_T40 l0 (ji5)).f0)) = true := beq_iff_eq.mpr c10
            have c10b1 : (a1_0 != ((rd_T40 l0 (ji5)).f0)) = false := bne_eq_false_iff_eq.mpr c10
            clear c10
            by_cases c11 : a1_1 < ((rd_T40 l0 (ji5)).f1)
            ·rw [if_pos c11] at H
             have c11b0 : decide (a1_1 < ((rd_T40 l0 (ji5)).f1)) = true := decide_eq_true c11
             clear c11
             have H' := Aside0.mk H
             clear H
             have hcz_0 : wr.cell? ⟨gb168, 0, none⟩ = some (.int .i64 a1_0) := (blk_cell BK168.out 0).trans rfl
             have hcz_1 : wr.cell? ⟨gb168, 1, none⟩ = some (.int .i64 a1_1) := (blk_cell BK168.out 1).trans rfl
             have hfz_0 := blk_frozen BK168.out 0
             have hfz_1 := blk_frozen BK168.out 1
             have p169 : 0 ≤ ((ji5) : Int) := of_decide_eq_true (by first | (with_reducible assumption) | assumption)
             have q169 : (ji5) < (l0.length : Int) := of_decide_eq_true (by first | (with_reducible assumption) | assumption)
             obtain ⟨ad169, e169, hx169_0, hx169_1⟩ := at_T40 HR0.out (ji5) p169 q169
             cases e169
             replace hx169_0 := (HB.out.cell (World.block_lt_of_cell? w _ hx169_0)).trans hx169_0
             replace hx169_1 := (HB.out.cell (World.block_lt_of_cell? w _ hx169_1)).trans hx169_1
             replace p169 := eq_true p169
             replace q169 := eq_true q169
             have p170 : 0 ≤ ((ji5) : Int) := of_decide_eq_true (by first | (with_reducible assumption) | assumption)
             have q170 : (ji5) < (l0.length : Int) := of_decide_eq_true (by first | (with_reducible assumption) | assumption)
             obtain ⟨ad170, e170, hx170_0, hx170_1⟩ := at_T40 HR0.out (ji5) p170 q170
             obtain rfl : ad169 = ad170 := (by injection e170)
             replace hx170_0 := (HB.out.cell (World.block_lt_of_cell? w _ hx170_0)).trans hx170_0
             replace hx170_1 := (HB.out.cell (World.block_lt_of_cell? w _ hx170_1)).trans hx170_1
             replace p170 := eq_true p170
             replace q170 := eq_true q170
             have p171 : 0 ≤ ((ji5) : Int) := of_decide_eq_true (by first | (with_reducible assumption) | assumption)
             have q171 : (ji5) < (l0.length : Int) := of_decide_eq_true (by first | (with_reducible assumption) | assumption)
             obtain ⟨ad171, e171, hx171_0, hx171_1⟩ := at_T40 HR0.out (ji5) p171 q171
             obtain rfl : ad169 = ad171 := (by injection e171)
             replace hx171_0 := (HB.out.cell (World.block_lt_of_cell? w _ hx171_0)).trans hx171_0
             replace hx171_1 := (HB.out.cell (World.block_lt_of_cell? w _ hx171_1)).trans hx171_1
             replace p171 := eq_true p171
             replace q171 := eq_true q171
             go_wp2
             repeat (go_quiet (fail); try go_wp2)
             go_roundg k1
             case measure => have := HK1.out; omega
             case rel => exact ⟨(ji5), (by first | rfl | (simp; done) | (simp only [← hji5] <;> (first | rfl | simp)) | (simp [*]; done)), H', ⟨by have := HK1.out; omega⟩, ⟨by (with_reducible repeat (first | refine blk_drewN ?_ _ | refine blk_drew ?_ | refine blk_alloc ?_ _)); exact BK168.out⟩, ⟨by repeat (first | (with_reducible first | exact HB.out | apply below_alloc | apply pw_below_drewN | apply below_drew1 | refine below_set ?_ GE168.out) | exact HB.out)⟩⟩
            rw [if_neg c11] at H
            have c11b0 : decide (a1_1 < ((rd_T40 l0 (ji5)).f1)) = false := decide_eq_false c11
            clear c11
            have hcz_0 : wr.cell? ⟨gb168, 0, none⟩ = some (.int .i64 a1_0) := (blk_cell BK168.out 0).trans rfl
            have hcz_1 : wr.cell? ⟨gb168, 1, none⟩ = some (.int .i64 a1_1) := (blk_cell BK168.out 1).trans rfl
            have hfz_0 := blk_frozen BK168.out 0
            have hfz_1 := blk_frozen BK168.out 1
            have p169 : 0 ≤ ((ji5) : Int) := of_decide_eq_true (by first | (with_reducible assumption) | assumption)
            have q169 : (ji5) < (l0.length : Int) := of_decide_eq_true (by first | (with_reducible assumption) | assumption)
            obtain ⟨ad169, e169, hx169_0, hx169_1⟩ := at_T40 HR0.out (ji5) p169 q169
            cases e169
            replace hx169_0 := (HB.out.cell (World.block_lt_of_cell? w _ hx169_0)).trans hx169_0
            replace hx169_1 := (HB.out.cell (World.block_lt_of_cell? w _ hx169_1)).trans hx169_1
            replace p169 := eq_true p169
            replace q169 := eq_true q169
            have p170 : 0 ≤ ((ji5) : Int) := of_decide_eq_true (by first | (with_reducible assumption) | assumption)
            have q170 : (ji5) < (l0.length : Int) := of_decide_eq_true (by first | (with_reducible assumption) | assumption)
            obtain ⟨ad170, e170, hx170_0, hx170_1⟩ := at_T40 HR0.out (ji5) p170 q170
            obtain rfl : ad169 = ad170 := (by injection e170)
            replace hx170_0 := (HB.out.cell (World.block_lt_of_cell? w _ hx170_0)).trans hx170_0
            replace hx170_1 := (HB.out.cell (World.block_lt_of_cell? w _ hx170_1)).trans hx170_1
            replace p170 := eq_true p170
            replace q170 := eq_true q170
            have p171 : 0 ≤ ((ji5) : Int) := of_decide_eq_true (by first | (with_reducible assumption) | assumption)
            have q171 : (ji5) < (l0.length : Int) := of_decide_eq_true (by first | (with_reducible assumption) | assumption)
            obtain ⟨ad171, e171, hx171_0, hx171_1⟩ := at_T40 HR0.out (ji5) p171 q171
            obtain rfl : ad169 = ad171 := (by injection e171)
            replace hx171_0 := (HB.out.cell (World.block_lt_of_cell? w _ hx171_0)).trans hx171_0
            replace hx171_1 := (HB.out.cell (World.block_lt_of_cell? w _ hx171_1)).trans hx171_1
            replace p171 := eq_true p171
            replace q171 := eq_true q171
            go_wp2
            go_quiet (fail)
            go_wp2
            go_meet
            case rel => exact ⟨x5_1, (by first | rfl | (simp; done) | (simp [*]; done)), ⟨by unfold corporaref27_Insert.tail; rw [if_pos (of_decide_eq_true c4b0), hji5, if_pos (of_decide_eq_true c6b0), if_pos (of_decide_eq_true c7b0)]; exact H⟩, ⟨by (with_reducible repeat (first | refine blk_drewN ?_ _ | refine blk_drew ?_ | refine blk_alloc ?_ _)); exact BK168.out⟩, ⟨by repeat (first | (with_reducible first | exact HB.out | apply below_alloc | apply pw_below_drewN | apply below_drew1) | exact HB.out)⟩⟩
           rw [if_neg c10] at H
           have c10b0 : (a1_0 == ((rd_T40 l0 (ji5)).f0)) = false := beq_eq_false_iff_ne.mpr c10
           have c10b1 : (a1_0 != ((rd_T40 l0 (ji5)).f0)) = true := bne_iff_ne.mpr c10
           have hcz_0 : wr.cell? ⟨gb168, 0, none⟩ = some (.int .i64 a1_0) := (blk_cell BK168.out 0).trans rfl
           have hcz_1 : wr.cell? ⟨gb168, 1, none⟩ = some (.int .i64 a1_1) := (blk_cell BK168.out 1).trans rfl
           have hfz_0 := blk_frozen BK168.out 0
           have hfz_1 := blk_frozen BK168.out 1
           have p169 : 0 ≤ ((ji5) : Int) := of_decide_eq_true (by first | (with_reducible assumption) | assumption)
           have q169 : (ji5) < (l0.length : Int) := of_decide_eq_true (by first | (with_reducible assumption) | assumption)
           obtain ⟨ad169, e169, hx169_0, hx169_1⟩ := at_T40 HR0.out (ji5) p169 q169
           cases e169
           replace hx169_0 := (HB.out.cell (World.block_lt_of_cell? w _ hx169_0)).trans hx169_0
           replace hx169_1 := (HB.out.cell (World.block_lt_of_cell? w _ hx169_1)).trans hx169_1
           replace p169 := eq_true p169
           replace q169 := eq_true q169
           have p170 : 0 ≤ ((ji5) : Int) := of_decide_eq_true (by first | (with_reducible assumption) | assumption)
           have q170 : (ji5) < (l0.length : Int) := of_decide_eq_true (by first | (with_reducible assumption) | assumption)
           obtain ⟨ad170, e170, hx170_0, hx170_1⟩ := at_T40 HR0.out (ji5) p170 q170
           obtain rfl : ad169 = ad170 := (by injection e170)
           replace hx170_0 := (HB.out.cell (World.block_lt_of_cell? w _ hx170_0)).trans hx170_0
           replace hx170_1 := (HB.out.cell (World.block_lt_of_cell? w _ hx170_1)).trans hx170_1
           replace p170 := eq_true p170
           replace q170 := eq_true q170
           go_wp2
           go_quiet (fail)
           go_wp2
           go_meet
           case rel => exact ⟨x5_1, (by first | rfl | (simp; done) | (simp [*]; done)), ⟨by unfold corporaref27_Insert.tail; rw [if_pos (of_decide_eq_true c4b0), hji5, if_pos (of_decide_eq_true c6b0), if_pos (of_decide_eq_true c7b0)]; exact H⟩, ⟨by (with_reducible repeat (first | refine blk_drewN ?_ _ | refine blk_drew ?_ | refine blk_alloc ?_ _)); exact BK168.out⟩, ⟨by repeat (first | (with_reducible first | exact HB.out | apply below_alloc | apply pw_below_drewN | apply below_drew1) | exact HB.out)⟩⟩
          rw [if_neg c7] at H
          exact absurd H (by simp)
         rw [if_neg c6] at H
         exact absurd H (by simp)
        rw [if_neg c4] at H
        have c4b0 : decide (0 < x5_1) = false := decide_eq_false c4
        clear c4
        have hcz_0 : wr.cell? ⟨gb168, 0, none⟩ = some (.int .i64 a1_0) := (blk_cell BK168.out 0).trans rfl
        have hcz_1 : wr.cell? ⟨gb168, 1, none⟩ = some (.int .i64 a1_1) := (blk_cell BK168.out 1).trans rfl
        have hfz_0 := blk_frozen BK168.out 0
        have hfz_1 := blk_frozen BK168.out 1
        go_wp2
        go_quiet (fail)
        go_wp2
        go_meet
        case rel => exact ⟨x5_1, (by first | rfl | (simp; done) | (simp [*]; done)), ⟨by unfold corporaref27_Insert.tail; rw [if_neg (of_decide_eq_false c4b0)]; exact H⟩, ⟨by (with_reducible repeat (first | refine blk_drewN ?_ _ | refine blk_drew ?_ | refine blk_alloc ?_ _)); exact BK168.out⟩, ⟨by repeat (first | (with_reducible first | exact HB.out | apply below_alloc | apply pw_below_drewN | apply below_drew1) | exact HB.out)⟩⟩
  case rest =>
    obtain ⟨x5_1, rfl, HT, BK168, HB⟩ := hcut
    have H := HT.out
    clear HT
    unfold corporaref27_Insert.tail at H
    go_upto_region 4 with (fail)
    go_cut [55] (fun v55 wc => ∃ (y_ : Bool), v55 = .bool y_ ∧ Aside0 ((if y_ = true then some l0 else ((some (([] : List (S40)) : List (S40))).bind fun y220 => (if 0 ≤ x5_1 then (if x5_1 ≤ (l0.length : Int) then ((some (l0.take (x5_1 : Int).toNat : List (S40))).bind fun y223 => (if y220.length + y223.length < 8796093022208 then ((some (y220 ++ y223 : List (S40))).bind fun y227 => ((some (([(⟨a1_0, a1_1⟩ : S40)] : List (S40)) : List (S40))).bind fun y230 => (if y227.length + y230.length < 8796093022208 then ((some (y227 ++ y230 : List (S40))).bind fun y233 => ((some (l0.drop (x5_1 : Int).toNat : List (S40))).bind fun y236 => (if y233.length + y236.length < 8796093022208 then (some (y233 ++ y236)) else (none)))) else (none)))) else (none))) else (none)) else (none)))) = some r) ∧ Aside0 (wc.heap[gb168]? = some (.cells #[.int .i64 a1_0, .int .i64 a1_1] 40 (0, 0))) ∧ Aside0 (Below w.heap.size w wc))
    case first =>
      obtain ⟨wr, hwr⟩ : ∃ w_ : World, w_ = wc := ⟨_, rfl⟩
      subst hwr
      by_cases c4 : x5_1 > 0
      ·rw [if_pos c4] at H
       have c4b0 : decide (0 < x5_1) = true := decide_eq_true c4
       obtain ⟨ji5, hji5⟩ : ∃ j_ : Int, (wrap64 (x5_1 - 1)) = j_ := ⟨_, rfl⟩
       simp only [hji5] at H
       have hji5w : (IntKind.i64.wrap (x5_1 - 1)) = ji5 := (i64_w _).trans hji5
       by_cases c6 : 0 ≤ (ji5)
       ·rw [if_pos c6] at H
        have c6b0 : decide (0 ≤ (ji5)) = true := decide_eq_true c6
        by_cases c7 : (ji5) < (l0.length : Int)
        ·rw [if_pos c7] at H
         have c7b0 : decide ((ji5) < (l0.length : Int)) = true := decide_eq_true c7
         clear c4 c6 c7
         by_cases c13 : (((rd_T40 l0 (ji5)).f0) == a1_0 && (((rd_T40 l0 (ji5)).f1) == a1_1)) = true
         ·rw [if_pos c13] at H
          have c13b0 : (((rd_T40 l0 (ji5)).f0) == a1_0 && (((rd_T40 l0 (ji5)).f1) == a1_1)) = true := c13
          have hcz_0 : wr.cell? ⟨gb168, 0, none⟩ = some (.int .i64 a1_0) := (blk_cell BK168.out 0).trans rfl
          have hcz_1 : wr.cell? ⟨gb168, 1, none⟩ = some (.int .i64 a1_1) := (blk_cell BK168.out 1).trans rfl
          have hfz_0 := blk_frozen BK168.out 0
          have hfz_1 := blk_frozen BK168.out 1
          have p169 : 0 ≤ ((ji5) : Int) := of_decide_eq_true (by first | (with_reducible assumption) | assumption)
          have q169 : (ji5) < (l0.length : Int) := of_decide_eq_true (by first | (with_reducible assumption) | assumption)
          obtain ⟨ad169, e169, hx169_0, hx169_1⟩ := at_T40 HR0.out (ji5) p169 q169
          cases e169
          replace hx169_0 := (HB.out.cell (World.block_lt_of_cell? w _ hx169_0)).trans hx169_0
          replace hx169_1 := (HB.out.cell (World.block_lt_of_cell? w _ hx169_1)).trans hx169_1
          replace p169 := eq_true p169
          replace q169 := eq_true q169
          have p170 : 0 ≤ ((ji5) : Int) := of_decide_eq_true (by first | (with_reducible assumption) | assumption)
          have q170 : (ji5) < (l0.length : Int) := of_decide_eq_true (by first | (with_reducible assumption) | assumption)
          obtain ⟨ad170, e170, hx170_0, hx170_1⟩ := at_T40 HR0.out (ji5) p170 q170
          obtain rfl : ad169 = ad170 := (by injection e170)
          replace hx170_0 := (HB.out.cell (World.block_lt_of_cell? w _ hx170_0)).trans hx170_0
          replace hx170_1 := (HB.out.cell (World.block_lt_of_cell? w _ hx170_1)).trans hx170_1
          replace p170 := eq_true p170
          replace q170 := eq_true q170
          have p171 : 0 ≤ ((ji5) : Int) := of_decide_eq_true (by first | (with_reducible assumption) | assumption)
          have q171 : (ji5) < (l0.length : Int) := of_decide_eq_true (by first | (with_reducible assumption) | assumption)
          obtain ⟨ad171, e171, hx171_0, hx171_1⟩ := at_T40 HR0.out (ji5) p171 q171
          obtain rfl : ad169 = ad171 := (by injection e171)
          replace hx171_0 := (HB.out.cell (World.block_lt_of_cell? w _ hx171_0)).trans hx171_0
          replace hx171_1 := (HB.out.cell (World.block_lt_of_cell? w _ hx171_1)).trans hx171_1
          replace p171 := eq_true p171
          replace q171 := eq_true q171
          go_wp2
          go_quiet (fail)
          go_wp2
          go_meet
          case rel => exact ⟨true, (by first | rfl | (simp; done) | (simp [*]; done)), ⟨by rw [if_pos rfl]; exact H⟩, ⟨by (with_reducible repeat (first | refine blk_drewN ?_ _ | refine blk_drew ?_ | refine blk_alloc ?_ _)); exact BK168.out⟩, ⟨by repeat (first | (with_reducible first | exact HB.out | apply below_alloc | apply pw_below_drewN | apply below_drew1) | exact HB.out)⟩⟩
         rw [if_neg c13] at H
         have c13b0 : (((rd_T40 l0 (ji5)).f0) == a1_0 && (((rd_T40 l0 (ji5)).f1) == a1_1)) = false := by simpa using c13
         have hcz_0 : wr.cell? ⟨gb168, 0, none⟩ = some (.int .i64 a1_0) := (blk_cell BK168.out 0).trans rfl
         have hcz_1 : wr.cell? ⟨gb168, 1, none⟩ = some (.int .i64 a1_1) := (blk_cell BK168.out 1).trans rfl
         have hfz_0 := blk_frozen BK168.out 0
         have hfz_1 := blk_frozen BK168.out 1
         have p169 : 0 ≤ ((ji5) : Int) := of_decide_eq_true (by first | (with_reducible assumption) | assumption)
         have q169 : (ji5) < (l0.length : Int) := of_decide_eq_true (by first | (with_reducible assumption) | assumption)
         obtain ⟨ad169, e169, hx169_0, hx169_1⟩ := at_T40 HR0.out (ji5) p169 q169
         cases e169
         replace hx169_0 := (HB.out.cell (World.block_lt_of_cell? w _ hx169_0)).trans hx169_0
         replace hx169_1 := (HB.out.cell (World.block_lt_of_cell? w _ hx169_1)).trans hx169_1
         replace p169 := eq_true p169
         replace q169 := eq_true q169
         have p170 : 0 ≤ ((ji5) : Int) := of_decide_eq_true (by first | (with_reducible assumption) | assumption)
         have q170 : (ji5) < (l0.length : Int) := of_decide_eq_true (by first | (with_reducible assumption) | assumption)
         obtain ⟨ad170, e170, hx170_0, hx170_1⟩ := at_T40 HR0.out (ji5) p170 q170
         obtain rfl : ad169 = ad170 := (by injection e170)
         replace hx170_0 := (HB.out.cell (World.block_lt_of_cell? w _ hx170_0)).trans hx170_0
         replace hx170_1 := (HB.out.cell (World.block_lt_of_cell? w _ hx170_1)).trans hx170_1
         replace p170 := eq_true p170
         replace q170 := eq_true q170
         have p171 : 0 ≤ ((ji5) : Int) := of_decide_eq_true (by first | (with_reducible assumption) | assumption)
         have q171 : (ji5) < (l0.length : Int) := of_decide_eq_true (by first | (with_reducible assumption) | assumption)
         obtain ⟨ad171, e171, hx171_0, hx171_1⟩ := at_T40 HR0.out (ji5) p171 q171
         obtain rfl : ad169 = ad171 := (by injection e171)
         replace hx171_0 := (HB.out.cell (World.block_lt_of_cell? w _ hx171_0)).trans hx171_0
         replace hx171_1 := (HB.out.cell (World.block_lt_of_cell? w _ hx171_1)).trans hx171_1
         replace p171 := eq_true p171
         replace q171 := eq_true q171
         go_wp2
         go_quiet (fail)
         go_wp2
         go_meet
         case rel => exact ⟨false, (by first | rfl | (simp; done) | (simp [*]; done)), ⟨by rw [if_neg (by simp)]; exact H⟩, ⟨by (with_reducible repeat (first | refine blk_drewN ?_ _ | refine blk_drew ?_ | refine blk_alloc ?_ _)); exact BK168.out⟩, ⟨by repeat (first | (with_reducible first | exact HB.out | apply below_alloc | apply pw_below_drewN | apply below_drew1) | exact HB.out)⟩⟩
        rw [if_neg c7] at H
        exact absurd H (by simp)
       rw [if_neg c6] at H
       exact absurd H (by simp)
      rw [if_neg c4] at H
      have c4b0 : decide (0 < x5_1) = false := decide_eq_false c4
      clear c4
      have hcz_0 : wr.cell? ⟨gb168, 0, none⟩ = some (.int .i64 a1_0) := (blk_cell BK168.out 0).trans rfl
      have hcz_1 : wr.cell? ⟨gb168, 1, none⟩ = some (.int .i64 a1_1) := (blk_cell BK168.out 1).trans rfl
      have hfz_0 := blk_frozen BK168.out 0
      have hfz_1 := blk_frozen BK168.out 1
      go_wp2
      go_quiet (fail)
      go_wp2
      go_meet
      case rel => exact ⟨false, (by first | rfl | (simp; done) | (simp [*]; done)), ⟨by rw [if_neg (by simp)]; exact H⟩, ⟨by (with_reducible repeat (first | refine blk_drewN ?_ _ | refine blk_drew ?_ | refine blk_alloc ?_ _)); exact BK168.out⟩, ⟨by repeat (first | (with_reducible first | exact HB.out | apply below_alloc | apply pw_below_drewN | apply below_drew1) | exact HB.out)⟩⟩
    case rest =>
      clear H BK168 HB
      obtain ⟨y_, rfl, HT, BK168, HB⟩ := hcut
      have H := HT.out
      clear HT
      cases y_ with
      | true =>
        rw [if_pos rfl] at H
        obtain rfl := Option.some.inj H
        go_wp2
        go_ret
        exact ⟨_, rfl, .inl (by first | exact ⟨rfl, rfl⟩ | exact rfl | simp), by repeat (first | (with_reducible first | exact HB.out | apply below_alloc | apply pw_below_drewN | apply below_drew1) | exact HB.out)⟩
      | false =>
        rw [if_neg (by simp)] at H
        obtain ⟨y220, hy220⟩ : ∃ y_ : List (S40), y_ = (([] : List (S40))) := ⟨_, rfl⟩
        replace H : (if 0 ≤ x5_1 then (if x5_1 ≤ (l0.length : Int) then ((some (l0.take (x5_1 : Int).toNat : List (S40))).bind fun y223 => (if y220.length + y223.length < 8796093022208 then ((some (y220 ++ y223 : List (S40))).bind fun y227 => ((some (([(⟨a1_0, a1_1⟩ : S40)] : List (S40)) : List (S40))).bind fun y230 => (if y227.length + y230.length < 8796093022208 then ((some (y227 ++ y230 : List (S40))).bind fun y233 => ((some (l0.drop (x5_1 : Int).toNat : List (S40))).bind fun y236 => (if y233.length + y236.length < 8796093022208 then (some (y233 ++ y236)) else (none)))) else (none)))) else (none))) else (none)) else (none)) = some r := by first | (rw [hy220]; with_reducible exact H) | (have H2_ := (Option.bind_some _ _).symm.trans H; rw [hy220]; with_reducible exact H2_) | (have H2_ := (Option.bind_some _ _).symm.trans H; with_reducible exact H2_) | with_reducible exact H | (rw [hy220]; exact H) | exact H
        have Ny220 := Aside0.mk hy220
        clear hy220
        by_cases c61 : 0 ≤ x5_1
        ·rw [if_pos c61] at H
         have c61b0 := eq_true c61
         have c61b1 : decide (0 ≤ x5_1) = true := decide_eq_true c61
         clear c61
         by_cases c62 : x5_1 ≤ (l0.length : Int)
         ·rw [if_pos c62] at H
          have c62b0 := eq_true c62
          have c62b1 : decide (x5_1 ≤ (l0.length : Int)) = true := decide_eq_true c62
          clear c62
          obtain ⟨y223, hy223⟩ : ∃ y_ : List (S40), y_ = (l0.take (x5_1 : Int).toNat) := ⟨_, rfl⟩
          replace H : (if y220.length + y223.length < 8796093022208 then ((some (y220 ++ y223 : List (S40))).bind fun y227 => ((some (([(⟨a1_0, a1_1⟩ : S40)] : List (S40)) : List (S40))).bind fun y230 => (if y227.length + y230.length < 8796093022208 then ((some (y227 ++ y230 : List (S40))).bind fun y233 => ((some (l0.drop (x5_1 : Int).toNat : List (S40))).bind fun y236 => (if y233.length + y236.length < 8796093022208 then (some (y233 ++ y236)) else (none)))) else (none)))) else (none)) = some r := by first | (rw [hy223]; with_reducible exact H) | (have H2_ := (Option.bind_some _ _).symm.trans H; rw [hy223]; with_reducible exact H2_) | (have H2_ := (Option.bind_some _ _).symm.trans H; with_reducible exact H2_) | with_reducible exact H | (rw [hy223]; exact H) | exact H
          have Ny223 := Aside0.mk hy223
          clear hy223
          by_cases c63 : y220.length + y223.length < 8796093022208
          ·rw [if_pos c63] at H
           have LMc63 := Aside0.mk c63
           clear c63
           obtain ⟨y227, hy227⟩ : ∃ y_ : List (S40), y_ = (y220 ++ y223) := ⟨_, rfl⟩
           replace H : ((some (([(⟨a1_0, a1_1⟩ : S40)] : List (S40)) : List (S40))).bind fun y230 => (if y227.length + y230.length < 8796093022208 then ((some (y227 ++ y230 : List (S40))).bind fun y233 => ((some (l0.drop (x5_1 : Int).toNat : List (S40))).bind fun y236 => (if y233.length + y236.length < 8796093022208 then (some (y233 ++ y236)) else (none)))) else (none))) = some r := by first | (rw [hy227]; with_reducible exact H) | (have H2_ := (Option.bind_some _ _).symm.trans H; rw [hy227]; with_reducible exact H2_) | (have H2_ := (Option.bind_some _ _).symm.trans H; with_reducible exact H2_) | with_reducible exact H | (rw [hy227]; exact H) | exact H
           have Ny227 := Aside0.mk hy227
           clear hy227
           obtain ⟨y230, hy230⟩ : ∃ y_ : List (S40), y_ = (([(⟨a1_0, a1_1⟩ : S40)] : List (S40))) := ⟨_, rfl⟩
           replace H : (if y227.length + y230.length < 8796093022208 then ((some (y227 ++ y230 : List (S40))).bind fun y233 => ((some (l0.drop (x5_1 : Int).toNat : List (S40))).bind fun y236 => (if y233.length + y236.length < 8796093022208 then (some (y233 ++ y236)) else (none)))) else (none)) = some r := by first | (rw [hy230]; with_reducible exact H) | (have H2_ := (Option.bind_some _ _).symm.trans H; rw [hy230]; with_reducible exact H2_) | (have H2_ := (Option.bind_some _ _).symm.trans H; with_reducible exact H2_) | with_reducible exact H | (rw [hy230]; exact H) | exact H
           have Ny230 := Aside0.mk hy230
           clear hy230
           by_cases c64 : y227.length + y230.length < 8796093022208
           ·rw [if_pos c64] at H
            have LMc64 := Aside0.mk c64
            clear c64
            obtain ⟨y233, hy233⟩ : ∃ y_ : List (S40), y_ = (y227 ++ y230) := ⟨_, rfl⟩
            replace H : ((some (l0.drop (x5_1 : Int).toNat : List (S40))).bind fun y236 => (if y233.length + y236.length < 8796093022208 then (some (y233 ++ y236)) else (none))) = some r := by first | (rw [hy233]; with_reducible exact H) | (have H2_ := (Option.bind_some _ _).symm.trans H; rw [hy233]; with_reducible exact H2_) | (have H2_ := (Option.bind_some _ _).symm.trans H; with_reducible exact H2_) | with_reducible exact H | (rw [hy233]; exact H) | exact H
            have Ny233 := Aside0.mk hy233
            clear hy233
            have c65b0 := eq_true (of_decide_eq_true (by first | (with_reducible assumption) | assumption) : 0 ≤ x5_1)
            have c66b0 := eq_true (of_decide_eq_true (by first | (with_reducible assumption) | assumption) : x5_1 ≤ (l0.length : Int))
            obtain ⟨y236, hy236⟩ : ∃ y_ : List (S40), y_ = (l0.drop (x5_1 : Int).toNat) := ⟨_, rfl⟩
            replace H : (if y233.length + y236.length < 8796093022208 then (some (y233 ++ y236)) else (none)) = some r := by first | (rw [hy236]; with_reducible exact H) | (have H2_ := (Option.bind_some _ _).symm.trans H; rw [hy236]; with_reducible exact H2_) | (have H2_ := (Option.bind_some _ _).symm.trans H; with_reducible exact H2_) | with_reducible exact H | (rw [hy236]; exact H) | exact H
            have Ny236 := Aside0.mk hy236
            clear hy236
            by_cases c67 : y233.length + y236.length < 8796093022208
            ·rw [if_pos c67] at H
             have LMc67 := Aside0.mk c67
             clear c67
             obtain ⟨y240, hy240⟩ : ∃ y_ : List (S40), y_ = (y233 ++ y236) := ⟨_, rfl⟩
             replace H : (some y240) = some r := by first | (rw [hy240]; with_reducible exact H) | (have H2_ := (Option.bind_some _ _).symm.trans H; rw [hy240]; with_reducible exact H2_) | (have H2_ := (Option.bind_some _ _).symm.trans H; with_reducible exact H2_) | with_reducible exact H | (rw [hy240]; exact H) | exact H
             have Ny240 := Aside0.mk hy240
             clear hy240
             obtain rfl := Option.some.inj H
             go_wp2
             try go_wp2
             have n0_ := Aside0.mk (blk_drew BK168.out)
             have n1_ := Aside0.mk (below_drew1 HB.out)
             clear BK168
             clear HB
             have BK168 := n0_
             have HB := n1_
             clear n0_ n1_
             have q71 : (x5_1 : Int) ≤ ((l0.length : Int) : Int) := of_decide_eq_true (by first | (with_reducible assumption) | assumption)
             obtain ⟨i071, hi071, _, hsz71, _⟩ := info_parts info40
             have hroom71 : l0.length ≤ c0 := HC0.out
             have hC71 : Kd.C k40 _ A0 l0.length l0 := HR0.out
             have hcut71 := cut_to (P := Try.prog) 31 40 .i64 Try.underlying31 hi071 A0 l0.length c0 x5_1 (of_decide_eq_true (by first | (with_reducible assumption) | assumption)) q71 hroom71
             have hr71 := Kd.C_take (m := (x5_1 : Int).toNat) hC71 (by omega)
             have hy71 : y223.length = (x5_1 : Int).toNat := (by rw [Ny223.out, List.length_take]; omega)
             rw [← Ny223.out] at hr71
             rw [← hy71] at hcut71
             have HR226 := Aside0.mk hr71
             have HC226 := Aside0.mk (show y223.length ≤ c0 from by omega)
             clear hr71 hC71 hroom71 hi071 hsz71
             have KY71 := Aside0.mk hy71
             clear hy71
             replace q71 := eq_true q71
             have q72 : (x5_1 : Int) ≤ ((l0.length : Int) : Int) := of_decide_eq_true (by first | (with_reducible assumption) | assumption)
             obtain ⟨i072, hi072, _, hsz72, _⟩ := info_parts info40
             have hroom72 : l0.length ≤ c0 := HC0.out
             have hC72 : Kd.C k40 _ A0 l0.length l0 := HR0.out
             have q072 : (0 : Int) ≤ (x5_1 : Int) := of_decide_eq_true (by first | (with_reducible assumption) | assumption)
             have hcut72 := cut_from (P := Try.prog) 31 40 .i64 Try.underlying31 hi072 2 hsz72 A0 l0.length c0 x5_1 q072 q72
             have hr72 := Kd.C_drop (m := (x5_1 : Int).toNat) (c := c0) hC72 (by omega) hroom72
             obtain ⟨A72, hA72⟩ : ∃ A1, A1 = (if c0 = (x5_1 : Int).toNat then A0 else (A0 : Option Addr).map (·.add ((x5_1 : Int).toNat * 2))) := ⟨_, rfl⟩
             obtain ⟨c72, hc72⟩ : ∃ c1, c1 = c0 - (x5_1 : Int).toNat := ⟨_, rfl⟩
             have hy72 : y236.length = l0.length - (x5_1 : Int).toNat := (by rw [Ny236.out, List.length_drop] <;> omega)
             rw [show (l0).drop (x5_1 : Int).toNat = y236 from Ny236.out.symm] at hr72
             replace hr72 : Kd.C k40 _ A72 y236.length y236 := (by rw [hA72]; exact hr72)
             rw [← hy72, ← hA72, ← hc72] at hcut72
             have HR239 := Aside0.mk hr72
             have HC239 := Aside0.mk (show y236.length ≤ c72 from by rw [hy72, hc72]; exact Nat.sub_le_sub_right hroom72 _)
             clear hr72 hC72 hroom72 hi072 hsz72 hc72
             have KY72 := Aside0.mk hy72
             have KA72 := Aside0.mk hA72
             clear hy72 hA72
             replace q72 := eq_true q72
             refine start_ (n := 13) (S := fun w' => w'.cell? ⟨gb168, 0, none⟩ = some (.int .i64 a1_0) ∧ w'.cell? ⟨gb168, 1, none⟩ = some (.int .i64 a1_1)) (ds := []) #[false, false, false, false, false, false, false, false, false, false, false, false, false] (by kernel_rfl) rfl rfl ⟨(blk_cell BK168.out 0).trans rfl, (blk_cell BK168.out 1).trans rfl⟩ (fun hHeld => ?_); refine with_tabW corporaref27_Insert.tab6 corporaref27_Insert.bits6 (fun HT_ HW_ => ?_)
             generalize wc.drew = w70 at BK168 HB HR226 HR239 hHeld ⊢
             refine pure_ (i := 1) (N := some 58) (v := ?_) (a' := ?_) #[false, true, false, false, false, false, false, false, false, false, false, false, false] rfl rfl (any_of HT_.out (by kernel_rfl)) (fun _ _ _ h => h) (Or.inl ⟨by rfl, ?_⟩) ?_ ?_
             rotate_left
             ·intro w'
              go_simp
              with_reducible rfl
             rotate_left
             ·simp only [Act.put, List.setIfInBounds_toArray, List.set_cons_zero, List.set_cons_succ, i64_w, i32_w]
              rfl
             refine pure_ (i := 2) (N := some 59) (v := ?_) (a' := ?_) #[false, true, true, false, false, false, false, false, false, false, false, false, false] rfl rfl (any_of HT_.out (by kernel_rfl)) (fun _ _ _ h => h) (Or.inl ⟨by rfl, ?_⟩) ?_ ?_
             rotate_left
             ·intro w'
              go_simp
              with_reducible rfl
             rotate_left
             ·simp only [Act.put, List.setIfInBounds_toArray, List.set_cons_zero, List.set_cons_succ, i64_w, i32_w]
              rfl
             refine pure_ (i := 3) (N := some 60) (v := ?_) (a' := ?_) #[false, true, true, true, false, false, false, false, false, false, false, false, false] rfl rfl (any_of HT_.out (by kernel_rfl)) (fun _ _ _ h => h) (Or.inl ⟨by rfl, ?_⟩) ?_ ?_
             rotate_left
             ·intro w'
              go_simp
              with_reducible rfl
             rotate_left
             ·simp only [Act.put, List.setIfInBounds_toArray, List.set_cons_zero, List.set_cons_succ, i64_w, i32_w]
              rfl
             refine pure_ (i := 8) (N := some 65) (v := ?_) (a' := ?_) #[false, true, true, true, false, false, false, false, true, false, false, false, false] rfl rfl (any_of HT_.out (by kernel_rfl)) (fun _ _ _ h => h) (Or.inl ⟨by rfl, ?_⟩) ?_ ?_
             rotate_left
             ·intro w'
              go_simp
              with_reducible rfl
             rotate_left
             ·simp only [Act.put, List.setIfInBounds_toArray, List.set_cons_zero, List.set_cons_succ, i64_w, i32_w]
              rfl
             refine pure_ (i := 9) (N := some 66) (v := ?_) (a' := ?_) #[false, true, true, true, false, false, false, false, true, true, false, false, false] rfl rfl (any_of HT_.out (by kernel_rfl)) (fun _ _ _ h => h) (Or.inl ⟨by rfl, ?_⟩) ?_ ?_
             rotate_left
             ·intro w'
              go_simp
              with_reducible rfl
             rotate_left
             ·simp only [Act.put, List.setIfInBounds_toArray, List.set_cons_zero, List.set_cons_succ, i64_w, i32_w]
              rfl
             refine pure_ (i := 10) (N := some 67) (v := ?_) (a' := ?_) #[false, true, true, true, false, false, false, false, true, true, true, false, false] rfl rfl (any_of HT_.out (by kernel_rfl)) (fun _ _ _ h => h) (Or.inl ⟨by rfl, ?_⟩) ?_ ?_
             rotate_left
             ·intro w'
              go_simp
              with_reducible rfl
             rotate_left
             ·simp only [Act.put, List.setIfInBounds_toArray, List.set_cons_zero, List.set_cons_succ, i64_w, i32_w]
              rfl
             refine take_ (i := 5) (N := some 62) (v := ?_) (a' := ?_) #[false, true, true, true, false, true, false, false, true, true, true, false, false] rfl rfl (take_ofW HT_.out HW_.out (by kernel_rfl)) (fun _ _ _ h => h) (Or.inl ⟨by rfl, ?_⟩) hHeld ?_ ?_
             rotate_left
             ·rintro w' ⟨s0, s1⟩
              go_simp
              with_reducible rfl
             rotate_left
             ·simp only [Act.put, List.setIfInBounds_toArray, List.set_cons_zero, List.set_cons_succ, i64_w, i32_w]
              rfl
             refine join_ (σ := Value × Value × Value) 3 #[true, true, true, true, true, true, true, false, true, true, true, false, false] (fun s_ => [(57, s_.1), (61, s_.2.1), (63, s_.2.2)]) (fun s_ w' => (w'.cell? ⟨gb168, 0, none⟩ = some (.int .i64 a1_0) ∧ w'.cell? ⟨gb168, 1, none⟩ = some (.int .i64 a1_1)) ∧ (Kd.R k40 40 w' w.heap.size (fun k_ => some k_ ≠ (s_.2.2 : Value).ownBlock ∧ k_ ≠ gb168) s_.2.1 y227) ∧ (Kd.R k40 40 w' w.heap.size (fun k_ => some k_ ≠ (s_.2.1 : Value).ownBlock ∧ k_ ≠ gb168) s_.2.2 y230) ∧ (w'.heap[gb168]? = some (.cells #[.int .i64 a1_0, .int .i64 a1_1] 40 (0, 0))) ∧ (Below w.heap.size w w')) ?_ ?_
             rotate_left
             ·intro hCont
              refine two_ (i := 0) (j := 6) (Ni := some 57) (Nj := some 63) #[true, true, true, true, false, true, false, false, true, true, true, false, false] #[false, true, true, true, false, true, true, false, true, true, true, false, false] rfl rfl rfl rfl (two_of HT_.out (by kernel_rfl)) (by decide) (by decide) (fun K hK => ?_) (fun K hK => ?_)
              ·skip
               refine Kd.R_lit_step k40 _ 40 ?hg (N := 57) ?hd (xs := ([] : List (S40))) (inner := []) (ok := fun _ => True) (okp := fun _ => True) ?hr ?hp (fun _ hk => hk) trivial (Below.refl _ _) (Nat.le_refl _) (by simp) ?_; (case hd => rfl); (case hg => rfl); (case hr => first | (go_simp; done) | (go_simp; rfl)); (case hp => exact (Reps.none _ _))
               intro v221 w73 ho74 hb hg_ hnew_
               clear hg_ hnew_
               (first | rw [← Ny220.out] at ho74 | (simp only [Int.reduceToNat] at ho74; rw [← Ny220.out] at ho74))
               have n0_ := Aside0.mk (Kd.R_lower (Kd.R_newB ho74 (g := gb168) (o := .cells #[.int .i64 a1_0, .int .i64 a1_1] 40 (0, 0)) (by (with_reducible repeat (first | refine blk_drewN ?_ _ | refine blk_drew ?_ | refine blk_alloc ?_ _)); exact BK168.out)) (below_size (by repeat (first | (with_reducible first | exact HB.out | apply below_alloc | apply pw_below_drewN | apply below_drew1 | refine below_set ?_ GE168.out) | exact HB.out))))
               have n1_ := Aside0.mk (blk_below (g := gb168) (o := .cells #[.int .i64 a1_0, .int .i64 a1_1] 40 (0, 0)) (by (with_reducible repeat (first | refine blk_drewN ?_ _ | refine blk_drew ?_ | refine blk_alloc ?_ _)); exact BK168.out) hb)
               have n2_ := Aside0.mk (below_step (by repeat (first | (with_reducible first | exact HB.out | apply below_alloc | apply pw_below_drewN | apply below_drew1 | refine below_set ?_ GE168.out) | exact HB.out)) hb)
               clear BK168
               clear HB
               have HO222 := n0_
               have BK168 := n1_
               have HB := n2_
               clear n0_ n1_ n2_
               clear hb ho74
               refine hK.out _ _ ⟨(blk_cell BK168.out 0).trans rfl, (blk_cell BK168.out 1).trans rfl⟩ (fun hHeld => ?_)
               clear hK K
               refine norm_ (a' := ?_) ?_ ?_
               rotate_left
               ·show Act.put _ (some 57) _ = _
                simp only [Act.put, List.setIfInBounds_toArray, List.set_cons_zero, List.set_cons_succ, i64_w, i32_w]
                rfl
               refine two_ (i := 4) (j := 6) (Ni := some 61) (Nj := some 63) #[true, true, true, true, true, true, false, false, true, true, true, false, false] #[true, true, true, true, false, true, true, false, true, true, true, false, false] rfl rfl rfl rfl (two_of HT_.out (by kernel_rfl)) (by decide) (by decide) (fun K hK => ?_) (fun K hK => ?_)
               ·skip
                refine Kd.R_append_rows_step k40 (w0 := w) w.heap.size (by rfl) (.tmp 57) (.tmp 60) 31 40 (.agg #[(.int .i64 0), (.int .i64 0)]) 16 rfl Try.underlying31 info40 rfl (by decide) (by omega) v221 y220 y223 _ _ _ (fun k_ => k_ ≠ gb168) (fun _ => False) rfl rfl ?aO ?aR (fun _ _ h => h) (fun _ h => h.elim) ?aF ?aB ?aS ?aL ?_
                (case aR => repeat (first | exact (Kd.C_below HR226.out HB.out) | (with_reducible refine Kd.C_alloc ?_ _) | (with_reducible refine Kd.C_drewN ?_ _) | (with_reducible refine Kd.C_drew ?_)))
                (case aB => exact (by repeat (first | (with_reducible first | exact HB.out | apply below_alloc | apply pw_below_drewN | apply below_drew1 | refine below_set ?_ GE168.out) | exact HB.out)))
                (case aF => exact (fun k_ hk => Kd.freshB (g := gb168) (o := .cells #[.int .i64 a1_0, .int .i64 a1_1] 40 (0, 0)) (by (with_reducible repeat (first | refine blk_drewN ?_ _ | refine blk_drew ?_ | refine blk_alloc ?_ _)); exact BK168.out) k_ hk))
                (case aO => exact (by (with_reducible repeat (first | apply Kd.R_alloc | apply Kd.R_drewN | apply Kd.R_drew)); exact Kd.R_mono HO222.out (fun _ hk => hk.2)))
                (case aS => exact (below_size (by repeat (first | (with_reducible first | exact HB.out | apply below_alloc | apply pw_below_drewN | apply below_drew1 | refine below_set ?_ GE168.out) | exact HB.out))))
                (case aL => have := LMc63.out; omega)
                intro v228 w75 ho hb hg hat
                rw [← Ny227.out] at ho
                have n0_ := Aside0.mk (blk_grown (g := gb168) (o := .cells #[.int .i64 a1_0, .int .i64 a1_1] 40 (0, 0)) (by (with_reducible repeat (first | refine blk_drewN ?_ _ | refine blk_drew ?_ | refine blk_alloc ?_ _)); exact BK168.out) hg (Kd.R_away HO222.out (fun _ hk => hk.2)))
                have n1_ := Aside0.mk (hb)
                have n2_ := Aside0.mk (ho)
                clear BK168
                clear HB
                clear HO222
                have BK168 := n0_
                have HB := n1_
                have HO229 := n2_
                clear n0_ n1_ n2_
                clear ho hb hg hat
                refine hK.out _ _ ⟨(blk_cell BK168.out 0).trans rfl, (blk_cell BK168.out 1).trans rfl⟩ (fun hHeld => ?_)
                clear hK K
                refine norm_ (a' := ?_) ?_ ?_
                rotate_left
                ·show Act.put _ (some 61) _ = _
                 simp only [Act.put, List.setIfInBounds_toArray, List.set_cons_zero, List.set_cons_succ, i64_w, i32_w]
                 rfl
                refine one_ (i := 6) (N := some 63) #[true, true, true, true, true, true, true, false, true, true, true, false, false] rfl rfl (one_of HT_.out (by kernel_rfl)) (by decide) (fun K hK => ?_)
                refine Kd.R_lit_step k40 _ 40 ?hg (N := 63) ?hd (xs := ([(⟨a1_0, a1_1⟩ : S40)] : List (S40))) (inner := [.int .i64 a1_0, .int .i64 a1_1]) (ok := fun _ => True) (okp := fun _ => True) ?hr ?hp (fun _ hk => hk) trivial (Below.refl _ _) (Nat.le_refl _) (by simp) ?_; (case hd => rfl); (case hg => rfl); (case hr => first | (go_simp; done) | (go_simp; rfl)); (case hp => exact (Reps.c2 (show Kd.M k40 _ _ _ (⟨a1_0, a1_1⟩ : S40) [.int .i64 a1_0, .int .i64 a1_1] from (k40_mkM _ _ _ (⟨a1_0, a1_1⟩ : S40) )) (Reps.none _ _)))
                intro v231 w76 ho77 hb hg_ hnew_
                clear hg_ hnew_
                (first | rw [← Ny230.out] at ho77 | (simp only [Int.reduceToNat] at ho77; rw [← Ny230.out] at ho77))
                have n0_ := Aside0.mk (Kd.R_elder' (by (with_reducible repeat (first | apply Kd.R_alloc | apply Kd.R_drewN | apply Kd.R_drew)); exact HO229.out) (Kd.R_base ho77) hb)
                have n1_ := Aside0.mk (Kd.R_lower (Kd.R_newB (Kd.R_new' ho77 (Kd.R_lt (by (with_reducible repeat (first | apply Kd.R_alloc | apply Kd.R_drewN | apply Kd.R_drew)); exact HO229.out))) (g := gb168) (o := .cells #[.int .i64 a1_0, .int .i64 a1_1] 40 (0, 0)) (by (with_reducible repeat (first | refine blk_drewN ?_ _ | refine blk_drew ?_ | refine blk_alloc ?_ _)); exact BK168.out)) (below_size (by repeat (first | (with_reducible first | exact HB.out | apply below_alloc | apply pw_below_drewN | apply below_drew1 | refine below_set ?_ GE168.out) | exact HB.out))))
                have n2_ := Aside0.mk (blk_below (g := gb168) (o := .cells #[.int .i64 a1_0, .int .i64 a1_1] 40 (0, 0)) (by (with_reducible repeat (first | refine blk_drewN ?_ _ | refine blk_drew ?_ | refine blk_alloc ?_ _)); exact BK168.out) hb)
                have n3_ := Aside0.mk (below_step (by repeat (first | (with_reducible first | exact HB.out | apply below_alloc | apply pw_below_drewN | apply below_drew1 | refine below_set ?_ GE168.out) | exact HB.out)) hb)
                clear HO229
                clear BK168
                clear HB
                have HO229 := n0_
                have HO232 := n1_
                have BK168 := n2_
                have HB := n3_
                clear n0_ n1_ n2_ n3_
                clear hb ho77
                refine hK.out _ _ ⟨(blk_cell BK168.out 0).trans rfl, (blk_cell BK168.out 1).trans rfl⟩ (fun hHeld => ?_)
                clear hK K
                refine norm_ (a' := ?_) ?_ ?_
                rotate_left
                ·show Act.put _ (some 63) _ = _
                 simp only [Act.put, List.setIfInBounds_toArray, List.set_cons_zero, List.set_cons_succ, i64_w, i32_w]
                 rfl
                exact norm_ (by simp only [putAll, Act.put, List.setIfInBounds_toArray, List.set_cons_zero, List.set_cons_succ]) (hCont (v221, v228, v231) _ ⟨hHeld, (by (with_reducible repeat (first | apply Kd.R_alloc | apply Kd.R_drewN | apply Kd.R_drew)); exact Kd.R_mono HO229.out (fun _ hk => ⟨hk.2, hk.1⟩)), (by (with_reducible repeat (first | apply Kd.R_alloc | apply Kd.R_drewN | apply Kd.R_drew)); exact Kd.R_mono HO232.out (fun _ hk => ⟨hk.1.2, hk.2⟩)), (by (with_reducible repeat (first | refine blk_drewN ?_ _ | refine blk_drew ?_ | refine blk_alloc ?_ _)); exact BK168.out), (by repeat (first | (with_reducible first | exact HB.out | apply below_alloc | apply pw_below_drewN | apply below_drew1 | refine below_set ?_ GE168.out) | exact HB.out))⟩)
               skip
               refine Kd.R_lit_step k40 _ 40 ?hg (N := 63) ?hd (xs := ([(⟨a1_0, a1_1⟩ : S40)] : List (S40))) (inner := [.int .i64 a1_0, .int .i64 a1_1]) (ok := fun _ => True) (okp := fun _ => True) ?hr ?hp (fun _ hk => hk) trivial (Below.refl _ _) (Nat.le_refl _) (by simp) ?_; (case hd => rfl); (case hg => rfl); (case hr => first | (go_simp; done) | (go_simp; rfl)); (case hp => exact (Reps.c2 (show Kd.M k40 _ _ _ (⟨a1_0, a1_1⟩ : S40) [.int .i64 a1_0, .int .i64 a1_1] from (k40_mkM _ _ _ (⟨a1_0, a1_1⟩ : S40) )) (Reps.none _ _)))
               intro v231 w75 ho76 hb hg_ hnew_
               clear hg_ hnew_
               (first | rw [← Ny230.out] at ho76 | (simp only [Int.reduceToNat] at ho76; rw [← Ny230.out] at ho76))
               have n0_ := Aside0.mk (Kd.R_elder' (by (with_reducible repeat (first | apply Kd.R_alloc | apply Kd.R_drewN | apply Kd.R_drew)); exact HO222.out) (Kd.R_base ho76) hb)
               have n1_ := Aside0.mk (Kd.R_lower (Kd.R_newB (Kd.R_new' ho76 (Kd.R_lt (by (with_reducible repeat (first | apply Kd.R_alloc | apply Kd.R_drewN | apply Kd.R_drew)); exact HO222.out))) (g := gb168) (o := .cells #[.int .i64 a1_0, .int .i64 a1_1] 40 (0, 0)) (by (with_reducible repeat (first | refine blk_drewN ?_ _ | refine blk_drew ?_ | refine blk_alloc ?_ _)); exact BK168.out)) (below_size (by repeat (first | (with_reducible first | exact HB.out | apply below_alloc | apply pw_below_drewN | apply below_drew1 | refine below_set ?_ GE168.out) | exact HB.out))))
               have n2_ := Aside0.mk (blk_below (g := gb168) (o := .cells #[.int .i64 a1_0, .int .i64 a1_1] 40 (0, 0)) (by (with_reducible repeat (first | refine blk_drewN ?_ _ | refine blk_drew ?_ | refine blk_alloc ?_ _)); exact BK168.out) hb)
               have n3_ := Aside0.mk (below_step (by repeat (first | (with_reducible first | exact HB.out | apply below_alloc | apply pw_below_drewN | apply below_drew1 | refine below_set ?_ GE168.out) | exact HB.out)) hb)
               clear HO222
               clear BK168
               clear HB
               have HO222 := n0_
               have HO232 := n1_
               have BK168 := n2_
               have HB := n3_
               clear n0_ n1_ n2_ n3_
               clear hb ho76
               refine hK.out _ _ ⟨(blk_cell BK168.out 0).trans rfl, (blk_cell BK168.out 1).trans rfl⟩ (fun hHeld => ?_)
               clear hK K
               refine norm_ (a' := ?_) ?_ ?_
               rotate_left
               ·show Act.put _ (some 63) _ = _
                simp only [Act.put, List.setIfInBounds_toArray, List.set_cons_zero, List.set_cons_succ, i64_w, i32_w]
                rfl
               refine one_ (i := 4) (N := some 61) #[true, true, true, true, true, true, true, false, true, true, true, false, false] rfl rfl (one_of HT_.out (by kernel_rfl)) (by decide) (fun K hK => ?_)
               refine Kd.R_append_rows_step k40 (w0 := w) w.heap.size (by rfl) (.tmp 57) (.tmp 60) 31 40 (.agg #[(.int .i64 0), (.int .i64 0)]) 16 rfl Try.underlying31 info40 rfl (by decide) (by omega) v221 y220 y223 _ _ _ (fun k_ => some k_ ≠ (v231 : Value).ownBlock ∧ k_ ≠ gb168) (fun _ => False) rfl rfl ?aO ?aR (fun _ _ h => h) (fun _ h => h.elim) ?aF ?aB ?aS ?aL ?_
               (case aR => repeat (first | exact (Kd.C_below HR226.out HB.out) | (with_reducible refine Kd.C_alloc ?_ _) | (with_reducible refine Kd.C_drewN ?_ _) | (with_reducible refine Kd.C_drew ?_)))
               (case aB => exact (by repeat (first | (with_reducible first | exact HB.out | apply below_alloc | apply pw_below_drewN | apply below_drew1 | refine below_set ?_ GE168.out) | exact HB.out)))
               (case aF => exact (fun k_ hk => ⟨Kd.fresh' (Kd.R_lt (by (with_reducible repeat (first | apply Kd.R_alloc | apply Kd.R_drewN | apply Kd.R_drew)); exact HO232.out)) k_ hk, Kd.freshB (g := gb168) (o := .cells #[.int .i64 a1_0, .int .i64 a1_1] 40 (0, 0)) (by (with_reducible repeat (first | refine blk_drewN ?_ _ | refine blk_drew ?_ | refine blk_alloc ?_ _)); exact BK168.out) k_ hk⟩))
               (case aO => exact (by (with_reducible repeat (first | apply Kd.R_alloc | apply Kd.R_drewN | apply Kd.R_drew)); exact Kd.R_mono HO222.out (fun _ hk => ⟨hk.2, hk.1.2⟩)))
               (case aS => exact (below_size (by repeat (first | (with_reducible first | exact HB.out | apply below_alloc | apply pw_below_drewN | apply below_drew1 | refine below_set ?_ GE168.out) | exact HB.out))))
               (case aL => have := LMc63.out; omega)
               intro v228 w77 ho hb hg hat
               rw [← Ny227.out] at ho
               have n0_ := Aside0.mk (blk_grown (g := gb168) (o := .cells #[.int .i64 a1_0, .int .i64 a1_1] 40 (0, 0)) (by (with_reducible repeat (first | refine blk_drewN ?_ _ | refine blk_drew ?_ | refine blk_alloc ?_ _)); exact BK168.out) hg (Kd.R_away HO222.out (fun _ hk => hk.1.2)))
               have n1_ := Aside0.mk (Kd.R_after (ok := (fun k_ => k_ ≠ gb168)) (by (with_reducible repeat (first | apply Kd.R_alloc | apply Kd.R_drewN | apply Kd.R_drew)); exact Kd.R_mono HO232.out (fun _ hk => ⟨hk.2, hk.1.2⟩)) hg hat)
               have n2_ := Aside0.mk (hb)
               have n3_ := Aside0.mk (ho)
               clear BK168
               clear HO232
               clear HB
               clear HO222
               have BK168 := n0_
               have HO232 := n1_
               have HB := n2_
               have HO229 := n3_
               clear n0_ n1_ n2_ n3_
               clear ho hb hg hat
               refine hK.out _ _ ⟨(blk_cell BK168.out 0).trans rfl, (blk_cell BK168.out 1).trans rfl⟩ (fun hHeld => ?_)
               clear hK K
               refine norm_ (a' := ?_) ?_ ?_
               rotate_left
               ·show Act.put _ (some 61) _ = _
                simp only [Act.put, List.setIfInBounds_toArray, List.set_cons_zero, List.set_cons_succ, i64_w, i32_w]
                rfl
               exact norm_ (by simp only [putAll, Act.put, List.setIfInBounds_toArray, List.set_cons_zero, List.set_cons_succ]) (hCont (v221, v228, v231) _ ⟨hHeld, (by (with_reducible repeat (first | apply Kd.R_alloc | apply Kd.R_drewN | apply Kd.R_drew)); exact HO229.out), (by (with_reducible repeat (first | apply Kd.R_alloc | apply Kd.R_drewN | apply Kd.R_drew)); exact Kd.R_mono HO232.out (fun _ hk => ⟨hk.2, hk.1⟩)), (by (with_reducible repeat (first | refine blk_drewN ?_ _ | refine blk_drew ?_ | refine blk_alloc ?_ _)); exact BK168.out), (by repeat (first | (with_reducible first | exact HB.out | apply below_alloc | apply pw_below_drewN | apply below_drew1 | refine below_set ?_ GE168.out) | exact HB.out))⟩)
              skip
              refine Kd.R_lit_step k40 _ 40 ?hg (N := 63) ?hd (xs := ([(⟨a1_0, a1_1⟩ : S40)] : List (S40))) (inner := [.int .i64 a1_0, .int .i64 a1_1]) (ok := fun _ => True) (okp := fun _ => True) ?hr ?hp (fun _ hk => hk) trivial (Below.refl _ _) (Nat.le_refl _) (by simp) ?_; (case hd => rfl); (case hg => rfl); (case hr => first | (go_simp; done) | (go_simp; rfl)); (case hp => exact (Reps.c2 (show Kd.M k40 _ _ _ (⟨a1_0, a1_1⟩ : S40) [.int .i64 a1_0, .int .i64 a1_1] from (k40_mkM _ _ _ (⟨a1_0, a1_1⟩ : S40) )) (Reps.none _ _)))
              intro v231 w73 ho74 hb hg_ hnew_
              clear hg_ hnew_
              (first | rw [← Ny230.out] at ho74 | (simp only [Int.reduceToNat] at ho74; rw [← Ny230.out] at ho74))
              have n0_ := Aside0.mk (Kd.R_lower (Kd.R_newB ho74 (g := gb168) (o := .cells #[.int .i64 a1_0, .int .i64 a1_1] 40 (0, 0)) (by (with_reducible repeat (first | refine blk_drewN ?_ _ | refine blk_drew ?_ | refine blk_alloc ?_ _)); exact BK168.out)) (below_size (by repeat (first | (with_reducible first | exact HB.out | apply below_alloc | apply pw_below_drewN | apply below_drew1 | refine below_set ?_ GE168.out) | exact HB.out))))
              have n1_ := Aside0.mk (blk_below (g := gb168) (o := .cells #[.int .i64 a1_0, .int .i64 a1_1] 40 (0, 0)) (by (with_reducible repeat (first | refine blk_drewN ?_ _ | refine blk_drew ?_ | refine blk_alloc ?_ _)); exact BK168.out) hb)
              have n2_ := Aside0.mk (below_step (by repeat (first | (with_reducible first | exact HB.out | apply below_alloc | apply pw_below_drewN | apply below_drew1 | refine below_set ?_ GE168.out) | exact HB.out)) hb)
              clear BK168
              clear HB
              have HO232 := n0_
              have BK168 := n1_
              have HB := n2_
              clear n0_ n1_ n2_
              clear hb ho74
              refine hK.out _ _ ⟨(blk_cell BK168.out 0).trans rfl, (blk_cell BK168.out 1).trans rfl⟩ (fun hHeld => ?_)
              clear hK K
              refine norm_ (a' := ?_) ?_ ?_
              rotate_left
              ·show Act.put _ (some 63) _ = _
               simp only [Act.put, List.setIfInBounds_toArray, List.set_cons_zero, List.set_cons_succ, i64_w, i32_w]
               rfl
              refine one_ (i := 0) (N := some 57) #[true, true, true, true, false, true, true, false, true, true, true, false, false] rfl rfl (one_of HT_.out (by kernel_rfl)) (by decide) (fun K hK => ?_)
              refine Kd.R_lit_step k40 _ 40 ?hg (N := 57) ?hd (xs := ([] : List (S40))) (inner := []) (ok := fun _ => True) (okp := fun _ => True) ?hr ?hp (fun _ hk => hk) trivial (Below.refl _ _) (Nat.le_refl _) (by simp) ?_; (case hd => rfl); (case hg => rfl); (case hr => first | (go_simp; done) | (go_simp; rfl)); (case hp => exact (Reps.none _ _))
              intro v221 w75 ho76 hb hg_ hnew_
              clear hg_ hnew_
              (first | rw [← Ny220.out] at ho76 | (simp only [Int.reduceToNat] at ho76; rw [← Ny220.out] at ho76))
              have n0_ := Aside0.mk (Kd.R_elder' (by (with_reducible repeat (first | apply Kd.R_alloc | apply Kd.R_drewN | apply Kd.R_drew)); exact HO232.out) (Kd.R_base ho76) hb)
              have n1_ := Aside0.mk (Kd.R_lower (Kd.R_newB (Kd.R_new' ho76 (Kd.R_lt (by (with_reducible repeat (first | apply Kd.R_alloc | apply Kd.R_drewN | apply Kd.R_drew)); exact HO232.out))) (g := gb168) (o := .cells #[.int .i64 a1_0, .int .i64 a1_1] 40 (0, 0)) (by (with_reducible repeat (first | refine blk_drewN ?_ _ | refine blk_drew ?_ | refine blk_alloc ?_ _)); exact BK168.out)) (below_size (by repeat (first | (with_reducible first | exact HB.out | apply below_alloc | apply pw_below_drewN | apply below_drew1 | refine below_set ?_ GE168.out) | exact HB.out))))
              have n2_ := Aside0.mk (blk_below (g := gb168) (o := .cells #[.int .i64 a1_0, .int .i64 a1_1] 40 (0, 0)) (by (with_reducible repeat (first | refine blk_drewN ?_ _ | refine blk_drew ?_ | refine blk_alloc ?_ _)); exact BK168.out) hb)
              have n3_ := Aside0.mk (below_step (by repeat (first | (with_reducible first | exact HB.out | apply below_alloc | apply pw_below_drewN | apply below_drew1 | refine below_set ?_ GE168.out) | exact HB.out)) hb)
              clear HO232
              clear BK168
              clear HB
              have HO232 := n0_
              have HO222 := n1_
              have BK168 := n2_
              have HB := n3_
              clear n0_ n1_ n2_ n3_
              clear hb ho76
              refine hK.out _ _ ⟨(blk_cell BK168.out 0).trans rfl, (blk_cell BK168.out 1).trans rfl⟩ (fun hHeld => ?_)
              clear hK K
              refine norm_ (a' := ?_) ?_ ?_
              rotate_left
              ·show Act.put _ (some 57) _ = _
               simp only [Act.put, List.setIfInBounds_toArray, List.set_cons_zero, List.set_cons_succ, i64_w, i32_w]
               rfl
              refine one_ (i := 4) (N := some 61) #[true, true, true, true, true, true, true, false, true, true, true, false, false] rfl rfl (one_of HT_.out (by kernel_rfl)) (by decide) (fun K hK => ?_)
              refine Kd.R_append_rows_step k40 (w0 := w) w.heap.size (by rfl) (.tmp 57) (.tmp 60) 31 40 (.agg #[(.int .i64 0), (.int .i64 0)]) 16 rfl Try.underlying31 info40 rfl (by decide) (by omega) v221 y220 y223 _ _ _ (fun k_ => some k_ ≠ (v231 : Value).ownBlock ∧ k_ ≠ gb168) (fun _ => False) rfl rfl ?aO ?aR (fun _ _ h => h) (fun _ h => h.elim) ?aF ?aB ?aS ?aL ?_
              (case aR => repeat (first | exact (Kd.C_below HR226.out HB.out) | (with_reducible refine Kd.C_alloc ?_ _) | (with_reducible refine Kd.C_drewN ?_ _) | (with_reducible refine Kd.C_drew ?_)))
              (case aB => exact (by repeat (first | (with_reducible first | exact HB.out | apply below_alloc | apply pw_below_drewN | apply below_drew1 | refine below_set ?_ GE168.out) | exact HB.out)))
              (case aF => exact (fun k_ hk => ⟨Kd.fresh' (Kd.R_lt (by (with_reducible repeat (first | apply Kd.R_alloc | apply Kd.R_drewN | apply Kd.R_drew)); exact HO232.out)) k_ hk, Kd.freshB (g := gb168) (o := .cells #[.int .i64 a1_0, .int .i64 a1_1] 40 (0, 0)) (by (with_reducible repeat (first | refine blk_drewN ?_ _ | refine blk_drew ?_ | refine blk_alloc ?_ _)); exact BK168.out) k_ hk⟩))
              (case aO => exact (by (with_reducible repeat (first | apply Kd.R_alloc | apply Kd.R_drewN | apply Kd.R_drew)); exact Kd.R_mono HO222.out (fun _ hk => ⟨hk.1.2, hk.2⟩)))
              (case aS => exact (below_size (by repeat (first | (with_reducible first | exact HB.out | apply below_alloc | apply pw_below_drewN | apply below_drew1 | refine below_set ?_ GE168.out) | exact HB.out))))
              (case aL => have := LMc63.out; omega)
              intro v228 w77 ho hb hg hat
              rw [← Ny227.out] at ho
              have n0_ := Aside0.mk (blk_grown (g := gb168) (o := .cells #[.int .i64 a1_0, .int .i64 a1_1] 40 (0, 0)) (by (with_reducible repeat (first | refine blk_drewN ?_ _ | refine blk_drew ?_ | refine blk_alloc ?_ _)); exact BK168.out) hg (Kd.R_away HO222.out (fun _ hk => hk.2)))
              have n1_ := Aside0.mk (Kd.R_after (ok := (fun k_ => k_ ≠ gb168)) (by (with_reducible repeat (first | apply Kd.R_alloc | apply Kd.R_drewN | apply Kd.R_drew)); exact Kd.R_mono HO232.out (fun _ hk => ⟨hk.1.2, hk.2⟩)) hg hat)
              have n2_ := Aside0.mk (hb)
              have n3_ := Aside0.mk (ho)
              clear BK168
              clear HO232
              clear HB
              clear HO222
              have BK168 := n0_
              have HO232 := n1_
              have HB := n2_
              have HO229 := n3_
              clear n0_ n1_ n2_ n3_
              clear ho hb hg hat
              refine hK.out _ _ ⟨(blk_cell BK168.out 0).trans rfl, (blk_cell BK168.out 1).trans rfl⟩ (fun hHeld => ?_)
              clear hK K
              refine norm_ (a' := ?_) ?_ ?_
              rotate_left
              ·show Act.put _ (some 61) _ = _
               simp only [Act.put, List.setIfInBounds_toArray, List.set_cons_zero, List.set_cons_succ, i64_w, i32_w]
               rfl
              exact norm_ (by simp only [putAll, Act.put, List.setIfInBounds_toArray, List.set_cons_zero, List.set_cons_succ]) (hCont (v221, v228, v231) _ ⟨hHeld, (by (with_reducible repeat (first | apply Kd.R_alloc | apply Kd.R_drewN | apply Kd.R_drew)); exact HO229.out), (by (with_reducible repeat (first | apply Kd.R_alloc | apply Kd.R_drewN | apply Kd.R_drew)); exact Kd.R_mono HO232.out (fun _ hk => ⟨hk.2, hk.1⟩)), (by (with_reducible repeat (first | refine blk_drewN ?_ _ | refine blk_drew ?_ | refine blk_alloc ?_ _)); exact BK168.out), (by repeat (first | (with_reducible first | exact HB.out | apply below_alloc | apply pw_below_drewN | apply below_drew1 | refine below_set ?_ GE168.out) | exact HB.out))⟩)
             rintro ⟨v221, v228, v231⟩ w78 ⟨hS_, h0_, h1_, h2_, h3_⟩
             have n0_ : Aside0 (Kd.R k40 40 w78 w.heap.size (fun k_ => some k_ ≠ (v231 : Value).ownBlock ∧ k_ ≠ gb168) v228 y227) := ⟨h0_⟩
             have n1_ : Aside0 (Kd.R k40 40 w78 w.heap.size (fun k_ => some k_ ≠ (v228 : Value).ownBlock ∧ k_ ≠ gb168) v231 y230) := ⟨h1_⟩
             have n2_ : Aside0 (w78.heap[gb168]? = some (.cells #[.int .i64 a1_0, .int .i64 a1_1] 40 (0, 0))) := ⟨h2_⟩
             have n3_ : Aside0 (Below w.heap.size w w78) := ⟨h3_⟩
             clear BK168
             clear HB
             clear h0_ h1_ h2_ h3_
             have HO229 := n0_
             have HO232 := n1_
             have BK168 := n2_
             have HB := n3_
             clear n0_ n1_ n2_ n3_
             have hHeld : w78.cell? ⟨gb168, 0, none⟩ = some (.int .i64 a1_0) ∧ w78.cell? ⟨gb168, 1, none⟩ = some (.int .i64 a1_1) := hS_
             obtain ⟨Ao80, co80, eo80⟩ := Kd.R_slice HO232.out
             (first | subst eo80 | (injection eo80 with f1_ f2_ f3_; have f4_ := f1_.symm; have f5_ := f3_.symm; clear f1_ f2_ f3_; subst f4_; subst f5_))
             refine norm_ (a' := ?_) ?_ ?_
             rotate_left
             ·simp only [putAll, Act.put, List.setIfInBounds_toArray, List.set_cons_zero, List.set_cons_succ]
              rfl
             refine one_ (i := 7) (N := some 64) #[true, true, true, true, true, true, true, true, true, true, true, false, false] rfl rfl (one_of HT_.out (by kernel_rfl)) (by decide) (fun K hK => ?_)
             refine Kd.R_append_rows_step k40 (w0 := w) w.heap.size (by rfl) (.tmp 61) (.tmp 63) 31 40 (.agg #[(.int .i64 0), (.int .i64 0)]) 16 rfl Try.underlying31 info40 rfl (by decide) (by omega) v228 y227 y230 _ _ _ (fun k_ => some k_ ≠ (.slice Ao80 y230.length co80 : Value).ownBlock ∧ k_ ≠ gb168) (fun _ => False) rfl rfl ?aO ?aR (fun _ _ h => h) (fun _ h => h.elim) ?aF ?aB ?aS ?aL ?_
             (case aR => repeat (first | exact (Kd.R_reads' HO232.out).2.2 | (with_reducible refine Kd.C_alloc ?_ _) | (with_reducible refine Kd.C_drewN ?_ _) | (with_reducible refine Kd.C_drew ?_)))
             (case aB => exact (by repeat (first | (with_reducible first | exact HB.out | apply below_alloc | apply pw_below_drewN | apply below_drew1 | refine below_set ?_ GE168.out) | exact HB.out)))
             (case aF => exact (fun k_ hk => ⟨Kd.fresh' (Kd.R_lt (by (with_reducible repeat (first | apply Kd.R_alloc | apply Kd.R_drewN | apply Kd.R_drew)); exact HO232.out)) k_ hk, Kd.freshB (g := gb168) (o := .cells #[.int .i64 a1_0, .int .i64 a1_1] 40 (0, 0)) (by (with_reducible repeat (first | refine blk_drewN ?_ _ | refine blk_drew ?_ | refine blk_alloc ?_ _)); exact BK168.out) k_ hk⟩))
             (case aO => exact (by (with_reducible repeat (first | apply Kd.R_alloc | apply Kd.R_drewN | apply Kd.R_drew)); exact HO229.out))
             (case aS => exact (below_size (by repeat (first | (with_reducible first | exact HB.out | apply below_alloc | apply pw_below_drewN | apply below_drew1 | refine below_set ?_ GE168.out) | exact HB.out))))
             (case aL => have := LMc64.out; omega)
             intro v234 w79 ho hb hg hat
             rw [← Ny233.out] at ho
             have n0_ := Aside0.mk (blk_grown (g := gb168) (o := .cells #[.int .i64 a1_0, .int .i64 a1_1] 40 (0, 0)) (by (with_reducible repeat (first | refine blk_drewN ?_ _ | refine blk_drew ?_ | refine blk_alloc ?_ _)); exact BK168.out) hg (Kd.R_away HO229.out (fun _ hk => hk.2)))
             have n1_ := Aside0.mk (Kd.R_after (ok := (fun k_ => k_ ≠ gb168)) (by (with_reducible repeat (first | apply Kd.R_alloc | apply Kd.R_drewN | apply Kd.R_drew)); exact Kd.R_mono HO232.out (fun _ hk => ⟨hk.2, hk.1⟩)) hg hat)
             have n2_ := Aside0.mk (hb)
             have n3_ := Aside0.mk (ho)
             clear BK168
             clear HO232
             clear HB
             clear HO229
             have BK168 := n0_
             have HO232 := n1_
             have HB := n2_
             have HO235 := n3_
             clear n0_ n1_ n2_ n3_
             clear ho hb hg hat
             refine hK.out _ _ ⟨(blk_cell BK168.out 0).trans rfl, (blk_cell BK168.out 1).trans rfl⟩ (fun hHeld => ?_)
             clear hK K
             refine norm_ (a' := ?_) ?_ ?_
             rotate_left
             ·show Act.put _ (some 64) _ = _
              simp only [Act.put, List.setIfInBounds_toArray, List.set_cons_zero, List.set_cons_succ, i64_w, i32_w]
              rfl
             refine one_ (i := 11) (N := some 68) #[true, true, true, true, true, true, true, true, true, true, true, true, false] rfl rfl (one_of HT_.out (by kernel_rfl)) (by decide) (fun K hK => ?_)
             refine Kd.R_append_rows_step k40 (w0 := w) w.heap.size (by rfl) (.tmp 64) (.tmp 67) 31 40 (.agg #[(.int .i64 0), (.int .i64 0)]) 16 rfl Try.underlying31 info40 rfl (by decide) (by omega) v234 y233 y236 _ _ _ (fun k_ => some k_ ≠ (.slice Ao80 y230.length co80 : Value).ownBlock ∧ k_ ≠ gb168) (fun _ => False) rfl rfl ?aO ?aR (fun _ _ h => h) (fun _ h => h.elim) ?aF ?aB ?aS ?aL ?_
             (case aR => repeat (first | exact (Kd.C_below HR239.out HB.out) | (with_reducible refine Kd.C_alloc ?_ _) | (with_reducible refine Kd.C_drewN ?_ _) | (with_reducible refine Kd.C_drew ?_)))
             (case aB => exact (by repeat (first | (with_reducible first | exact HB.out | apply below_alloc | apply pw_below_drewN | apply below_drew1 | refine below_set ?_ GE168.out) | exact HB.out)))
             (case aF => exact (fun k_ hk => ⟨Kd.fresh' (Kd.R_lt (by (with_reducible repeat (first | apply Kd.R_alloc | apply Kd.R_drewN | apply Kd.R_drew)); exact HO232.out)) k_ hk, Kd.freshB (g := gb168) (o := .cells #[.int .i64 a1_0, .int .i64 a1_1] 40 (0, 0)) (by (with_reducible repeat (first | refine blk_drewN ?_ _ | refine blk_drew ?_ | refine blk_alloc ?_ _)); exact BK168.out) k_ hk⟩))
             (case aO => exact (by (with_reducible repeat (first | apply Kd.R_alloc | apply Kd.R_drewN | apply Kd.R_drew)); exact HO235.out))
             (case aS => exact (below_size (by repeat (first | (with_reducible first | exact HB.out | apply below_alloc | apply pw_below_drewN | apply below_drew1 | refine below_set ?_ GE168.out) | exact HB.out))))
             (case aL => have := LMc67.out; omega)
             intro v241 w81 ho hb hg hat
             rw [← Ny240.out] at ho
             have n0_ := Aside0.mk (blk_grown (g := gb168) (o := .cells #[.int .i64 a1_0, .int .i64 a1_1] 40 (0, 0)) (by (with_reducible repeat (first | refine blk_drewN ?_ _ | refine blk_drew ?_ | refine blk_alloc ?_ _)); exact BK168.out) hg (Kd.R_away HO235.out (fun _ hk => hk.2)))
             have n1_ := Aside0.mk (Kd.R_after (ok := (fun k_ => k_ ≠ gb168)) (by (with_reducible repeat (first | apply Kd.R_alloc | apply Kd.R_drewN | apply Kd.R_drew)); exact HO232.out) hg hat)
             have n2_ := Aside0.mk (hb)
             have n3_ := Aside0.mk (ho)
             clear BK168
             clear HO232
             clear HB
             clear HO235
             have BK168 := n0_
             have HO232 := n1_
             have HB := n2_
             have HO242 := n3_
             clear n0_ n1_ n2_ n3_
             clear ho hb hg hat
             refine hK.out _ _ ⟨(blk_cell BK168.out 0).trans rfl, (blk_cell BK168.out 1).trans rfl⟩ (fun hHeld => ?_)
             clear hK K
             refine norm_ (a' := ?_) ?_ ?_
             rotate_left
             ·show Act.put _ (some 68) _ = _
              simp only [Act.put, List.setIfInBounds_toArray, List.set_cons_zero, List.set_cons_succ, i64_w, i32_w]
              rfl
             refine pure_ (i := 12) (N := some 4) (v := ?_) (a' := ?_) #[true, true, true, true, true, true, true, true, true, true, true, true, true] rfl rfl (any_of HT_.out (by kernel_rfl)) (fun _ _ _ h => h) (Or.inl ⟨by rfl, ?_⟩) ?_ ?_
             rotate_left
             ·intro w'
              go_simp
              with_reducible rfl
             rotate_left
             ·simp only [Act.put, List.setIfInBounds_toArray, List.set_cons_zero, List.set_cons_succ, i64_w, i32_w]
              rfl
             refine done_ (done_of HT_.out (by kernel_rfl)) ?_
             try go_wp2
             go_ret
             exact ⟨_, by first | rfl | (simp [errW_none, errW_some] <;> rfl) | (simp [*, errW_none, errW_some] <;> rfl), .inr (by (with_reducible repeat (first | apply Kd.R_alloc | apply Kd.R_drewN | apply Kd.R_drew)); exact Kd.R_mono HO242.out (fun _ hk => trivial)), by repeat (first | (with_reducible first | exact HB.out | apply below_alloc | apply pw_below_drewN | apply below_drew1 | refine below_set ?_ GE168.out) | exact HB.out)⟩
            rw [if_neg c67] at H
            exact absurd H (by simp)
           rw [if_neg c64] at H
           exact absurd H (by simp)
          rw [if_neg c63] at H
          exact absurd H (by simp)
         rw [if_neg c62] at H
         exact absurd H (by simp)
        rw [if_neg c61] at H
        exact absurd H (by simp)

theorem corporaref27_Insert.calls (k : Nat) (P0_ : Nat → Prop) (u9000_ : Value) (l0 : List (S40)) (a1_0 : Int) (a1_1 : Int) (r : List (S40)) (w0 w : World) (hB : Below w0.heap.size w0 w) (ho0 : Kd.R k40 40 w w0.heap.size P0_ u9000_ l0) (h : corporaref27_Insert.f k l0 a1_0 a1_1 = some r) :
    Calls Try.prog 35 #[u9000_, .agg #[.int .i64 a1_0, .int .i64 a1_1]] w fun e w' => ∃ v0_ : Value, e = .returned (v0_) ∧ Kd.R k40 40 w' w0.heap.size (fun k_ => (P0_ k_ ∨ w.heap.size ≤ k_)) v0_ r ∧ Below w0.heap.size w0 w' ∧ Kept w w' (fun k_ => P0_ k_) := by
  obtain ⟨A0, c0, rfl⟩ := Kd.R_slice ho0
  obtain ⟨_, hc, hC⟩ := Kd.R_reads' ho0
  refine (corporaref27_Insert.callsC k A0 c0 l0 a1_0 a1_1 r w hC hc h).mono ?_
  rintro e w' ⟨v, rfl, hv, hb⟩
  refine ⟨v, rfl, ?_, below_then hB hB.size hb, Kept.of_below hb _⟩
  rcases hv with ⟨rfl, rfl⟩ | hr
  ·exact Kd.R_mono (Kd.R_below ho0 hb) (fun k_ hk => .inl hk)
  have hr2 := Kd.R_lower (Kd.R_bound hr) hB.size
  exact Kd.R_mono hr2 (fun k_ hk => .inr hk.2.1)

end Go.Proofs.Ytmmdlkeemafanaa.Q
