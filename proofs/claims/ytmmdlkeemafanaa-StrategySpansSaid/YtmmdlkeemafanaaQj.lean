import Derived.Test.YtmmdlkeemafanaaQx0
import Derived.Test.YtmmdlkeemafanaaQx1
import Derived.Test.YtmmdlkeemafanaaQa
import Derived.Test.YtmmdlkeemafanaaQb
import Derived.Test.YtmmdlkeemafanaaQc
import Derived.Test.YtmmdlkeemafanaaQd
import Derived.Test.YtmmdlkeemafanaaQe
import Derived.Test.YtmmdlkeemafanaaQf
import Derived.Test.YtmmdlkeemafanaaQg
import Derived.Test.YtmmdlkeemafanaaQh
import Derived.Test.YtmmdlkeemafanaaQi
namespace Go.Proofs.Ytmmdlkeemafanaa.Q
open Go.RowKit Go.Proofs.YtmmdlkeemafanaaW.PrintWords Go.Proofs.YtmmdlkeemafanaaW.PrintLast Go.Proofs.YtmmdlkeemafanaaW.PrintMore
attribute [local go_sem] max2_int min2_int max_two min_two max_three min_three max_four min_four   -- for this text's walks alone
set_option linter.unusedVariables false
set_option linter.unusedSimpArgs false

attribute [local go_sem high] eqA40

/-! ### the strategy's function -/
def pick (k : Nat) (s : Int) (x : List S40) : Option (List S40) :=
  if s = 0 then strategy_spans_each.f x else if s = 1 then strategy_spans_shortest.f k x else if s = 2 then strategy_spans_longest.f k x else if s = 3 then strategy_spans_traditional.f k x else none
theorem pick_mono (s : Int) (x : List S40) (k : Nat) : LeO (pick k s x) (pick (k + 1) s x) := by
  unfold pick
  refine LeO.ite (LeO.refl _) (LeO.ite (strategy_spans_shortest.mono _ _) (LeO.ite (strategy_spans_longest.mono _ _) (LeO.ite (strategy_spans_traditional.mono _ _) (LeO.none _))))
theorem pick_new {w W w' : World} {v : Value} {r : List S40} (HB : Below w.heap.size w W) (h : Kd.R k40 40 w' W.heap.size (fun _ => True) v r ∧ Below W.heap.size W w') : Kd.R k40 40 w' w.heap.size (fun _ => True) v r ∧ Below w.heap.size w w' :=
  ⟨Kd.R_lower h.1 HB.size, below_step HB h.2⟩
theorem pick_own {k : Nat} {s : Int} {x r : List S40} {w W : World} {A : Option Addr} {c : Nat} (f : Nat) (hf : s = (f : Int) - 24) (HO : Kd.R k40 40 W w.heap.size (fun _ => True) (.slice A x.length c) x) (HB : Below w.heap.size w W) (h : pick k s x = some r) :
    Calls Try.prog f #[.slice A x.length c] W fun e w' => ∃ v' : Value, e = .returned v' ∧ Kd.R k40 40 w' w.heap.size (fun _ => True) v' r ∧ Below w.heap.size w w' := by
  subst hf
  have hC := (Kd.R_reads' HO).2.2
  have hc := (Kd.R_reads' HO).2.1
  unfold pick at h
  split at h
  ·obtain rfl : f = 24 := by omega
   refine (strategy_spans_each.calls _ _ _ _ w W HB HO h).mono ?_
   rintro e w' ⟨v', rfl, h1, h2, _⟩
   exact ⟨v', rfl, Kd.R_mono h1 fun _ _ => trivial, h2⟩
  split at h
  ·obtain rfl : f = 25 := by omega
   refine (strategy_spans_shortest.calls k _ _ _ _ _ hC hc h).mono ?_
   rintro e w' ⟨v', rfl, h'⟩
   exact ⟨v', rfl, pick_new HB h'⟩
  split at h
  ·obtain rfl : f = 26 := by omega
   refine (strategy_spans_longest.calls k _ _ _ _ _ hC hc h).mono ?_
   rintro e w' ⟨v', rfl, h'⟩
   exact ⟨v', rfl, pick_new HB h'⟩
  split at h
  ·obtain rfl : f = 27 := by omega
   refine (strategy_spans_traditional.calls k _ _ _ _ _ hC hc h).mono ?_
   rintro e w' ⟨v', rfl, h'⟩
   exact ⟨v', rfl, pick_new HB h'⟩
  simp at h
theorem pick_cases {k : Nat} {s : Int} {x r : List S40} (h : pick k s x = some r) : s = 0 ∨ s = 1 ∨ s = 2 ∨ s = 3 := by
  unfold pick at h
  by_cases h0 : s = 0
  ·exact .inl h0
  by_cases h1 : s = 1
  ·exact .inr (.inl h1)
  by_cases h2 : s = 2
  ·exact .inr (.inr (.inl h2))
  by_cases h3 : s = 3
  ·exact .inr (.inr (.inr h3))
  simp [h0, h1, h2, h3] at h
/-! ### strategy_Choose: function 12 -/
mutual
def strategy_Choose.j0 (s : Int) : Nat → List (S38) → Bool → Option ((List (S38)) × Int)
  | 0, _, _ => none
  | k + 1, x1, x22 => if x22 = true then (some (([] : List (S38)), 1)) else (strategy_Choose.l0 s k x1 x1 (x1.length : Int) 0)
def strategy_Choose.l0 (s : Int) : Nat → List (S38) → List (S38) → Int → Int → Option ((List (S38)) × Int)
  | 0, _, _, _, _ => none
  | k + 1, x1, x23, x24, x25 => if x25 < x24 then (if 0 ≤ x25 then (if x25 < (x23.length : Int) then (if ((rd_T38 x23 x25).f0) ≥ ((rd_T38 x23 x25).f1) then (some (([] : List (S38)), 8)) else (if ((rd_T38 x23 x25).f0) < 0 then (some (([] : List (S38)), 8)) else (strategy_Choose.l0 s k x1 x23 x24 (wrap64 (x25 + 1))))) else (none)) else (none)) else (strategy_Choose.l1 s k x1 1)
def strategy_Choose.l1 (s : Int) : Nat → List (S38) → Int → Option ((List (S38)) × Int)
  | 0, _, _ => none
  | k + 1, x1, x8 => if x8 < (x1.length : Int) then (if 0 ≤ (wrap64 (x8 - 1)) then (if (wrap64 (x8 - 1)) < (x1.length : Int) then (if 0 ≤ x8 then ((match_Compare.f k ((rd_T38 x1 (wrap64 (x8 - 1))).f0) ((rd_T38 x1 (wrap64 (x8 - 1))).f1) ((rd_T38 x1 (wrap64 (x8 - 1))).f2) ((rd_T38 x1 x8).f0) ((rd_T38 x1 x8).f1) ((rd_T38 x1 x8).f2)).bind fun t193 => (if t193 ≥ 0 then (some (([] : List (S38)), 6)) else (strategy_Choose.l1 s k x1 (wrap64 (x8 + 1))))) else (none)) else (none)) else (none)) else ((strategy_Spans.f k x1).bind fun t194 => ((pick k s t194).bind fun t197 => (strategy_Choose.l2 k t197 ([] : List (S38)) x1 (x1.length : Int) 0)))
def strategy_Choose.l2 : Nat → List (S40) → List (S38) → List (S38) → Int → Int → Option ((List (S38)) × Int)
  | 0, _, _, _, _, _ => none
  | k + 1, x11, x12, x73, x74, x75 => if x75 < x74 then (if 0 ≤ x75 then (if x75 < (x73.length : Int) then ((strategy_span.f ((rd_T38 x73 x75).f0) ((rd_T38 x73 x75).f1) ((rd_T38 x73 x75).f2)).bind fun bt202 => ((api_Span_28.f k x11 bt202.1 bt202.2).bind fun bt204 => (if bt204.2 = true then ((slices_Clone_int_int.f ((rd_T38 x73 x75).f2)).bind fun t206 => (if x12.length < 3518437208883 then (strategy_Choose.l2 k x11 (x12 ++ [(⟨(rd_T38 x73 x75).f0, (rd_T38 x73 x75).f1, t206⟩ : S38)]) x73 x74 (wrap64 (x75 + 1))) else (none))) else (strategy_Choose.l2 k x11 x12 x73 x74 (wrap64 (x75 + 1)))))) else (none)) else (none)) else (some (x12, 0))
end
def strategy_Choose.f (k : Nat) (a0 : Int) (l1 : List (S38)) : Option ((List (S38)) × Int) := if a0 < 0 then (strategy_Choose.j0 a0 k l1 true) else (strategy_Choose.j0 a0 k l1 (decide (a0 > 3)))
theorem strategy_Choose.mono_l (s : Int) : ∀ k, (∀ y0 y1, LeO (strategy_Choose.j0 s k y0 y1) (strategy_Choose.j0 s (k + 1) y0 y1)) ∧ (∀ y0 y1 y2 y3, LeO (strategy_Choose.l0 s k y0 y1 y2 y3) (strategy_Choose.l0 s (k + 1) y0 y1 y2 y3)) ∧ (∀ y0 y1, LeO (strategy_Choose.l1 s k y0 y1) (strategy_Choose.l1 s (k + 1) y0 y1)) ∧ (∀ y0 y1 y2 y3 y4, LeO (strategy_Choose.l2 k y0 y1 y2 y3 y4) (strategy_Choose.l2 (k + 1) y0 y1 y2 y3 y4))
  | 0 => ⟨fun _ _ r h => by simp [strategy_Choose.j0] at h, fun _ _ _ _ r h => by simp [strategy_Choose.l0] at h, fun _ _ r h => by simp [strategy_Choose.l1] at h, fun _ _ _ _ _ r h => by simp [strategy_Choose.l2] at h⟩
  | k + 1 => by
    obtain ⟨ih0, ih1, ih2, ih3⟩ := strategy_Choose.mono_l s k
    refine ⟨?_, ?_, ?_, ?_⟩
    ·intro y0 y1
     unfold strategy_Choose.j0
     repeat' first
     | (with_reducible exact ih0 _ _)
     | (with_reducible exact ih1 _ _ _ _)
     | (with_reducible exact ih2 _ _)
     | (with_reducible exact ih3 _ _ _ _ _)
     | (with_reducible exact api_Span_28.mono _ _ _ _)
     | (with_reducible exact match_Compare.mono _ _ _ _ _ _ _)
     | (with_reducible exact strategy_Spans.mono _ _)
     | (with_reducible exact pick_mono _ _ _)
     | (with_reducible exact LeO.refl _)
     | (with_reducible exact LeO.none _)
     | (with_reducible refine LeO.ite ?_ ?_)
     | (with_reducible refine LeO.bind ?_ (fun _ => ?_))
     | exact ih0 _ _
     | exact ih1 _ _ _ _
     | exact ih2 _ _
     | exact ih3 _ _ _ _ _
     | exact api_Span_28.mono _ _ _ _
     | exact match_Compare.mono _ _ _ _ _ _ _
     | exact strategy_Spans.mono _ _
     | exact pick_mono _ _ _
     | exact LeO.none _
     | refine LeO.ite ?_ ?_
     | refine LeO.bind ?_ (fun _ => ?_)
    ·intro y0 y1 y2 y3
     unfold strategy_Choose.l0
     repeat' first
     | (with_reducible exact ih0 _ _)
     | (with_reducible exact ih1 _ _ _ _)
     | (with_reducible exact ih2 _ _)
     | (with_reducible exact ih3 _ _ _ _ _)
     | (with_reducible exact api_Span_28.mono _ _ _ _)
     | (with_reducible exact match_Compare.mono _ _ _ _ _ _ _)
     | (with_reducible exact strategy_Spans.mono _ _)
     | (with_reducible exact pick_mono _ _ _)
     | (with_reducible exact LeO.refl _)
     | (with_reducible exact LeO.none _)
     | (with_reducible refine LeO.ite ?_ ?_)
     | (with_reducible refine LeO.bind ?_ (fun _ => ?_))
     | exact ih0 _ _
     | exact ih1 _ _ _ _
     | exact ih2 _ _
     | exact ih3 _ _ _ _ _
     | exact api_Span_28.mono _ _ _ _
     | exact match_Compare.mono _ _ _ _ _ _ _
     | exact strategy_Spans.mono _ _
     | exact pick_mono _ _ _
     | exact LeO.none _
     | refine LeO.ite ?_ ?_
     | refine LeO.bind ?_ (fun _ => ?_)
    ·intro y0 y1
     unfold strategy_Choose.l1
     repeat' first
     | (with_reducible exact ih0 _ _)
     | (with_reducible exact ih1 _ _ _ _)
     | (with_reducible exact ih2 _ _)
     | (with_reducible exact ih3 _ _ _ _ _)
     | (with_reducible exact api_Span_28.mono _ _ _ _)
     | (with_reducible exact match_Compare.mono _ _ _ _ _ _ _)
     | (with_reducible exact strategy_Spans.mono _ _)
     | (with_reducible exact pick_mono _ _ _)
     | (with_reducible exact LeO.refl _)
     | (with_reducible exact LeO.none _)
     | (with_reducible refine LeO.ite ?_ ?_)
     | (with_reducible refine LeO.bind ?_ (fun _ => ?_))
     | exact ih0 _ _
     | exact ih1 _ _ _ _
     | exact ih2 _ _
     | exact ih3 _ _ _ _ _
     | exact api_Span_28.mono _ _ _ _
     | exact match_Compare.mono _ _ _ _ _ _ _
     | exact strategy_Spans.mono _ _
     | exact pick_mono _ _ _
     | exact LeO.none _
     | refine LeO.ite ?_ ?_
     | refine LeO.bind ?_ (fun _ => ?_)
    intro y0 y1 y2 y3 y4
    unfold strategy_Choose.l2
    repeat' first
    | (with_reducible exact ih0 _ _)
    | (with_reducible exact ih1 _ _ _ _)
    | (with_reducible exact ih2 _ _)
    | (with_reducible exact ih3 _ _ _ _ _)
    | (with_reducible exact api_Span_28.mono _ _ _ _)
    | (with_reducible exact match_Compare.mono _ _ _ _ _ _ _)
    | (with_reducible exact strategy_Spans.mono _ _)
    | (with_reducible exact pick_mono _ _ _)
    | (with_reducible exact LeO.refl _)
    | (with_reducible exact LeO.none _)
    | (with_reducible refine LeO.ite ?_ ?_)
    | (with_reducible refine LeO.bind ?_ (fun _ => ?_))
    | exact ih0 _ _
    | exact ih1 _ _ _ _
    | exact ih2 _ _
    | exact ih3 _ _ _ _ _
    | exact api_Span_28.mono _ _ _ _
    | exact match_Compare.mono _ _ _ _ _ _ _
    | exact strategy_Spans.mono _ _
    | exact pick_mono _ _ _
    | exact LeO.none _
    | refine LeO.ite ?_ ?_
    | refine LeO.bind ?_ (fun _ => ?_)
theorem strategy_Choose.mono : ∀ a0 a1 k, LeO (strategy_Choose.f k a0 a1) (strategy_Choose.f (k + 1) a0 a1) := by
  intro a0 a1 k
  obtain ⟨ih0, ih1, ih2, ih3⟩ := strategy_Choose.mono_l a0 k
  unfold strategy_Choose.f
  repeat' first
      | (with_reducible exact ih0 _ _)
      | (with_reducible exact ih1 _ _ _ _)
      | (with_reducible exact ih2 _ _)
      | (with_reducible exact ih3 _ _ _ _ _)
      | (with_reducible exact api_Span_28.mono _ _ _ _)
      | (with_reducible exact match_Compare.mono _ _ _ _ _ _ _)
      | (with_reducible exact strategy_Spans.mono _ _)
      | (with_reducible exact pick_mono _ _ _)
      | (with_reducible exact LeO.refl _)
      | (with_reducible exact LeO.none _)
      | (with_reducible refine LeO.ite ?_ ?_)
      | (with_reducible refine LeO.bind ?_ (fun _ => ?_))
      | exact ih0 _ _
      | exact ih1 _ _ _ _
      | exact ih2 _ _
      | exact ih3 _ _ _ _ _
      | exact api_Span_28.mono _ _ _ _
      | exact match_Compare.mono _ _ _ _ _ _ _
      | exact strategy_Spans.mono _ _
      | exact pick_mono _ _ _
      | exact LeO.none _
      | refine LeO.ite ?_ ?_
      | refine LeO.bind ?_ (fun _ => ?_)
def strategy_Choose.T12 : Bool × List (List Nat × List Nat) := (true, [([], []), ([], []), ([1], [1]), ([0, 2], [0, 2]), ([3], [3]), ([], []), ([], []), ([5, 6], [5, 6]), ([7], [7]), ([4, 8], [4, 8]), ([9], [9])])
def strategy_Choose.B12 : List Nat := [0, 0, 2, 7, 15, 0, 0, 96, 224, 511, 1023]
theorem strategy_Choose.tab12 : rtab .any (opsOf Try.f12 12) = strategy_Choose.T12 := by kernel_rfl
theorem strategy_Choose.bits12 : waitsOk strategy_Choose.T12.2 strategy_Choose.B12 = true := by kernel_rfl
def strategy_Choose.T23 : Bool × List (List Nat × List Nat) := (true, [([], []), ([], []), ([1], [1]), ([], []), ([3], [3]), ([], []), ([5], [5]), ([6], [6]), ([2, 4, 7], [2, 4, 7]), ([8], [8]), ([0, 9, 7], [0, 9]), ([10, 10, 0, 1, 2, 3, 4, 5, 6, 7, 8, 9, 10], [0, 10])])
def strategy_Choose.B23 : List Nat := [0, 0, 2, 0, 8, 0, 32, 96, 254, 510, 1023, 2047]
theorem strategy_Choose.tab23 : rtab .any (opsOf Try.f12 23) = strategy_Choose.T23 := by kernel_rfl
theorem strategy_Choose.bits23 : waitsOk strategy_Choose.T23.2 strategy_Choose.B23 = true := by kernel_rfl
set_option maxHeartbeats 8000000 in
set_option maxRecDepth 100000 in
theorem strategy_Choose.calls (k : Nat) (a0 : Int) (A1 : Option Addr) (c1 : Nat) (l1 : List (S38)) (r1 : List (S38)) (r2 : Int) (w : World) (hr1 : Kd.C k38 w A1 l1.length l1) (hc1 : l1.length ≤ c1) (h : strategy_Choose.f k a0 l1 = some (r1, r2)) :
    Calls Try.prog 12 #[.int .i64 a0, .slice A1 l1.length c1] w fun e w' => ∃ v0_ : Value, e = .returned (.tuple #[v0_, .int .i64 r2]) ∧ Kd.S k38 38 w' w.heap.size (fun _ => True) v0_ r1 ∧ Below w.heap.size w w' := by
  have hu38 := Try.underlying38
  have HR1 := Aside0.mk hr1
  have HC1 := Aside0.mk hc1
  clear hr1 hc1
  have HB := Aside0.mk (Below.refl w.heap.size w)
  have H : (if a0 < 0 then (strategy_Choose.j0 a0 k l1 true) else (strategy_Choose.j0 a0 k l1 (decide (a0 > 3)))) = some (r1, r2) := h
  clear h
  have HC3 := Aside0.mk H
  clear H
  go_enter Try.func12, Try.ntmps12
  go_upto_region 1 with (fail)
  go_cut [22] (fun v22 wc => ∃ (kq : Nat) (x22_2 : Bool), v22 = .bool x22_2 ∧ Aside0 (strategy_Choose.j0 a0 kq l1 x22_2 = some (r1, r2)) ∧ Aside0 (kq ≤ k) ∧ Aside0 (Below w.heap.size w wc))
  case first =>
    have H := HC3.out
    clear HC3
    by_cases c4 : a0 < 0
    ·rw [if_pos c4] at H
     have c4b0 : decide (a0 < 0) = true := decide_eq_true c4
     clear c4
     (first | rw [c4b0] | (simp only [i64_w, i32_w]; rw [c4b0]) | skip)
     have H' := Aside0.mk H
     clear H
     go_wp2
     go_meet
     case rel => exact ⟨_, (true), (by first | rfl | (simp; done) | (simp [*]; done)), H', ⟨by first | omega | exact Nat.le_refl _⟩, ⟨by repeat (first | (with_reducible first | exact HB.out | apply below_alloc | apply pw_below_drewN | apply below_drew1) | exact HB.out)⟩⟩
    rw [if_neg c4] at H
    have c4b0 : decide (a0 < 0) = false := decide_eq_false c4
    clear c4
    (first | rw [c4b0] | (simp only [i64_w, i32_w]; rw [c4b0]) | skip)
    have H' := Aside0.mk H
    clear H
    go_wp2
    go_meet
    case rel => exact ⟨_, (decide (a0 > 3)), (by first | rfl | (simp; done) | (simp [*]; done)), H', ⟨by first | omega | exact Nat.le_refl _⟩, ⟨by repeat (first | (with_reducible first | exact HB.out | apply below_alloc | apply pw_below_drewN | apply below_drew1) | exact HB.out)⟩⟩
  case rest =>
    clear HC3
    try clear c1
    try clear p2
    try clear c4
    try clear c4b0
    obtain ⟨kq, x22_2, rfl, HA, HJ2, HB⟩ := hcut
    cases kq with
    | zero => exact absurd HA.out (by simp [strategy_Choose.j0])
    | succ kj2 =>
      have H := HA.out
      clear HA
      simp only [strategy_Choose.j0] at H
      by_cases c5 : x22_2 = true
      ·subst c5
       have H1 : (some (([] : List (S38)), 1)) = some (r1, r2) := by rw [if_pos rfl] at H; exact H
       clear H
       have H := H1
       clear H1
       simp only [Option.some.injEq, Prod.mk.injEq] at H
       obtain ⟨rfl, rfl⟩ := H
       go_wp2
       go_ret2
       exact ⟨_, by first | rfl | (simp [errW_none, errW_some] <;> rfl) | (simp [*, errW_none, errW_some] <;> rfl), by first | exact Kd.S_nil _ _ _ _ _ | exact Kd.N_nil _ _ _ _ _ | exact Kd.V_nil _ _ _ _ _ | exact Kd.Q_nil _ _ _ _ _ | exact Kd.R_nil _ _ _ _ _, by repeat (first | (with_reducible first | exact HB.out | apply below_alloc | apply pw_below_drewN | apply below_drew1) | exact HB.out)⟩
      replace c5 := Bool.eq_false_iff.mpr c5
      subst c5
      have H1 : (strategy_Choose.l0 a0 kj2 l1 l1 (l1.length : Int) 0) = some (r1, r2) := by rw [if_neg (show ¬ (false = true) by decide)] at H; exact H
      clear H
      have H := H1
      clear H1
      have H' := Aside0.mk H
      clear H
      go_wp2
      go_loopg [25] kj2 (fun kq v25 w' => ∃ (x25_2 : Int), v25 = .int .i64 x25_2 ∧ Aside0 (strategy_Choose.l0 a0 kq l1 l1 (l1.length : Int) x25_2 = some (r1, r2)) ∧ Aside0 (kq ≤ kj2) ∧ Aside0 (Below w.heap.size w w'))
      case atStart => exact ⟨(0), (by first | rfl | (simp; done) | (simp [*]; done)), H', ⟨Nat.le_refl _⟩, ⟨by repeat (first | (with_reducible first | exact HB.out | apply below_alloc | apply pw_below_drewN | apply below_drew1) | exact HB.out)⟩⟩
      case round =>
        clear H'
        try clear c1
        try clear p2
        try clear c4
        try clear c4b0
        try clear c5
        try clear p2
        obtain ⟨x25_2, rfl, HA, HK2, HB⟩ := hrel
        cases gk with
        | zero => exact absurd HA.out (by simp [strategy_Choose.l0])
        | succ k2 =>
          have H := HA.out
          clear HA
          simp only [strategy_Choose.l0] at H
          by_cases c6 : x25_2 < (l1.length : Int)
          ·rw [if_pos c6] at H
           have c6b0 : decide (x25_2 < (l1.length : Int)) = true := decide_eq_true c6
           clear c6
           by_cases c7 : 0 ≤ x25_2
           ·rw [if_pos c7] at H
            have c7b0 : decide (0 ≤ x25_2) = true := decide_eq_true c7
            clear c7
            by_cases c8 : x25_2 < (l1.length : Int)
            ·rw [if_pos c8] at H
             have c8b0 : decide (x25_2 < (l1.length : Int)) = true := decide_eq_true c8
             clear c8
             by_cases c9 : ((rd_T38 l1 x25_2).f0) ≥ ((rd_T38 l1 x25_2).f1)
             ·rw [if_pos c9] at H
              have c9b0 : decide (((rd_T38 l1 x25_2).f1) ≤ ((rd_T38 l1 x25_2).f0)) = true := decide_eq_true c9
              clear c9
              simp only [Option.some.injEq, Prod.mk.injEq] at H
              obtain ⟨rfl, rfl⟩ := H
              have p189 : 0 ≤ (x25_2 : Int) := of_decide_eq_true (by first | (with_reducible assumption) | assumption)
              have q189 : x25_2 < (l1.length : Int) := of_decide_eq_true (by first | (with_reducible assumption) | assumption)
              obtain ⟨ad189, A189_2, c189_2, e189, hx189_0, hx189_1, hx189_2, hl189_2, hi189_2⟩ := at_T38 HR1.out x25_2 p189 q189
              cases e189
              replace hx189_0 := (HB.out.cell (World.block_lt_of_cell? w _ hx189_0)).trans hx189_0
              replace hx189_1 := (HB.out.cell (World.block_lt_of_cell? w _ hx189_1)).trans hx189_1
              replace hx189_2 := (HB.out.cell (World.block_lt_of_cell? w _ hx189_2)).trans hx189_2
              have HR189_2 := Aside0.mk hi189_2
              have HC189_2 := Aside0.mk hl189_2
              clear hi189_2 hl189_2
              replace p189 := eq_true p189
              replace q189 := eq_true q189
              go_wp2_with (first | ((with_reducible refine gate_dst (N := 7) rfl ?_); refine box_event ?hg (N := 7) ?hd (cs := #[.int .i64 0, .int .i64 0, .slice none 0 0]) (t := 38) ?hr ?_; (case hd => rfl); (case hg => rfl); (case hr => first | (go_simp; done) | (go_simp; rfl)); intro gb190 hg w10 hbox hb; have n0_ := Aside0.mk (below_step (by repeat (first | (with_reducible first | exact HB.out | apply below_alloc | apply pw_below_drewN | apply below_drew1) | exact HB.out)) hb); have n1_ := Aside0.mk (hbox); have n2_ := Aside0.mk ((by rw [hg]; exact (below_size (by repeat (first | (with_reducible first | exact HB.out | apply below_alloc | apply pw_below_drewN | apply below_drew1) | exact HB.out))) : w.heap.size ≤ gb190)); have n3_ := Aside0.mk ((by rw [hg]; exact (below_size (by repeat (first | (with_reducible first | exact HB.out | apply below_alloc | apply pw_below_drewN | apply below_drew1) | exact HB.out))) : w.heap.size ≤ gb190)); clear HB; have HB := n0_; have BK190 := n1_; have GW190 := n2_; have GE190 := n3_; clear n0_ n1_ n2_ n3_; clear hb hbox hg; have hcz11_0 : w10.cell? ⟨gb190, 0, none⟩ = some (.int .i64 0) := (blk_cell BK190.out 0).trans rfl; have hcz11_1 : w10.cell? ⟨gb190, 1, none⟩ = some (.int .i64 0) := (blk_cell BK190.out 1).trans rfl; have hcz11_2 : w10.cell? ⟨gb190, 2, none⟩ = some (.slice none 0 0) := (blk_cell BK190.out 2).trans rfl; have hfz11_0 := blk_frozen BK190.out 0; have hfz11_1 := blk_frozen BK190.out 1; have hfz11_2 := blk_frozen BK190.out 2))
              go_ret2
              exact ⟨_, by first | rfl | (simp [errW_none, errW_some] <;> rfl) | (simp [*, errW_none, errW_some] <;> rfl), by first | exact Kd.S_nil _ _ _ _ _ | exact Kd.N_nil _ _ _ _ _ | exact Kd.V_nil _ _ _ _ _ | exact Kd.Q_nil _ _ _ _ _ | exact Kd.R_nil _ _ _ _ _, by repeat (first | (with_reducible first | exact HB.out | apply below_alloc | apply pw_below_drewN | apply below_drew1 | refine below_set ?_ GE190.out) | exact HB.out)⟩
             rw [if_neg c9] at H
             have c9b0 : decide (((rd_T38 l1 x25_2).f1) ≤ ((rd_T38 l1 x25_2).f0)) = false := decide_eq_false c9
             clear c9
             by_cases c12 : ((rd_T38 l1 x25_2).f0) < 0
             ·rw [if_pos c12] at H
              have c12b0 : decide (((rd_T38 l1 x25_2).f0) < 0) = true := decide_eq_true c12
              clear c12
              simp only [Option.some.injEq, Prod.mk.injEq] at H
              obtain ⟨rfl, rfl⟩ := H
              have p189 : 0 ≤ (x25_2 : Int) := of_decide_eq_true (by first | (with_reducible assumption) | assumption)
              have q189 : x25_2 < (l1.length : Int) := of_decide_eq_true (by first | (with_reducible assumption) | assumption)
              obtain ⟨ad189, A189_2, c189_2, e189, hx189_0, hx189_1, hx189_2, hl189_2, hi189_2⟩ := at_T38 HR1.out x25_2 p189 q189
              cases e189
              replace hx189_0 := (HB.out.cell (World.block_lt_of_cell? w _ hx189_0)).trans hx189_0
              replace hx189_1 := (HB.out.cell (World.block_lt_of_cell? w _ hx189_1)).trans hx189_1
              replace hx189_2 := (HB.out.cell (World.block_lt_of_cell? w _ hx189_2)).trans hx189_2
              have HR189_2 := Aside0.mk hi189_2
              have HC189_2 := Aside0.mk hl189_2
              clear hi189_2 hl189_2
              replace p189 := eq_true p189
              replace q189 := eq_true q189
              go_wp2_with (first | ((with_reducible refine gate_dst (N := 7) rfl ?_); refine box_event ?hg (N := 7) ?hd (cs := #[.int .i64 0, .int .i64 0, .slice none 0 0]) (t := 38) ?hr ?_; (case hd => rfl); (case hg => rfl); (case hr => first | (go_simp; done) | (go_simp; rfl)); intro gb190 hg w13 hbox hb; have n0_ := Aside0.mk (below_step (by repeat (first | (with_reducible first | exact HB.out | apply below_alloc | apply pw_below_drewN | apply below_drew1) | exact HB.out)) hb); have n1_ := Aside0.mk (hbox); have n2_ := Aside0.mk ((by rw [hg]; exact (below_size (by repeat (first | (with_reducible first | exact HB.out | apply below_alloc | apply pw_below_drewN | apply below_drew1) | exact HB.out))) : w.heap.size ≤ gb190)); have n3_ := Aside0.mk ((by rw [hg]; exact (below_size (by repeat (first | (with_reducible first | exact HB.out | apply below_alloc | apply pw_below_drewN | apply below_drew1) | exact HB.out))) : w.heap.size ≤ gb190)); clear HB; have HB := n0_; have BK190 := n1_; have GW190 := n2_; have GE190 := n3_; clear n0_ n1_ n2_ n3_; clear hb hbox hg; have hcz14_0 : w13.cell? ⟨gb190, 0, none⟩ = some (.int .i64 0) := (blk_cell BK190.out 0).trans rfl; have hcz14_1 : w13.cell? ⟨gb190, 1, none⟩ = some (.int .i64 0) := (blk_cell BK190.out 1).trans rfl; have hcz14_2 : w13.cell? ⟨gb190, 2, none⟩ = some (.slice none 0 0) := (blk_cell BK190.out 2).trans rfl; have hfz14_0 := blk_frozen BK190.out 0; have hfz14_1 := blk_frozen BK190.out 1; have hfz14_2 := blk_frozen BK190.out 2))
              go_ret2
              exact ⟨_, by first | rfl | (simp [errW_none, errW_some] <;> rfl) | (simp [*, errW_none, errW_some] <;> rfl), by first | exact Kd.S_nil _ _ _ _ _ | exact Kd.N_nil _ _ _ _ _ | exact Kd.V_nil _ _ _ _ _ | exact Kd.Q_nil _ _ _ _ _ | exact Kd.R_nil _ _ _ _ _, by repeat (first | (with_reducible first | exact HB.out | apply below_alloc | apply pw_below_drewN | apply below_drew1 | refine below_set ?_ GE190.out) | exact HB.out)⟩
             rw [if_neg c12] at H
             have c12b0 : decide (((rd_T38 l1 x25_2).f0) < 0) = false := decide_eq_false c12
             clear c12
             have H' := Aside0.mk H
             clear H
             have p189 : 0 ≤ (x25_2 : Int) := of_decide_eq_true (by first | (with_reducible assumption) | assumption)
             have q189 : x25_2 < (l1.length : Int) := of_decide_eq_true (by first | (with_reducible assumption) | assumption)
             obtain ⟨ad189, A189_2, c189_2, e189, hx189_0, hx189_1, hx189_2, hl189_2, hi189_2⟩ := at_T38 HR1.out x25_2 p189 q189
             cases e189
             replace hx189_0 := (HB.out.cell (World.block_lt_of_cell? w _ hx189_0)).trans hx189_0
             replace hx189_1 := (HB.out.cell (World.block_lt_of_cell? w _ hx189_1)).trans hx189_1
             replace hx189_2 := (HB.out.cell (World.block_lt_of_cell? w _ hx189_2)).trans hx189_2
             have HR189_2 := Aside0.mk hi189_2
             have HC189_2 := Aside0.mk hl189_2
             clear hi189_2 hl189_2
             replace p189 := eq_true p189
             replace q189 := eq_true q189
             go_wp2_with (first | ((with_reducible refine gate_dst (N := 7) rfl ?_); refine box_event ?hg (N := 7) ?hd (cs := #[.int .i64 0, .int .i64 0, .slice none 0 0]) (t := 38) ?hr ?_; (case hd => rfl); (case hg => rfl); (case hr => first | (go_simp; done) | (go_simp; rfl)); intro gb190 hg w15 hbox hb; have n0_ := Aside0.mk (below_step (by repeat (first | (with_reducible first | exact HB.out | apply below_alloc | apply pw_below_drewN | apply below_drew1) | exact HB.out)) hb); have n1_ := Aside0.mk (hbox); have n2_ := Aside0.mk ((by rw [hg]; exact (below_size (by repeat (first | (with_reducible first | exact HB.out | apply below_alloc | apply pw_below_drewN | apply below_drew1) | exact HB.out))) : w.heap.size ≤ gb190)); have n3_ := Aside0.mk ((by rw [hg]; exact (below_size (by repeat (first | (with_reducible first | exact HB.out | apply below_alloc | apply pw_below_drewN | apply below_drew1) | exact HB.out))) : w.heap.size ≤ gb190)); clear HB; have HB := n0_; have BK190 := n1_; have GW190 := n2_; have GE190 := n3_; clear n0_ n1_ n2_ n3_; clear hb hbox hg; have hcz16_0 : w15.cell? ⟨gb190, 0, none⟩ = some (.int .i64 0) := (blk_cell BK190.out 0).trans rfl; have hcz16_1 : w15.cell? ⟨gb190, 1, none⟩ = some (.int .i64 0) := (blk_cell BK190.out 1).trans rfl; have hcz16_2 : w15.cell? ⟨gb190, 2, none⟩ = some (.slice none 0 0) := (blk_cell BK190.out 2).trans rfl; have hfz16_0 := blk_frozen BK190.out 0; have hfz16_1 := blk_frozen BK190.out 1; have hfz16_2 := blk_frozen BK190.out 2))
             go_roundg k2
             case measure => have := HJ2.out; have := HK2.out; omega
             case rel => exact ⟨(wrap64 (x25_2 + 1)), (by first | rfl | (simp; done) | (simp [*]; done)), H', ⟨by have := HJ2.out; have := HK2.out; omega⟩, ⟨by repeat (first | (with_reducible first | exact HB.out | apply below_alloc | apply pw_below_drewN | apply below_drew1 | refine below_set ?_ GE190.out) | exact HB.out)⟩⟩
            rw [if_neg c8] at H
            exact absurd H (by simp)
           rw [if_neg c7] at H
           exact absurd H (by simp)
          rw [if_neg c6] at H
          have c6b0 : decide (x25_2 < (l1.length : Int)) = false := decide_eq_false c6
          clear c6
          have H' := Aside0.mk H
          clear H
          go_wp2
          go_loopg [8] k2 (fun kq v8 w' => ∃ (x8_3 : Int), v8 = .int .i64 x8_3 ∧ Aside0 (strategy_Choose.l1 a0 kq l1 x8_3 = some (r1, r2)) ∧ Aside0 (kq ≤ k2) ∧ Aside0 (Below w.heap.size w w'))
          case atStart => exact ⟨(1), (by first | rfl | (simp; done) | (simp [*]; done)), H', ⟨Nat.le_refl _⟩, ⟨by repeat (first | (with_reducible first | exact HB.out | apply below_alloc | apply pw_below_drewN | apply below_drew1) | exact HB.out)⟩⟩
          case round =>
            clear H'
            try clear c1
            try clear p1
            try clear q1
            try clear hx1
            try clear p2
            try clear c4
            try clear c4b0
            try clear c5
            try clear c6
            try clear c6b0
            try clear p6
            try clear c7
            try clear c7b0
            try clear c8
            try clear c8b0
            try clear c9
            try clear c9b0
            try clear c12
            try clear c12b0
            try clear hcz11_0
            try clear hcz11_1
            try clear hcz11_2
            try clear hcz14_0
            try clear hcz14_1
            try clear hcz14_2
            try clear hcz16_0
            try clear hcz16_1
            try clear hcz16_2
            try clear hfz11_0
            try clear hfz11_1
            try clear hfz11_2
            try clear hfz14_0
            try clear hfz14_1
            try clear hfz14_2
            try clear hfz16_0
            try clear hfz16_1
            try clear hfz16_2
            try clear hx189_0
            try clear hx189_1
            try clear hx189_2
            try clear p189
            try clear p2
            try clear q189
            obtain ⟨x8_3, rfl, HA, HK3, HB⟩ := hrel
            cases gk with
            | zero => exact absurd HA.out (by simp [strategy_Choose.l1])
            | succ k3 =>
              have H := HA.out
              clear HA
              simp only [strategy_Choose.l1] at H
              by_cases c17 : x8_3 < (l1.length : Int)
              ·rw [if_pos c17] at H
               have c17b0 : decide (x8_3 < (l1.length : Int)) = true := decide_eq_true c17
               clear c17
               obtain ⟨ji18, hji18⟩ : ∃ j_ : Int, (wrap64 (x8_3 - 1)) = j_ := ⟨_, rfl⟩
               replace H : (if 0 ≤ (ji18) then (if (ji18) < (l1.length : Int) then (if 0 ≤ x8_3 then ((match_Compare.f k3 ((rd_T38 l1 (ji18)).f0) ((rd_T38 l1 (ji18)).f1) ((rd_T38 l1 (ji18)).f2) ((rd_T38 l1 x8_3).f0) ((rd_T38 l1 x8_3).f1) ((rd_T38 l1 x8_3).f2)).bind fun t193 => (if t193 ≥ 0 then (some (([] : List (S38)), 6)) else (strategy_Choose.l1 a0 k3 l1 (wrap64 (x8_3 + 1))))) else (none)) else (none)) else (none)) = some (r1, r2) := by first | (rw [hji18] at H; exact H) | (simp only [hji18] at H ⊢; exact H)
               have hji18w : (IntKind.i64.wrap (x8_3 - 1)) = ji18 := (i64_w _).trans hji18
               by_cases c19 : 0 ≤ (ji18)
               ·rw [if_pos c19] at H
                have c19b0 : decide (0 ≤ (ji18)) = true := decide_eq_true c19
                clear c19
                by_cases c20 : (ji18) < (l1.length : Int)
                ·rw [if_pos c20] at H
                 have c20b0 : decide ((ji18) < (l1.length : Int)) = true := decide_eq_true c20
                 clear c20
                 by_cases c21 : 0 ≤ x8_3
                 ·rw [if_pos c21] at H
                  have c21b0 : decide (0 ≤ x8_3) = true := decide_eq_true c21
                  clear c21
                  replace H := Option.bind_eq_some_iff.mp H
                  obtain ⟨t193, A220, H⟩ := H
                  replace H : (if t193 ≥ 0 then (some (([] : List (S38)), 6)) else (strategy_Choose.l1 a0 k3 l1 (wrap64 (x8_3 + 1)))) = some (r1, r2) := H
                  have A22 := Aside0.mk A220
                  clear A220
                  by_cases c23 : t193 ≥ 0
                  ·rw [if_pos c23] at H
                   have c23b0 : decide (0 ≤ t193) = true := decide_eq_true c23
                   clear c23
                   simp only [Option.some.injEq, Prod.mk.injEq] at H
                   obtain ⟨rfl, rfl⟩ := H
                   try go_wp2
                   have n0_ := Aside0.mk (below_drew1 HB.out)
                   clear HB
                   have HB := n0_
                   clear n0_
                   have p191 : 0 ≤ ((ji18) : Int) := of_decide_eq_true (by first | (with_reducible assumption) | assumption)
                   have q191 : (ji18) < (l1.length : Int) := of_decide_eq_true (by first | (with_reducible assumption) | assumption)
                   obtain ⟨ad191, A191_2, c191_2, e191, hx191_0, hx191_1, hx191_2, hl191_2, hi191_2⟩ := at_T38 HR1.out (ji18) p191 q191
                   have hw191_2 := hx191_2
                   have hw191_1 := hx191_1
                   have hw191_0 := hx191_0
                   cases e191
                   replace hx191_0 := (HB.out.cell (World.block_lt_of_cell? w _ hx191_0)).trans hx191_0
                   replace hx191_1 := (HB.out.cell (World.block_lt_of_cell? w _ hx191_1)).trans hx191_1
                   replace hx191_2 := (HB.out.cell (World.block_lt_of_cell? w _ hx191_2)).trans hx191_2
                   have HR191_2 := Aside0.mk hi191_2
                   have HC191_2 := Aside0.mk hl191_2
                   clear hi191_2 hl191_2
                   replace p191 := eq_true p191
                   replace q191 := eq_true q191
                   have p192 : 0 ≤ (x8_3 : Int) := of_decide_eq_true (by first | (with_reducible assumption) | assumption)
                   have q192 : x8_3 < (l1.length : Int) := of_decide_eq_true (by first | (with_reducible assumption) | assumption)
                   obtain ⟨ad192, A192_2, c192_2, e192, hx192_0, hx192_1, hx192_2, hl192_2, hi192_2⟩ := at_T38 HR1.out x8_3 p192 q192
                   have hw192_2 := hx192_2
                   have hw192_1 := hx192_1
                   have hw192_0 := hx192_0
                   obtain rfl : ad191 = ad192 := (by injection e192)
                   replace hx192_0 := (HB.out.cell (World.block_lt_of_cell? w _ hx192_0)).trans hx192_0
                   replace hx192_1 := (HB.out.cell (World.block_lt_of_cell? w _ hx192_1)).trans hx192_1
                   replace hx192_2 := (HB.out.cell (World.block_lt_of_cell? w _ hx192_2)).trans hx192_2
                   have HR192_2 := Aside0.mk hi192_2
                   have HC192_2 := Aside0.mk hl192_2
                   clear hi192_2 hl192_2
                   replace p192 := eq_true p192
                   replace q192 := eq_true q192
                   refine start_ (n := 11) (S := fun w' => w'.cell? (ad191.add (((ji18)).toNat * 3)) = some (.int .i64 ((rd_T38 l1 (ji18)).f0)) ∧ w'.cell? ⟨(ad191.add (((ji18)).toNat * 3)).block, (ad191.add (((ji18)).toNat * 3)).off + 1, none⟩ = some (.int .i64 ((rd_T38 l1 (ji18)).f1)) ∧ w'.cell? ⟨(ad191.add (((ji18)).toNat * 3)).block, (ad191.add (((ji18)).toNat * 3)).off + 2, none⟩ = some (.slice A191_2 ((rd_T38 l1 (ji18)).f2).length c191_2) ∧ w'.cell? (ad191.add ((x8_3).toNat * 3)) = some (.int .i64 ((rd_T38 l1 x8_3).f0)) ∧ w'.cell? ⟨(ad191.add ((x8_3).toNat * 3)).block, (ad191.add ((x8_3).toNat * 3)).off + 1, none⟩ = some (.int .i64 ((rd_T38 l1 x8_3).f1)) ∧ w'.cell? ⟨(ad191.add ((x8_3).toNat * 3)).block, (ad191.add ((x8_3).toNat * 3)).off + 2, none⟩ = some (.slice A192_2 ((rd_T38 l1 x8_3).f2).length c192_2)) (ds := []) #[false, false, false, false, false, false, false, false, false, false, false] (by kernel_rfl) rfl rfl ⟨((HB.out.cell (World.block_lt_of_cell? w _ hw191_0)).trans hw191_0), ((HB.out.cell (World.block_lt_of_cell? w _ hw191_1)).trans hw191_1), ((HB.out.cell (World.block_lt_of_cell? w _ hw191_2)).trans hw191_2), ((HB.out.cell (World.block_lt_of_cell? w _ hw192_0)).trans hw192_0), ((HB.out.cell (World.block_lt_of_cell? w _ hw192_1)).trans hw192_1), ((HB.out.cell (World.block_lt_of_cell? w _ hw192_2)).trans hw192_2)⟩ (fun hHeld => ?_); refine with_tabW strategy_Choose.tab12 strategy_Choose.bits12 (fun HT_ HW_ => ?_)
                   generalize wr.drew = w24 at HB HR191_2 HR192_2 hx191_0 hx191_1 hx191_2 hx192_0 hx192_1 hx192_2 hHeld ⊢
                   refine pure_ (i := 0) (N := some 46) (v := ?_) (a' := ?_) #[true, false, false, false, false, false, false, false, false, false, false] rfl rfl (any_of HT_.out (by kernel_rfl)) (fun _ _ _ h => h) (Or.inl ⟨by rfl, ?_⟩) ?_ ?_
                   rotate_left
                   ·intro w'
                    go_simp
                    with_reducible rfl
                   rotate_left
                   ·simp only [Act.put, List.setIfInBounds_toArray, List.set_cons_zero, List.set_cons_succ, i64_w, i32_w]
                    rfl
                   refine pure_ (i := 1) (N := some 47) (v := ?_) (a' := ?_) #[true, true, false, false, false, false, false, false, false, false, false] rfl rfl (any_of HT_.out (by kernel_rfl)) (fun _ _ _ h => h) (Or.inl ⟨by rfl, ?_⟩) ?_ ?_
                   rotate_left
                   ·intro w'
                    go_simp
                    with_reducible rfl
                   rotate_left
                   ·simp only [Act.put, List.setIfInBounds_toArray, List.set_cons_zero, List.set_cons_succ, i64_w, i32_w]
                    rfl
                   refine pure_ (i := 2) (N := some 48) (v := ?_) (a' := ?_) #[true, true, true, false, false, false, false, false, false, false, false] rfl rfl (any_of HT_.out (by kernel_rfl)) (fun _ _ _ h => h) (Or.inl ⟨by rfl, ?_⟩) ?_ ?_
                   rotate_left
                   ·intro w'
                    go_simp
                    with_reducible rfl
                   rotate_left
                   ·simp only [Act.put, List.setIfInBounds_toArray, List.set_cons_zero, List.set_cons_succ, i64_w, i32_w]
                    rfl
                   refine pure_ (i := 3) (N := some 49) (v := ?_) (a' := ?_) #[true, true, true, true, false, false, false, false, false, false, false] rfl rfl (any_of HT_.out (by kernel_rfl)) (fun _ _ _ h => h) (Or.inl ⟨by rfl, ?_⟩) ?_ ?_
                   rotate_left
                   ·intro w'
                    go_simp
                    with_reducible rfl
                   rotate_left
                   ·simp only [Act.put, List.setIfInBounds_toArray, List.set_cons_zero, List.set_cons_succ, i64_w, i32_w]
                    rfl
                   refine pure_ (i := 5) (N := some 51) (v := ?_) (a' := ?_) #[true, true, true, true, false, true, false, false, false, false, false] rfl rfl (any_of HT_.out (by kernel_rfl)) (fun _ _ _ h => h) (Or.inl ⟨by rfl, ?_⟩) ?_ ?_
                   rotate_left
                   ·intro w'
                    go_simp
                    with_reducible rfl
                   rotate_left
                   ·simp only [Act.put, List.setIfInBounds_toArray, List.set_cons_zero, List.set_cons_succ, i64_w, i32_w]
                    rfl
                   refine pure_ (i := 6) (N := some 52) (v := ?_) (a' := ?_) #[true, true, true, true, false, true, true, false, false, false, false] rfl rfl (any_of HT_.out (by kernel_rfl)) (fun _ _ _ h => h) (Or.inl ⟨by rfl, ?_⟩) ?_ ?_
                   rotate_left
                   ·intro w'
                    go_simp
                    with_reducible rfl
                   rotate_left
                   ·simp only [Act.put, List.setIfInBounds_toArray, List.set_cons_zero, List.set_cons_succ, i64_w, i32_w]
                    rfl
                   refine pure_ (i := 7) (N := some 53) (v := ?_) (a' := ?_) #[true, true, true, true, false, true, true, true, false, false, false] rfl rfl (any_of HT_.out (by kernel_rfl)) (fun _ _ _ h => h) (Or.inl ⟨by rfl, ?_⟩) ?_ ?_
                   rotate_left
                   ·intro w'
                    go_simp
                    with_reducible rfl
                   rotate_left
                   ·simp only [Act.put, List.setIfInBounds_toArray, List.set_cons_zero, List.set_cons_succ, i64_w, i32_w]
                    rfl
                   refine take_ (i := 4) (N := some 50) (v := ?_) (a' := ?_) #[true, true, true, true, true, true, true, true, false, false, false] rfl rfl (take_ofW HT_.out HW_.out (by kernel_rfl)) (fun _ _ _ h => h) (Or.inl ⟨by rfl, ?_⟩) hHeld ?_ ?_
                   rotate_left
                   ·rintro w' ⟨s0, s1, s2, s3, s4, s5⟩
                    go_simp
                    with_reducible rfl
                   rotate_left
                   ·simp only [Act.put, List.setIfInBounds_toArray, List.set_cons_zero, List.set_cons_succ, i64_w, i32_w]
                    rfl
                   refine take_ (i := 8) (N := some 54) (v := ?_) (a' := ?_) #[true, true, true, true, true, true, true, true, true, false, false] rfl rfl (take_ofW HT_.out HW_.out (by kernel_rfl)) (fun _ _ _ h => h) (Or.inl ⟨by rfl, ?_⟩) hHeld ?_ ?_
                   rotate_left
                   ·rintro w' ⟨s0, s1, s2, s3, s4, s5⟩
                    go_simp
                    with_reducible rfl
                   rotate_left
                   ·simp only [Act.put, List.setIfInBounds_toArray, List.set_cons_zero, List.set_cons_succ, i64_w, i32_w]
                    rfl
                   refine one_ (i := 9) (N := some 55) #[true, true, true, true, true, true, true, true, true, true, false] rfl rfl (one_of HT_.out (by kernel_rfl)) (by decide) (fun K hK => ?_)
                   refine goes_ Try.func19 (by kernel_rfl) rfl #[.agg #[.int .i64 ((rd_T38 l1 (ji18)).f0), .int .i64 ((rd_T38 l1 (ji18)).f1), .slice A191_2 ((rd_T38 l1 (ji18)).f2).length c191_2], .agg #[.int .i64 ((rd_T38 l1 x8_3).f0), .int .i64 ((rd_T38 l1 x8_3).f1), .slice A192_2 ((rd_T38 l1 x8_3).f2).length c192_2]] (by rfl) rfl rfl (by (try simp only [List.map_toArray, List.map_cons, List.map_nil]); first | done | (simp only [hji18]; rfl) | rfl | (simp only [List.length_drop, List.length_take]; rfl)) ?_
                   with_reducible refine (match_Compare.calls k3 ((rd_T38 l1 (ji18)).f0) ((rd_T38 l1 (ji18)).f1) _ _ ((rd_T38 l1 (ji18)).f2) ((rd_T38 l1 x8_3).f0) ((rd_T38 l1 x8_3).f1) _ _ ((rd_T38 l1 x8_3).f2) t193 _ ?side1 ?side2 ?side3 ?side4 A22.out).mono ?_
                   (case side1 => repeat (first | exact (Kd.C_below HR191_2.out HB.out) | (with_reducible refine Kd.C_alloc ?_ _) | (with_reducible refine Kd.C_drewN ?_ _) | (with_reducible refine Kd.C_drew ?_)))
                   (case side2 => exact HC191_2.out)
                   (case side3 => repeat (first | exact (Kd.C_below HR192_2.out HB.out) | (with_reducible refine Kd.C_alloc ?_ _) | (with_reducible refine Kd.C_drewN ?_ _) | (with_reducible refine Kd.C_drew ?_)))
                   (case side4 => exact HC192_2.out)
                   rintro e w25 ⟨rfl, hb⟩
                   refine ⟨_, rfl, ?_⟩
                   have n0_ := Aside0.mk (below_step (by repeat (first | (with_reducible first | exact HB.out | apply below_alloc | apply pw_below_drewN | apply below_drew1) | exact HB.out)) hb)
                   clear HB
                   have HB := n0_
                   clear n0_
                   (try clear hb)
                   (try clear hb2)
                   (try clear hk)
                   (try clear hi)
                   refine hK.out _ _ ⟨((HB.out.cell (World.block_lt_of_cell? w _ hw191_0)).trans hw191_0), ((HB.out.cell (World.block_lt_of_cell? w _ hw191_1)).trans hw191_1), ((HB.out.cell (World.block_lt_of_cell? w _ hw191_2)).trans hw191_2), ((HB.out.cell (World.block_lt_of_cell? w _ hw192_0)).trans hw192_0), ((HB.out.cell (World.block_lt_of_cell? w _ hw192_1)).trans hw192_1), ((HB.out.cell (World.block_lt_of_cell? w _ hw192_2)).trans hw192_2)⟩ (fun hHeld => ?_)
                   clear hK K
                   refine norm_ (a' := ?_) ?_ ?_
                   rotate_left
                   ·show Act.put _ (some 55) _ = _
                    simp only [Act.put, List.setIfInBounds_toArray, List.set_cons_zero, List.set_cons_succ, i64_w, i32_w]
                    rfl
                   refine pure_ (i := 10) (N := some 56) (v := ?_) (a' := ?_) #[true, true, true, true, true, true, true, true, true, true, true] rfl rfl (any_of HT_.out (by kernel_rfl)) (fun _ _ _ h => h) (Or.inl ⟨by rfl, ?_⟩) ?_ ?_
                   rotate_left
                   ·intro w'
                    go_simp
                    with_reducible rfl
                   rotate_left
                   ·simp only [Act.put, List.setIfInBounds_toArray, List.set_cons_zero, List.set_cons_succ, i64_w, i32_w]
                    rfl
                   refine done_ (done_of HT_.out (by kernel_rfl)) ?_
                   try go_wp2
                   go_ret2
                   exact ⟨_, by first | rfl | (simp [errW_none, errW_some] <;> rfl) | (simp only [← hji18]; first | rfl | (simp [errW_none, errW_some] <;> rfl)) | (simp [*, errW_none, errW_some] <;> rfl), by first | exact Kd.S_nil _ _ _ _ _ | exact Kd.N_nil _ _ _ _ _ | exact Kd.V_nil _ _ _ _ _ | exact Kd.Q_nil _ _ _ _ _ | exact Kd.R_nil _ _ _ _ _, by repeat (first | (with_reducible first | exact HB.out | apply below_alloc | apply pw_below_drewN | apply below_drew1) | exact HB.out)⟩
                  rw [if_neg c23] at H
                  have c23b0 : decide (0 ≤ t193) = false := decide_eq_false c23
                  clear c23
                  have H' := Aside0.mk H
                  clear H
                  try go_wp2
                  have n0_ := Aside0.mk (below_drew1 HB.out)
                  clear HB
                  have HB := n0_
                  clear n0_
                  have p191 : 0 ≤ ((ji18) : Int) := of_decide_eq_true (by first | (with_reducible assumption) | assumption)
                  have q191 : (ji18) < (l1.length : Int) := of_decide_eq_true (by first | (with_reducible assumption) | assumption)
                  obtain ⟨ad191, A191_2, c191_2, e191, hx191_0, hx191_1, hx191_2, hl191_2, hi191_2⟩ := at_T38 HR1.out (ji18) p191 q191
                  have hw191_2 := hx191_2
                  have hw191_1 := hx191_1
                  have hw191_0 := hx191_0
                  cases e191
                  replace hx191_0 := (HB.out.cell (World.block_lt_of_cell? w _ hx191_0)).trans hx191_0
                  replace hx191_1 := (HB.out.cell (World.block_lt_of_cell? w _ hx191_1)).trans hx191_1
                  replace hx191_2 := (HB.out.cell (World.block_lt_of_cell? w _ hx191_2)).trans hx191_2
                  have HR191_2 := Aside0.mk hi191_2
                  have HC191_2 := Aside0.mk hl191_2
                  clear hi191_2 hl191_2
                  replace p191 := eq_true p191
                  replace q191 := eq_true q191
                  have p192 : 0 ≤ (x8_3 : Int) := of_decide_eq_true (by first | (with_reducible assumption) | assumption)
                  have q192 : x8_3 < (l1.length : Int) := of_decide_eq_true (by first | (with_reducible assumption) | assumption)
                  obtain ⟨ad192, A192_2, c192_2, e192, hx192_0, hx192_1, hx192_2, hl192_2, hi192_2⟩ := at_T38 HR1.out x8_3 p192 q192
                  have hw192_2 := hx192_2
                  have hw192_1 := hx192_1
                  have hw192_0 := hx192_0
                  obtain rfl : ad191 = ad192 := (by injection e192)
                  replace hx192_0 := (HB.out.cell (World.block_lt_of_cell? w _ hx192_0)).trans hx192_0
                  replace hx192_1 := (HB.out.cell (World.block_lt_of_cell? w _ hx192_1)).trans hx192_1
                  replace hx192_2 := (HB.out.cell (World.block_lt_of_cell? w _ hx192_2)).trans hx192_2
                  have HR192_2 := Aside0.mk hi192_2
                  have HC192_2 := Aside0.mk hl192_2
                  clear hi192_2 hl192_2
                  replace p192 := eq_true p192
                  replace q192 := eq_true q192
                  refine start_ (n := 11) (S := fun w' => w'.cell? (ad191.add (((ji18)).toNat * 3)) = some (.int .i64 ((rd_T38 l1 (ji18)).f0)) ∧ w'.cell? ⟨(ad191.add (((ji18)).toNat * 3)).block, (ad191.add (((ji18)).toNat * 3)).off + 1, none⟩ = some (.int .i64 ((rd_T38 l1 (ji18)).f1)) ∧ w'.cell? ⟨(ad191.add (((ji18)).toNat * 3)).block, (ad191.add (((ji18)).toNat * 3)).off + 2, none⟩ = some (.slice A191_2 ((rd_T38 l1 (ji18)).f2).length c191_2) ∧ w'.cell? (ad191.add ((x8_3).toNat * 3)) = some (.int .i64 ((rd_T38 l1 x8_3).f0)) ∧ w'.cell? ⟨(ad191.add ((x8_3).toNat * 3)).block, (ad191.add ((x8_3).toNat * 3)).off + 1, none⟩ = some (.int .i64 ((rd_T38 l1 x8_3).f1)) ∧ w'.cell? ⟨(ad191.add ((x8_3).toNat * 3)).block, (ad191.add ((x8_3).toNat * 3)).off + 2, none⟩ = some (.slice A192_2 ((rd_T38 l1 x8_3).f2).length c192_2)) (ds := []) #[false, false, false, false, false, false, false, false, false, false, false] (by kernel_rfl) rfl rfl ⟨((HB.out.cell (World.block_lt_of_cell? w _ hw191_0)).trans hw191_0), ((HB.out.cell (World.block_lt_of_cell? w _ hw191_1)).trans hw191_1), ((HB.out.cell (World.block_lt_of_cell? w _ hw191_2)).trans hw191_2), ((HB.out.cell (World.block_lt_of_cell? w _ hw192_0)).trans hw192_0), ((HB.out.cell (World.block_lt_of_cell? w _ hw192_1)).trans hw192_1), ((HB.out.cell (World.block_lt_of_cell? w _ hw192_2)).trans hw192_2)⟩ (fun hHeld => ?_); refine with_tabW strategy_Choose.tab12 strategy_Choose.bits12 (fun HT_ HW_ => ?_)
                  generalize wr.drew = w26 at HB HR191_2 HR192_2 hx191_0 hx191_1 hx191_2 hx192_0 hx192_1 hx192_2 hHeld ⊢
                  refine pure_ (i := 0) (N := some 46) (v := ?_) (a' := ?_) #[true, false, false, false, false, false, false, false, false, false, false] rfl rfl (any_of HT_.out (by kernel_rfl)) (fun _ _ _ h => h) (Or.inl ⟨by rfl, ?_⟩) ?_ ?_
                  rotate_left
                  ·intro w'
                   go_simp
                   with_reducible rfl
                  rotate_left
                  ·simp only [Act.put, List.setIfInBounds_toArray, List.set_cons_zero, List.set_cons_succ, i64_w, i32_w]
                   rfl
                  refine pure_ (i := 1) (N := some 47) (v := ?_) (a' := ?_) #[true, true, false, false, false, false, false, false, false, false, false] rfl rfl (any_of HT_.out (by kernel_rfl)) (fun _ _ _ h => h) (Or.inl ⟨by rfl, ?_⟩) ?_ ?_
                  rotate_left
                  ·intro w'
                   go_simp
                   with_reducible rfl
                  rotate_left
                  ·simp only [Act.put, List.setIfInBounds_toArray, List.set_cons_zero, List.set_cons_succ, i64_w, i32_w]
                   rfl
                  refine pure_ (i := 2) (N := some 48) (v := ?_) (a' := ?_) #[true, true, true, false, false, false, false, false, false, false, false] rfl rfl (any_of HT_.out (by kernel_rfl)) (fun _ _ _ h => h) (Or.inl ⟨by rfl, ?_⟩) ?_ ?_
                  rotate_left
                  ·intro w'
                   go_simp
                   with_reducible rfl
                  rotate_left
                  ·simp only [Act.put, List.setIfInBounds_toArray, List.set_cons_zero, List.set_cons_succ, i64_w, i32_w]
                   rfl
                  refine pure_ (i := 3) (N := some 49) (v := ?_) (a' := ?_) #[true, true, true, true, false, false, false, false, false, false, false] rfl rfl (any_of HT_.out (by kernel_rfl)) (fun _ _ _ h => h) (Or.inl ⟨by rfl, ?_⟩) ?_ ?_
                  rotate_left
                  ·intro w'
                   go_simp
                   with_reducible rfl
                  rotate_left
                  ·simp only [Act.put, List.setIfInBounds_toArray, List.set_cons_zero, List.set_cons_succ, i64_w, i32_w]
                   rfl
                  refine pure_ (i := 5) (N := some 51) (v := ?_) (a' := ?_) #[true, true, true, true, false, true, false, false, false, false, false] rfl rfl (any_of HT_.out (by kernel_rfl)) (fun _ _ _ h => h) (Or.inl ⟨by rfl, ?_⟩) ?_ ?_
                  rotate_left
                  ·intro w'
                   go_simp
                   with_reducible rfl
                  rotate_left
                  ·simp only [Act.put, List.setIfInBounds_toArray, List.set_cons_zero, List.set_cons_succ, i64_w, i32_w]
                   rfl
                  refine pure_ (i := 6) (N := some 52) (v := ?_) (a' := ?_) #[true, true, true, true, false, true, true, false, false, false, false] rfl rfl (any_of HT_.out (by kernel_rfl)) (fun _ _ _ h => h) (Or.inl ⟨by rfl, ?_⟩) ?_ ?_
                  rotate_left
                  ·intro w'
                   go_simp
                   with_reducible rfl
                  rotate_left
                  ·simp only [Act.put, List.setIfInBounds_toArray, List.set_cons_zero, List.set_cons_succ, i64_w, i32_w]
                   rfl
                  refine pure_ (i := 7) (N := some 53) (v := ?_) (a' := ?_) #[true, true, true, true, false, true, true, true, false, false, false] rfl rfl (any_of HT_.out (by kernel_rfl)) (fun _ _ _ h => h) (Or.inl ⟨by rfl, ?_⟩) ?_ ?_
                  rotate_left
                  ·intro w'
                   go_simp
                   with_reducible rfl
                  rotate_left
                  ·simp only [Act.put, List.setIfInBounds_toArray, List.set_cons_zero, List.set_cons_succ, i64_w, i32_w]
                   rfl
                  refine take_ (i := 4) (N := some 50) (v := ?_) (a' := ?_) #[true, true, true, true, true, true, true, true, false, false, false] rfl rfl (take_ofW HT_.out HW_.out (by kernel_rfl)) (fun _ _ _ h => h) (Or.inl ⟨by rfl, ?_⟩) hHeld ?_ ?_
                  rotate_left
                  ·rintro w' ⟨s0, s1, s2, s3, s4, s5⟩
                   go_simp
                   with_reducible rfl
                  rotate_left
                  ·simp only [Act.put, List.setIfInBounds_toArray, List.set_cons_zero, List.set_cons_succ, i64_w, i32_w]
                   rfl
                  refine take_ (i := 8) (N := some 54) (v := ?_) (a' := ?_) #[true, true, true, true, true, true, true, true, true, false, false] rfl rfl (take_ofW HT_.out HW_.out (by kernel_rfl)) (fun _ _ _ h => h) (Or.inl ⟨by rfl, ?_⟩) hHeld ?_ ?_
                  rotate_left
                  ·rintro w' ⟨s0, s1, s2, s3, s4, s5⟩
                   go_simp
                   with_reducible rfl
                  rotate_left
                  ·simp only [Act.put, List.setIfInBounds_toArray, List.set_cons_zero, List.set_cons_succ, i64_w, i32_w]
                   rfl
                  refine one_ (i := 9) (N := some 55) #[true, true, true, true, true, true, true, true, true, true, false] rfl rfl (one_of HT_.out (by kernel_rfl)) (by decide) (fun K hK => ?_)
                  refine goes_ Try.func19 (by kernel_rfl) rfl #[.agg #[.int .i64 ((rd_T38 l1 (ji18)).f0), .int .i64 ((rd_T38 l1 (ji18)).f1), .slice A191_2 ((rd_T38 l1 (ji18)).f2).length c191_2], .agg #[.int .i64 ((rd_T38 l1 x8_3).f0), .int .i64 ((rd_T38 l1 x8_3).f1), .slice A192_2 ((rd_T38 l1 x8_3).f2).length c192_2]] (by rfl) rfl rfl (by (try simp only [List.map_toArray, List.map_cons, List.map_nil]); first | done | (simp only [hji18]; rfl) | rfl | (simp only [List.length_drop, List.length_take]; rfl)) ?_
                  with_reducible refine (match_Compare.calls k3 ((rd_T38 l1 (ji18)).f0) ((rd_T38 l1 (ji18)).f1) _ _ ((rd_T38 l1 (ji18)).f2) ((rd_T38 l1 x8_3).f0) ((rd_T38 l1 x8_3).f1) _ _ ((rd_T38 l1 x8_3).f2) t193 _ ?side1 ?side2 ?side3 ?side4 A22.out).mono ?_
                  (case side1 => repeat (first | exact (Kd.C_below HR191_2.out HB.out) | (with_reducible refine Kd.C_alloc ?_ _) | (with_reducible refine Kd.C_drewN ?_ _) | (with_reducible refine Kd.C_drew ?_)))
                  (case side2 => exact HC191_2.out)
                  (case side3 => repeat (first | exact (Kd.C_below HR192_2.out HB.out) | (with_reducible refine Kd.C_alloc ?_ _) | (with_reducible refine Kd.C_drewN ?_ _) | (with_reducible refine Kd.C_drew ?_)))
                  (case side4 => exact HC192_2.out)
                  rintro e w27 ⟨rfl, hb⟩
                  refine ⟨_, rfl, ?_⟩
                  have n0_ := Aside0.mk (below_step (by repeat (first | (with_reducible first | exact HB.out | apply below_alloc | apply pw_below_drewN | apply below_drew1) | exact HB.out)) hb)
                  clear HB
                  have HB := n0_
                  clear n0_
                  (try clear hb)
                  (try clear hb2)
                  (try clear hk)
                  (try clear hi)
                  refine hK.out _ _ ⟨((HB.out.cell (World.block_lt_of_cell? w _ hw191_0)).trans hw191_0), ((HB.out.cell (World.block_lt_of_cell? w _ hw191_1)).trans hw191_1), ((HB.out.cell (World.block_lt_of_cell? w _ hw191_2)).trans hw191_2), ((HB.out.cell (World.block_lt_of_cell? w _ hw192_0)).trans hw192_0), ((HB.out.cell (World.block_lt_of_cell? w _ hw192_1)).trans hw192_1), ((HB.out.cell (World.block_lt_of_cell? w _ hw192_2)).trans hw192_2)⟩ (fun hHeld => ?_)
                  clear hK K
                  refine norm_ (a' := ?_) ?_ ?_
                  rotate_left
                  ·show Act.put _ (some 55) _ = _
                   simp only [Act.put, List.setIfInBounds_toArray, List.set_cons_zero, List.set_cons_succ, i64_w, i32_w]
                   rfl
                  refine pure_ (i := 10) (N := some 56) (v := ?_) (a' := ?_) #[true, true, true, true, true, true, true, true, true, true, true] rfl rfl (any_of HT_.out (by kernel_rfl)) (fun _ _ _ h => h) (Or.inl ⟨by rfl, ?_⟩) ?_ ?_
                  rotate_left
                  ·intro w'
                   go_simp
                   with_reducible rfl
                  rotate_left
                  ·simp only [Act.put, List.setIfInBounds_toArray, List.set_cons_zero, List.set_cons_succ, i64_w, i32_w]
                   rfl
                  refine done_ (done_of HT_.out (by kernel_rfl)) ?_
                  try go_wp2
                  go_roundg k3
                  case measure => have := HJ2.out; have := HK2.out; have := HK3.out; omega
                  case rel => exact ⟨(wrap64 (x8_3 + 1)), (by first | rfl | (simp; done) | (simp [*]; done)), H', ⟨by have := HJ2.out; have := HK2.out; have := HK3.out; omega⟩, ⟨by repeat (first | (with_reducible first | exact HB.out | apply below_alloc | apply pw_below_drewN | apply below_drew1) | exact HB.out)⟩⟩
                 rw [if_neg c21] at H
                 exact absurd H (by simp)
                rw [if_neg c20] at H
                exact absurd H (by simp)
               rw [if_neg c19] at H
               exact absurd H (by simp)
              rw [if_neg c17] at H
              have c17b0 : decide (x8_3 < (l1.length : Int)) = false := decide_eq_false c17
              clear c17
              replace H := Option.bind_eq_some_iff.mp H
              obtain ⟨t194, A280, H⟩ := H
              replace H : ((pick k3 a0 t194).bind fun t197 => (strategy_Choose.l2 k3 t197 ([] : List (S38)) l1 (l1.length : Int) 0)) = some (r1, r2) := H
              have A28 := Aside0.mk A280
              clear A280
              replace H := Option.bind_eq_some_iff.mp H
              obtain ⟨t197, A290, H⟩ := H
              replace H : (strategy_Choose.l2 k3 t197 ([] : List (S38)) l1 (l1.length : Int) 0) = some (r1, r2) := H
              have A29 := Aside0.mk A290
              clear A290
              have H' := Aside0.mk H
              clear H
              go_upto_region 16 with (first | ((with_reducible refine gate_callee (f := 16) rfl ?_); refine goesL_ (some 58) rfl rfl Try.func16 (by kernel_rfl) rfl #[.slice A1 l1.length c1] rfl (by (try simp only [List.map_toArray, List.map_cons, List.map_nil]); first | done | rfl | (simp only [List.length_drop, List.length_take]; rfl)) ?_; (with_reducible refine (strategy_Spans.calls k3 _ _ l1 t194 _ ?side1 ?side2 A28.out).mono ?_); (case side1 => repeat (first | exact (Kd.C_below HR1.out HB.out) | (with_reducible refine Kd.C_alloc ?_ _) | (with_reducible refine Kd.C_drewN ?_ _) | (with_reducible refine Kd.C_drew ?_))); (case side2 => exact HC1.out); rintro e w30 ⟨v195, rfl, ho0, hb⟩; refine ⟨_, rfl, ?_⟩; have n0_ := Aside0.mk (Kd.R_lower ho0 (below_size (by repeat (first | (with_reducible first | exact HB.out | apply below_alloc | apply pw_below_drewN | apply below_drew1) | exact HB.out)))); have n1_ := Aside0.mk (below_step (by repeat (first | (with_reducible first | exact HB.out | apply below_alloc | apply pw_below_drewN | apply below_drew1) | exact HB.out)) hb); clear HB; have HO196 := n0_; have HB := n1_; clear n0_ n1_; (try clear hb); (try clear hb2); (try clear hk); (try clear hi); (try clear ho0); obtain ⟨Ao31, co31, eo31⟩ := Kd.R_slice HO196.out; subst eo31) | fail)
              go_cut [11] (fun v11 wc => Aside0 (Kd.R k40 40 wc w.heap.size (fun _ => True) v11 t197) ∧ Aside0 (Below w.heap.size w wc))
              case first =>
                clear H'
                rcases pick_cases A29.out with e_ | e_ | e_ | e_
                ·obtain rfl : a0 = 0 := e_
                 skip
                 go_wp2_with fail
                 refine (pick_own 24 rfl (by (with_reducible repeat (first | apply Kd.R_alloc | apply Kd.R_drewN | apply Kd.R_drew)); exact HO196.out) (by repeat (first | (with_reducible first | exact HB.out | apply below_alloc | apply pw_below_drewN | apply below_drew1) | exact HB.out)) A29.out).mono ?_
                 rintro e w32 ⟨v198, rfl, ho0, hb⟩
                 have HO199 := Aside0.mk ho0
                 have HB9 := Aside0.mk hb
                 clear ho0 hb
                 go_wp2
                 go_meet
                 case rel => exact ⟨HO199, HB9⟩
                ·obtain rfl : a0 = 1 := e_
                 skip
                 go_wp2_with fail
                 refine (pick_own 25 rfl (by (with_reducible repeat (first | apply Kd.R_alloc | apply Kd.R_drewN | apply Kd.R_drew)); exact HO196.out) (by repeat (first | (with_reducible first | exact HB.out | apply below_alloc | apply pw_below_drewN | apply below_drew1) | exact HB.out)) A29.out).mono ?_
                 rintro e w32 ⟨v198, rfl, ho0, hb⟩
                 have HO199 := Aside0.mk ho0
                 have HB9 := Aside0.mk hb
                 clear ho0 hb
                 go_wp2
                 go_meet
                 case rel => exact ⟨HO199, HB9⟩
                ·obtain rfl : a0 = 2 := e_
                 skip
                 go_wp2_with fail
                 refine (pick_own 26 rfl (by (with_reducible repeat (first | apply Kd.R_alloc | apply Kd.R_drewN | apply Kd.R_drew)); exact HO196.out) (by repeat (first | (with_reducible first | exact HB.out | apply below_alloc | apply pw_below_drewN | apply below_drew1) | exact HB.out)) A29.out).mono ?_
                 rintro e w32 ⟨v198, rfl, ho0, hb⟩
                 have HO199 := Aside0.mk ho0
                 have HB9 := Aside0.mk hb
                 clear ho0 hb
                 go_wp2
                 go_meet
                 case rel => exact ⟨HO199, HB9⟩
                obtain rfl : a0 = 3 := e_
                skip
                go_wp2_with fail
                refine (pick_own 27 rfl (by (with_reducible repeat (first | apply Kd.R_alloc | apply Kd.R_drewN | apply Kd.R_drew)); exact HO196.out) (by repeat (first | (with_reducible first | exact HB.out | apply below_alloc | apply pw_below_drewN | apply below_drew1) | exact HB.out)) A29.out).mono ?_
                rintro e w32 ⟨v198, rfl, ho0, hb⟩
                have HO199 := Aside0.mk ho0
                have HB9 := Aside0.mk hb
                clear ho0 hb
                go_wp2
                go_meet
                case rel => exact ⟨HO199, HB9⟩
              case rest =>
                obtain ⟨HO199, HB⟩ := hcut
                clear HO196
                go_wp2_with fail
                go_loopg [12, 75] k3 (fun kq v12 v75 w' => ∃ (x12_4 : List (S38)) (x75_4 : Int), v75 = .int .i64 x75_4 ∧ Aside0 (strategy_Choose.l2 kq t197 x12_4 l1 (l1.length : Int) x75_4 = some (r1, r2)) ∧ Aside0 (kq ≤ k3) ∧ Aside0 (Kd.R k40 40 w' w.heap.size (fun _ => True) u11 t197) ∧ Aside0 (Kd.S k38 38 w' w.heap.size (fun _ => True) v12 x12_4) ∧ Aside0 (Below w.heap.size w w'))
                case atStart => exact ⟨(([] : List (S38))), (0), (by first | rfl | (simp; done) | (simp [*]; done)), H', ⟨Nat.le_refl _⟩, ⟨by (with_reducible repeat (first | apply Kd.R_alloc | apply Kd.R_drewN | apply Kd.R_drew)); exact Kd.R_mono HO199.out (fun _ hk => trivial)⟩, ⟨by first | exact Kd.S_nil _ _ _ _ _ | exact Kd.N_nil _ _ _ _ _ | exact Kd.V_nil _ _ _ _ _ | exact Kd.Q_nil _ _ _ _ _ | exact Kd.R_nil _ _ _ _ _⟩, ⟨by repeat (first | (with_reducible first | exact HB.out | apply below_alloc | apply pw_below_drewN | apply below_drew1) | exact HB.out)⟩⟩
                case round =>
                  clear H'
                  try clear c1
                  try clear p1
                  try clear q1
                  try clear hx1
                  try clear c2
                  try clear p2
                  try clear c4
                  try clear c4b0
                  try clear c5
                  try clear c6
                  try clear c6b0
                  try clear p6
                  try clear c7
                  try clear c7b0
                  try clear c8
                  try clear c8b0
                  try clear c9
                  try clear c9b0
                  try clear c12
                  try clear c12b0
                  try clear c16
                  try clear c17
                  try clear c17b0
                  try clear c18
                  try clear p18
                  try clear q18
                  try clear hx18
                  try clear c19
                  try clear c19b0
                  try clear p19
                  try clear q19
                  try clear hx19
                  try clear c20
                  try clear c20b0
                  try clear c21
                  try clear c21b0
                  try clear c23
                  try clear c23b0
                  try clear c25
                  try clear hcz11_0
                  try clear hcz11_1
                  try clear hcz11_2
                  try clear hcz14_0
                  try clear hcz14_1
                  try clear hcz14_2
                  try clear hcz16_0
                  try clear hcz16_1
                  try clear hcz16_2
                  try clear hfz11_0
                  try clear hfz11_1
                  try clear hfz11_2
                  try clear hfz14_0
                  try clear hfz14_1
                  try clear hfz14_2
                  try clear hfz16_0
                  try clear hfz16_1
                  try clear hfz16_2
                  try clear hx189_0
                  try clear hx189_1
                  try clear hx189_2
                  try clear hx191_0
                  try clear hx191_1
                  try clear hx191_2
                  try clear hx192_0
                  try clear hx192_1
                  try clear hx192_2
                  try clear p1
                  try clear p189
                  try clear p191
                  try clear p192
                  try clear p2
                  try clear p6
                  try clear q1
                  try clear q189
                  try clear q191
                  try clear q192
                  obtain ⟨x12_4, x75_4, rfl, HA, HK4, HO_11, HO_12, HB⟩ := hrel
                  cases gk with
                  | zero => exact absurd HA.out (by simp [strategy_Choose.l2])
                  | succ k4 =>
                    have H := HA.out
                    clear HA
                    simp only [strategy_Choose.l2] at H
                    by_cases c33 : x75_4 < (l1.length : Int)
                    ·rw [if_pos c33] at H
                     have c33b0 : decide (x75_4 < (l1.length : Int)) = true := decide_eq_true c33
                     clear c33
                     by_cases c34 : 0 ≤ x75_4
                     ·rw [if_pos c34] at H
                      have c34b0 : decide (0 ≤ x75_4) = true := decide_eq_true c34
                      clear c34
                      by_cases c35 : x75_4 < (l1.length : Int)
                      ·rw [if_pos c35] at H
                       have c35b0 : decide (x75_4 < (l1.length : Int)) = true := decide_eq_true c35
                       clear c35
                       replace H := Option.bind_eq_some_iff.mp H
                       obtain ⟨⟨t202, t203⟩, A360, H⟩ := H
                       replace H : ((api_Span_28.f k4 t197 t202 t203).bind fun bt204 => (if bt204.2 = true then ((slices_Clone_int_int.f ((rd_T38 l1 x75_4).f2)).bind fun t206 => (if x12_4.length < 3518437208883 then (strategy_Choose.l2 k4 t197 (x12_4 ++ [(⟨(rd_T38 l1 x75_4).f0, (rd_T38 l1 x75_4).f1, t206⟩ : S38)]) l1 (l1.length : Int) (wrap64 (x75_4 + 1))) else (none))) else (strategy_Choose.l2 k4 t197 x12_4 l1 (l1.length : Int) (wrap64 (x75_4 + 1))))) = some (r1, r2) := H
                       have A36 := Aside0.mk A360
                       clear A360
                       replace H := Option.bind_eq_some_iff.mp H
                       obtain ⟨⟨t204, t205⟩, A370, H⟩ := H
                       replace H : (if t205 = true then ((slices_Clone_int_int.f ((rd_T38 l1 x75_4).f2)).bind fun t206 => (if x12_4.length < 3518437208883 then (strategy_Choose.l2 k4 t197 (x12_4 ++ [(⟨(rd_T38 l1 x75_4).f0, (rd_T38 l1 x75_4).f1, t206⟩ : S38)]) l1 (l1.length : Int) (wrap64 (x75_4 + 1))) else (none))) else (strategy_Choose.l2 k4 t197 x12_4 l1 (l1.length : Int) (wrap64 (x75_4 + 1)))) = some (r1, r2) := H
                       have A37 := Aside0.mk A370
                       clear A370
                       by_cases c38 : t205 = true
                       ·subst c38
                        have H1 : ((slices_Clone_int_int.f ((rd_T38 l1 x75_4).f2)).bind fun t206 => (if x12_4.length < 3518437208883 then (strategy_Choose.l2 k4 t197 (x12_4 ++ [(⟨(rd_T38 l1 x75_4).f0, (rd_T38 l1 x75_4).f1, t206⟩ : S38)]) l1 (l1.length : Int) (wrap64 (x75_4 + 1))) else (none))) = some (r1, r2) := by rw [if_pos rfl] at H; exact H
                        clear H
                        have H := H1
                        clear H1
                        replace H := Option.bind_eq_some_iff.mp H
                        obtain ⟨t206, A390, H⟩ := H
                        replace H : (if x12_4.length < 3518437208883 then (strategy_Choose.l2 k4 t197 (x12_4 ++ [(⟨(rd_T38 l1 x75_4).f0, (rd_T38 l1 x75_4).f1, t206⟩ : S38)]) l1 (l1.length : Int) (wrap64 (x75_4 + 1))) else (none)) = some (r1, r2) := H
                        have A39 := Aside0.mk A390
                        clear A390
                        by_cases c40 : x12_4.length < 3518437208883
                        ·rw [if_pos c40] at H
                         have LMc40 := Aside0.mk c40
                         clear c40
                         obtain ⟨y209, hy209⟩ : ∃ y_ : List (S38), y_ = (x12_4 ++ [(⟨(rd_T38 l1 x75_4).f0, (rd_T38 l1 x75_4).f1, t206⟩ : S38)]) := ⟨_, rfl⟩
                         replace H : (strategy_Choose.l2 k4 t197 y209 l1 (l1.length : Int) (wrap64 (x75_4 + 1))) = some (r1, r2) := by first | (rw [hy209]; with_reducible exact H) | (have H2_ := (Option.bind_some _ _).symm.trans H; rw [hy209]; with_reducible exact H2_) | (have H2_ := (Option.bind_some _ _).symm.trans H; with_reducible exact H2_) | with_reducible exact H | (rw [hy209]; exact H) | exact H
                         have Ny209 := Aside0.mk hy209
                         clear hy209
                         have H' := Aside0.mk H
                         clear H
                         have p200 : 0 ≤ (x75_4 : Int) := of_decide_eq_true (by first | (with_reducible assumption) | assumption)
                         have q200 : x75_4 < (l1.length : Int) := of_decide_eq_true (by first | (with_reducible assumption) | assumption)
                         obtain ⟨ad200, A200_2, c200_2, e200, hx200_0, hx200_1, hx200_2, hl200_2, hi200_2⟩ := at_T38 HR1.out x75_4 p200 q200
                         cases e200
                         replace hx200_0 := (HB.out.cell (World.block_lt_of_cell? w _ hx200_0)).trans hx200_0
                         replace hx200_1 := (HB.out.cell (World.block_lt_of_cell? w _ hx200_1)).trans hx200_1
                         replace hx200_2 := (HB.out.cell (World.block_lt_of_cell? w _ hx200_2)).trans hx200_2
                         have HR200_2 := Aside0.mk hi200_2
                         have HC200_2 := Aside0.mk hl200_2
                         clear hi200_2 hl200_2
                         replace p200 := eq_true p200
                         replace q200 := eq_true q200
                         try go_wp2_with (first | ((with_reducible refine gate_dst (N := 14) rfl ?_); refine box_event ?hg (N := 14) ?hd (cs := #[.int .i64 0, .int .i64 0, .slice none 0 0]) (t := 38) ?hr ?_; (case hd => rfl); (case hg => rfl); (case hr => first | (go_simp; done) | (go_simp; rfl)); intro gb201 hg w41 hbox hb; have n0_ := Aside0.mk (Kd.R_below (by (with_reducible repeat (first | apply Kd.R_alloc | apply Kd.R_drewN | apply Kd.R_drew)); exact HO_11.out) hb); have n1_ := Aside0.mk (Kd.S_below (Kd.S_elderB (by (with_reducible repeat (first | apply Kd.S_alloc | apply Kd.S_drewN | apply Kd.S_drew)); exact HO_12.out) gb201 (Nat.le_of_eq hg.symm)) hb); have n2_ := Aside0.mk (below_step (by repeat (first | (with_reducible first | exact HB.out | apply below_alloc | apply pw_below_drewN | apply below_drew1) | exact HB.out)) hb); have n3_ := Aside0.mk (hbox); have n4_ := Aside0.mk ((by rw [hg]; exact (below_size (by repeat (first | (with_reducible first | exact HB.out | apply below_alloc | apply pw_below_drewN | apply below_drew1) | exact HB.out))) : w.heap.size ≤ gb201)); have n5_ := Aside0.mk ((by rw [hg]; exact (below_size (by repeat (first | (with_reducible first | exact HB.out | apply below_alloc | apply pw_below_drewN | apply below_drew1) | exact HB.out))) : w.heap.size ≤ gb201)); clear HO_11; clear HO_12; clear HB; have HO_11 := n0_; have HO_12 := n1_; have HB := n2_; have BK201 := n3_; have GW201 := n4_; have GE201 := n5_; clear n0_ n1_ n2_ n3_ n4_ n5_; clear hb hbox hg; have hcz42_0 : w41.cell? ⟨gb201, 0, none⟩ = some (.int .i64 0) := (blk_cell BK201.out 0).trans rfl; have hcz42_1 : w41.cell? ⟨gb201, 1, none⟩ = some (.int .i64 0) := (blk_cell BK201.out 1).trans rfl; have hcz42_2 : w41.cell? ⟨gb201, 2, none⟩ = some (.slice none 0 0) := (blk_cell BK201.out 2).trans rfl; have hfz42_0 := blk_frozen BK201.out 0; have hfz42_1 := blk_frozen BK201.out 1; have hfz42_2 := blk_frozen BK201.out 2) | ((with_reducible refine gate_callee (f := 29) rfl ?_); refine goesL_ (some 82) rfl rfl Try.func29 (by kernel_rfl) rfl #[.agg #[.int .i64 ((rd_T38 l1 x75_4).f0), .int .i64 ((rd_T38 l1 x75_4).f1), .slice A200_2 ((rd_T38 l1 x75_4).f2).length c200_2]] rfl (by (try simp only [List.map_toArray, List.map_cons, List.map_nil]); first | done | rfl | (simp only [List.length_drop, List.length_take]; rfl)) ?_; (with_reducible refine (strategy_span.calls ((rd_T38 l1 x75_4).f0) ((rd_T38 l1 x75_4).f1) _ _ ((rd_T38 l1 x75_4).f2) t202 t203 _ ?side1 ?side2 A36.out).mono ?_); (case side1 => exact Kd.C_below HR200_2.out (by repeat (first | (with_reducible first | exact HB.out | apply below_alloc | apply pw_below_drewN | apply below_drew1 | refine below_set ?_ GE201.out) | exact HB.out))); (case side2 => exact HC200_2.out); rintro e w43 ⟨rfl, hb⟩; refine ⟨_, rfl, ?_⟩; have n0_ := Aside0.mk (Kd.R_below (by (with_reducible repeat (first | apply Kd.R_alloc | apply Kd.R_drewN | apply Kd.R_drew)); exact (Kd.R_mono (Kd.R_far (p := ⟨gb201, 2, none⟩) (Kd.R_far (p := ⟨gb201, 1, none⟩) (Kd.R_far (p := ⟨gb201, 0, none⟩) (Kd.R_types HO_11.out BK201.out (by decide)) (fun _ hk => hk.2) (.int .i64 ((rd_T38 l1 x75_4).f0))) (fun _ hk => hk.2) (.int .i64 ((rd_T38 l1 x75_4).f1))) (fun _ hk => hk.2) (.slice A200_2 ((rd_T38 l1 x75_4).f2).length c200_2)) (fun _ h_ => h_.1))) hb); have n1_ := Aside0.mk (Kd.S_below (by (with_reducible repeat (first | apply Kd.S_alloc | apply Kd.S_drewN | apply Kd.S_drew)); exact (Kd.S_mono (Kd.S_far (p := ⟨gb201, 2, none⟩) (Kd.S_far (p := ⟨gb201, 1, none⟩) (Kd.S_far (p := ⟨gb201, 0, none⟩) (Kd.S_mono HO_12.out (fun k_ hk => (⟨hk, hk.2⟩ : _ ∧ k_ ≠ gb201))) (fun _ hk => hk.2) (.int .i64 ((rd_T38 l1 x75_4).f0))) (fun _ hk => hk.2) (.int .i64 ((rd_T38 l1 x75_4).f1))) (fun _ hk => hk.2) (.slice A200_2 ((rd_T38 l1 x75_4).f2).length c200_2)) (fun _ h_ => h_.1))) hb); have n2_ := Aside0.mk (blk_below (g := gb201) (o := .cells #[.int .i64 ((rd_T38 l1 x75_4).f0), .int .i64 ((rd_T38 l1 x75_4).f1), .slice A200_2 ((rd_T38 l1 x75_4).f2).length c200_2] 38 (0, 0)) (by (with_reducible repeat (first | refine blk_drewN ?_ _ | refine blk_drew ?_ | refine blk_alloc ?_ _)); refine blk_put (cs := #[.int .i64 ((rd_T38 l1 x75_4).f0), .int .i64 ((rd_T38 l1 x75_4).f1), .slice none 0 0]) ?_ 2 _ rfl; (with_reducible repeat (first | refine blk_drewN ?_ _ | refine blk_drew ?_ | refine blk_alloc ?_ _)); refine blk_put (cs := #[.int .i64 ((rd_T38 l1 x75_4).f0), .int .i64 0, .slice none 0 0]) ?_ 1 _ rfl; (with_reducible repeat (first | refine blk_drewN ?_ _ | refine blk_drew ?_ | refine blk_alloc ?_ _)); refine blk_put (cs := #[.int .i64 0, .int .i64 0, .slice none 0 0]) ?_ 0 _ rfl; (with_reducible repeat (first | refine blk_drewN ?_ _ | refine blk_drew ?_ | refine blk_alloc ?_ _)); exact BK201.out) hb); have n3_ := Aside0.mk (below_step (by repeat (first | (with_reducible first | exact HB.out | apply below_alloc | apply pw_below_drewN | apply below_drew1 | refine below_set ?_ GE201.out) | exact HB.out)) hb); clear HO_11; clear HO_12; clear BK201; clear HB; have HO_11 := n0_; have HO_12 := n1_; have BK201 := n2_; have HB := n3_; clear n0_ n1_ n2_ n3_; (try clear hb); (try clear hb2); (try clear hk); (try clear hi); obtain ⟨Ao44, co44, eo44⟩ := Kd.R_slice HO_11.out; subst eo44) | ((with_reducible refine gate_callee (f := 28) rfl ?_); refine goesL_ (some 83) rfl rfl Try.func28 (by kernel_rfl) rfl #[.slice Ao44 t197.length co44, .agg #[.int .i64 t202, .int .i64 t203], .func (.func 30) #[] #[]] rfl (by (try simp only [List.map_toArray, List.map_cons, List.map_nil]); first | done | rfl | (simp only [List.length_drop, List.length_take]; rfl)) ?_; (with_reducible refine (api_Span_28.calls k4 _ _ t197 t202 t203 t204 true _ ?side1 ?side2 A37.out).mono ?_); (case side1 => repeat (first | exact (Kd.R_reads' HO_11.out).2.2 | (with_reducible refine Kd.C_alloc ?_ _) | (with_reducible refine Kd.C_drewN ?_ _) | (with_reducible refine Kd.C_drew ?_))); (case side2 => exact (Kd.R_reads' HO_11.out).2.1); rintro e w45 ⟨rfl, hb⟩; refine ⟨_, rfl, ?_⟩; have n0_ := Aside0.mk (Kd.R_below (by (with_reducible repeat (first | apply Kd.R_alloc | apply Kd.R_drewN | apply Kd.R_drew)); exact HO_11.out) hb); have n1_ := Aside0.mk (Kd.S_below (by (with_reducible repeat (first | apply Kd.S_alloc | apply Kd.S_drewN | apply Kd.S_drew)); exact HO_12.out) hb); have n2_ := Aside0.mk (blk_below (g := gb201) (o := .cells #[.int .i64 ((rd_T38 l1 x75_4).f0), .int .i64 ((rd_T38 l1 x75_4).f1), .slice A200_2 ((rd_T38 l1 x75_4).f2).length c200_2] 38 (0, 0)) (by (with_reducible repeat (first | refine blk_drewN ?_ _ | refine blk_drew ?_ | refine blk_alloc ?_ _)); exact BK201.out) hb); have n3_ := Aside0.mk (below_step (by repeat (first | (with_reducible first | exact HB.out | apply below_alloc | apply pw_below_drewN | apply below_drew1 | refine below_set ?_ GE201.out) | exact HB.out)) hb); clear HO_11; clear HO_12; clear BK201; clear HB; have HO_11 := n0_; have HO_12 := n1_; have BK201 := n2_; have HB := n3_; clear n0_ n1_ n2_ n3_; (try clear hb); (try clear hb2); (try clear hk); (try clear hi)))
                         have n0_ := Aside0.mk (Kd.R_drew HO_11.out)
                         have n1_ := Aside0.mk (Kd.S_drew HO_12.out)
                         have n2_ := Aside0.mk (blk_drew BK201.out)
                         have n3_ := Aside0.mk (below_drew1 HB.out)
                         clear HO_11
                         clear HO_12
                         clear BK201
                         clear HB
                         have HO_11 := n0_
                         have HO_12 := n1_
                         have BK201 := n2_
                         have HB := n3_
                         clear n0_ n1_ n2_ n3_
                         refine start_ (n := 12) (S := fun w' => w'.cell? ⟨gb201, 0, none⟩ = some (.int .i64 ((rd_T38 l1 x75_4).f0)) ∧ w'.cell? ⟨gb201, 1, none⟩ = some (.int .i64 ((rd_T38 l1 x75_4).f1)) ∧ w'.cell? ⟨gb201, 2, none⟩ = some (.slice A200_2 ((rd_T38 l1 x75_4).f2).length c200_2)) (ds := []) #[false, false, false, false, false, false, false, false, false, false, false, false] (by kernel_rfl) rfl rfl ⟨(blk_cell BK201.out 0).trans rfl, (blk_cell BK201.out 1).trans rfl, (blk_cell BK201.out 2).trans rfl⟩ (fun hHeld => ?_); refine with_tabW strategy_Choose.tab23 strategy_Choose.bits23 (fun HT_ HW_ => ?_)
                         generalize w45.drew = w46 at HO_11 HO_12 BK201 HB hHeld ⊢
                         refine pure_ (i := 0) (N := some 87) (v := ?_) (a' := ?_) #[true, false, false, false, false, false, false, false, false, false, false, false] rfl rfl (any_of HT_.out (by kernel_rfl)) (fun _ _ _ h => h) (Or.inl ⟨by rfl, ?_⟩) ?_ ?_
                         rotate_left
                         ·intro w'
                          go_simp
                          with_reducible rfl
                         rotate_left
                         ·simp only [Act.put, List.setIfInBounds_toArray, List.set_cons_zero, List.set_cons_succ, i64_w, i32_w]
                          rfl
                         refine pure_ (i := 1) (N := some 88) (v := ?_) (a' := ?_) #[true, true, false, false, false, false, false, false, false, false, false, false] rfl rfl (any_of HT_.out (by kernel_rfl)) (fun _ _ _ h => h) (Or.inl ⟨by rfl, ?_⟩) ?_ ?_
                         rotate_left
                         ·intro w'
                          go_simp
                          with_reducible rfl
                         rotate_left
                         ·simp only [Act.put, List.setIfInBounds_toArray, List.set_cons_zero, List.set_cons_succ, i64_w, i32_w]
                          rfl
                         refine pure_ (i := 3) (N := some 90) (v := ?_) (a' := ?_) #[true, true, false, true, false, false, false, false, false, false, false, false] rfl rfl (any_of HT_.out (by kernel_rfl)) (fun _ _ _ h => h) (Or.inl ⟨by rfl, ?_⟩) ?_ ?_
                         rotate_left
                         ·intro w'
                          go_simp
                          with_reducible rfl
                         rotate_left
                         ·simp only [Act.put, List.setIfInBounds_toArray, List.set_cons_zero, List.set_cons_succ, i64_w, i32_w]
                          rfl
                         refine pure_ (i := 5) (N := some 92) (v := ?_) (a' := ?_) #[true, true, false, true, false, true, false, false, false, false, false, false] rfl rfl (any_of HT_.out (by kernel_rfl)) (fun _ _ _ h => h) (Or.inl ⟨by rfl, ?_⟩) ?_ ?_
                         rotate_left
                         ·intro w'
                          go_simp
                          with_reducible rfl
                         rotate_left
                         ·simp only [Act.put, List.setIfInBounds_toArray, List.set_cons_zero, List.set_cons_succ, i64_w, i32_w]
                          rfl
                         refine take_ (i := 2) (N := some 89) (v := ?_) (a' := ?_) #[true, true, true, true, false, true, false, false, false, false, false, false] rfl rfl (take_ofW HT_.out HW_.out (by kernel_rfl)) (fun _ _ _ h => h) (Or.inl ⟨by rfl, ?_⟩) hHeld ?_ ?_
                         rotate_left
                         ·rintro w' ⟨s0, s1, s2⟩
                          go_simp
                          with_reducible rfl
                         rotate_left
                         ·simp only [Act.put, List.setIfInBounds_toArray, List.set_cons_zero, List.set_cons_succ, i64_w, i32_w]
                          rfl
                         refine take_ (i := 4) (N := some 91) (v := ?_) (a' := ?_) #[true, true, true, true, true, true, false, false, false, false, false, false] rfl rfl (take_ofW HT_.out HW_.out (by kernel_rfl)) (fun _ _ _ h => h) (Or.inl ⟨by rfl, ?_⟩) hHeld ?_ ?_
                         rotate_left
                         ·rintro w' ⟨s0, s1, s2⟩
                          go_simp
                          with_reducible rfl
                         rotate_left
                         ·simp only [Act.put, List.setIfInBounds_toArray, List.set_cons_zero, List.set_cons_succ, i64_w, i32_w]
                          rfl
                         refine take_ (i := 6) (N := some 93) (v := ?_) (a' := ?_) #[true, true, true, true, true, true, true, false, false, false, false, false] rfl rfl (take_ofW HT_.out HW_.out (by kernel_rfl)) (fun _ _ _ h => h) (Or.inl ⟨by rfl, ?_⟩) hHeld ?_ ?_
                         rotate_left
                         ·rintro w' ⟨s0, s1, s2⟩
                          go_simp
                          with_reducible rfl
                         rotate_left
                         ·simp only [Act.put, List.setIfInBounds_toArray, List.set_cons_zero, List.set_cons_succ, i64_w, i32_w]
                          rfl
                         refine one_ (i := 7) (N := some 94) #[true, true, true, true, true, true, true, true, false, false, false, false] rfl rfl (one_of HT_.out (by kernel_rfl)) (by decide) (fun K hK => ?_)
                         refine goes_ Try.func31 (by kernel_rfl) rfl #[.slice A200_2 ((rd_T38 l1 x75_4).f2).length c200_2] (by rfl) rfl rfl (by (try simp only [List.map_toArray, List.map_cons, List.map_nil]); first | done | rfl | (simp only [List.length_drop, List.length_take]; rfl)) ?_
                         with_reducible refine (slices_Clone_int_int.calls _ _ ((rd_T38 l1 x75_4).f2) t206 _ ?side1 ?side2 A39.out).mono ?_
                         (case side1 => repeat (first | exact (Kd.C_below HR200_2.out HB.out) | (with_reducible refine Kd.C_alloc ?_ _) | (with_reducible refine Kd.C_drewN ?_ _) | (with_reducible refine Kd.C_drew ?_)))
                         (case side2 => exact HC200_2.out)
                         rintro e w47 ⟨v207, rfl, ho0, hb⟩
                         refine ⟨_, rfl, ?_⟩
                         have n0_ := Aside0.mk (Kd.R_below (by (with_reducible repeat (first | apply Kd.R_alloc | apply Kd.R_drewN | apply Kd.R_drew)); exact HO_11.out) hb)
                         have n1_ := Aside0.mk (Kd.S_elder' (by (with_reducible repeat (first | apply Kd.S_alloc | apply Kd.S_drewN | apply Kd.S_drew)); exact HO_12.out) (Kd.R_base ho0) hb)
                         have n2_ := Aside0.mk (Kd.R_lower ho0 (below_size (by repeat (first | (with_reducible first | exact HB.out | apply below_alloc | apply pw_below_drewN | apply below_drew1 | refine below_set ?_ GE201.out) | exact HB.out))))
                         have n3_ := Aside0.mk (blk_below (g := gb201) (o := .cells #[.int .i64 ((rd_T38 l1 x75_4).f0), .int .i64 ((rd_T38 l1 x75_4).f1), .slice A200_2 ((rd_T38 l1 x75_4).f2).length c200_2] 38 (0, 0)) (by (with_reducible repeat (first | refine blk_drewN ?_ _ | refine blk_drew ?_ | refine blk_alloc ?_ _)); exact BK201.out) hb)
                         have n4_ := Aside0.mk (below_step (by repeat (first | (with_reducible first | exact HB.out | apply below_alloc | apply pw_below_drewN | apply below_drew1 | refine below_set ?_ GE201.out) | exact HB.out)) hb)
                         clear HO_11
                         clear HO_12
                         clear BK201
                         clear HB
                         have HO_11 := n0_
                         have HO_12 := n1_
                         have HO208 := n2_
                         have BK201 := n3_
                         have HB := n4_
                         clear n0_ n1_ n2_ n3_ n4_
                         (try clear hb)
                         (try clear hb2)
                         (try clear hk)
                         (try clear hi)
                         (try clear ho0)
                         obtain ⟨Ao48, co48, eo48⟩ := Kd.R_slice HO208.out
                         (first | subst eo48 | (injection eo48 with f1_ f2_ f3_; have f4_ := f1_.symm; have f5_ := f3_.symm; clear f1_ f2_ f3_; subst f4_; subst f5_))
                         refine hK.out _ _ ⟨(blk_cell BK201.out 0).trans rfl, (blk_cell BK201.out 1).trans rfl, (blk_cell BK201.out 2).trans rfl⟩ (fun hHeld => ?_)
                         clear hK K
                         refine norm_ (a' := ?_) ?_ ?_
                         rotate_left
                         ·show Act.put _ (some 94) _ = _
                          simp only [Act.put, List.setIfInBounds_toArray, List.set_cons_zero, List.set_cons_succ, i64_w, i32_w]
                          rfl
                         refine pure_ (i := 8) (N := some 95) (v := ?_) (a' := ?_) #[true, true, true, true, true, true, true, true, true, false, false, false] rfl rfl (any_of HT_.out (by kernel_rfl)) (fun _ _ _ h => h) (Or.inl ⟨by rfl, ?_⟩) ?_ ?_
                         rotate_left
                         ·intro w'
                          go_simp
                          with_reducible rfl
                         rotate_left
                         ·simp only [Act.put, List.setIfInBounds_toArray, List.set_cons_zero, List.set_cons_succ, i64_w, i32_w]
                          rfl
                         refine one_ (i := 9) (N := some 96) #[true, true, true, true, true, true, true, true, true, true, false, false] rfl rfl (one_of HT_.out (by kernel_rfl)) (by decide) (fun K hK => ?_)
                         refine value_ (w1 := ?_) (v := ?_) (by rfl) rfl ?_ ?_
                         rotate_left 2
                         ·go_simp
                          constructor
                          ·rfl
                          rfl
                         refine hK.out _ _ ⟨(blk_cell (blk_alloc BK201.out _) 0).trans rfl, (blk_cell (blk_alloc BK201.out _) 1).trans rfl, (blk_cell (blk_alloc BK201.out _) 2).trans rfl⟩ (fun hHeld => ?_)
                         clear hK K
                         refine norm_ (a' := ?_) ?_ ?_
                         rotate_left
                         ·show Act.put _ (some 96) _ = _
                          simp only [Act.put, List.setIfInBounds_toArray, List.set_cons_zero, List.set_cons_succ, i64_w, i32_w]
                          rfl
                         refine one_ (i := 10) (N := some 97) #[true, true, true, true, true, true, true, true, true, true, true, false] rfl rfl (one_of HT_.out (by kernel_rfl)) (by decide) (fun K hK => ?_)
                         refine Kd.S_append_step k38 (w0 := w) w.heap.size (by rfl) (.tmp 87) (.tmp 96) 23 38 (.agg #[(.int .i64 0), (.int .i64 0), (.slice none 0 0)]) 40 rfl Try.underlying23 info38 rfl (by decide) (by omega) u12 x12_4 (⟨(rd_T38 l1 x75_4).f0, (rd_T38 l1 x75_4).f1, t206⟩ : S38) [.int .i64 ((rd_T38 l1 x75_4).f0), .int .i64 ((rd_T38 l1 x75_4).f1), .slice Ao48 t206.length co48] (fun k_ => k_ ≠ gb201) (fun k_ => some k_ = (.slice Ao48 t206.length co48 : Value).ownBlock) rfl rfl ?aP (fun k_ hk_ => ((Kd.R_mono (ok' := fun k_ => ((fun k_ => k_ ≠ gb201)) k_ ∧ some k_ ≠ (u12 : Value).ownBlock) (Kd.R_types (Kd.R_apart' (HO208.out) (Kd.S_typed HO_12.out) (by decide)) BK201.out (by decide)) (fun k_ hk => ⟨hk.2, hk.1.2⟩))).1 k_ hk_.symm) ?aF ?aO ?aB ?aS ?aL ?_
                         (case aP => exact k38_mkM _ _ _ (⟨(rd_T38 l1 x75_4).f0, (rd_T38 l1 x75_4).f1, t206⟩ : S38) (Kd.R_mono (Kd.R_tight rfl (Kd.R_mono (ok' := fun k_ => ((fun k_ => k_ ≠ gb201)) k_ ∧ some k_ ≠ (u12 : Value).ownBlock) (Kd.R_types (Kd.R_apart' (HO208.out) (Kd.S_typed HO_12.out) (by decide)) BK201.out (by decide)) (fun k_ hk => ⟨hk.2, hk.1.2⟩))) (fun _ h_ => h_)))
                         (case aB => exact (by repeat (first | (with_reducible first | exact HB.out | apply below_alloc | apply pw_below_drewN | apply below_drew1 | refine below_set ?_ GE201.out) | exact HB.out)))
                         (case aF => exact (fun k_ hk => Kd.freshB (g := gb201) (o := .cells #[.int .i64 ((rd_T38 l1 x75_4).f0), .int .i64 ((rd_T38 l1 x75_4).f1), .slice A200_2 ((rd_T38 l1 x75_4).f2).length c200_2] 38 (0, 0)) (by (with_reducible repeat (first | refine blk_drewN ?_ _ | refine blk_drew ?_ | refine blk_alloc ?_ _)); exact BK201.out) k_ hk))
                         (case aO => exact (by (with_reducible repeat (first | apply Kd.S_alloc | apply Kd.S_drewN | apply Kd.S_drew)); exact Kd.S_mono HO_12.out (fun k_ hk => ⟨hk.1.2, fun e_ => hk.2 e_⟩)))
                         (case aS => exact (below_size (by repeat (first | (with_reducible first | exact HB.out | apply below_alloc | apply pw_below_drewN | apply below_drew1 | refine below_set ?_ GE201.out) | exact HB.out))))
                         (case aL => have := LMc40.out; omega)
                         intro v210 w49 ho hb hg hat
                         rw [← Ny209.out] at ho
                         have n0_ := Aside0.mk (Kd.R_over' (by (with_reducible repeat (first | apply Kd.R_alloc | apply Kd.R_drewN | apply Kd.R_drew)); exact HO_11.out) (Kd.S_typed (by (with_reducible repeat (first | apply Kd.S_alloc | apply Kd.S_drewN | apply Kd.S_drew)); exact HO_12.out)) (by decide) hg)
                         have n1_ := Aside0.mk (blk_grown (g := gb201) (o := .cells #[.int .i64 ((rd_T38 l1 x75_4).f0), .int .i64 ((rd_T38 l1 x75_4).f1), .slice A200_2 ((rd_T38 l1 x75_4).f2).length c200_2] 38 (0, 0)) (by (with_reducible repeat (first | refine blk_drewN ?_ _ | refine blk_drew ?_ | refine blk_alloc ?_ _)); exact BK201.out) hg (Kd.S_away HO_12.out (fun _ hk => hk.1.2)))
                         have n2_ := Aside0.mk (hb)
                         have n3_ := Aside0.mk (ho)
                         clear HO_11
                         clear BK201
                         clear HB
                         clear HO_12
                         clear HO208
                         have HO_11 := n0_
                         have BK201 := n1_
                         have HB := n2_
                         have HO211 := n3_
                         clear n0_ n1_ n2_ n3_
                         clear ho hb hg hat
                         refine hK.out _ _ ⟨(blk_cell BK201.out 0).trans rfl, (blk_cell BK201.out 1).trans rfl, (blk_cell BK201.out 2).trans rfl⟩ (fun hHeld => ?_)
                         clear hK K
                         refine norm_ (a' := ?_) ?_ ?_
                         rotate_left
                         ·show Act.put _ (some 97) _ = _
                          simp only [Act.put, List.setIfInBounds_toArray, List.set_cons_zero, List.set_cons_succ, i64_w, i32_w]
                          rfl
                         refine pure_ (i := 11) (N := some 12) (v := ?_) (a' := ?_) #[true, true, true, true, true, true, true, true, true, true, true, true] rfl rfl (any_of HT_.out (by kernel_rfl)) (fun _ _ _ h => h) (Or.inl ⟨by rfl, ?_⟩) ?_ ?_
                         rotate_left
                         ·intro w'
                          go_simp
                          with_reducible rfl
                         rotate_left
                         ·simp only [Act.put, List.setIfInBounds_toArray, List.set_cons_zero, List.set_cons_succ, i64_w, i32_w]
                          rfl
                         refine done_ (done_of HT_.out (by kernel_rfl)) ?_
                         try go_wp2
                         go_roundg k4
                         case measure => have := HJ2.out; have := HK2.out; have := HK3.out; have := HK4.out; omega
                         case rel => exact ⟨(y209), (wrap64 (x75_4 + 1)), (by first | rfl | (simp; done) | (simp [*]; done)), H', ⟨by have := HJ2.out; have := HK2.out; have := HK3.out; have := HK4.out; omega⟩, ⟨by (with_reducible repeat (first | apply Kd.R_alloc | apply Kd.R_drewN | apply Kd.R_drew)); exact HO_11.out⟩, ⟨by (with_reducible repeat (first | apply Kd.S_alloc | apply Kd.S_drewN | apply Kd.S_drew)); exact Kd.S_mono HO211.out (fun _ hk => trivial)⟩, ⟨by repeat (first | (with_reducible first | exact HB.out | apply below_alloc | apply pw_below_drewN | apply below_drew1 | refine below_set ?_ GE201.out) | exact HB.out)⟩⟩
                        rw [if_neg c40] at H
                        exact absurd H (by simp)
                       replace c38 := Bool.eq_false_iff.mpr c38
                       subst c38
                       have H1 : (strategy_Choose.l2 k4 t197 x12_4 l1 (l1.length : Int) (wrap64 (x75_4 + 1))) = some (r1, r2) := by rw [if_neg (show ¬ (false = true) by decide)] at H; exact H
                       clear H
                       have H := H1
                       clear H1
                       have H' := Aside0.mk H
                       clear H
                       have p200 : 0 ≤ (x75_4 : Int) := of_decide_eq_true (by first | (with_reducible assumption) | assumption)
                       have q200 : x75_4 < (l1.length : Int) := of_decide_eq_true (by first | (with_reducible assumption) | assumption)
                       obtain ⟨ad200, A200_2, c200_2, e200, hx200_0, hx200_1, hx200_2, hl200_2, hi200_2⟩ := at_T38 HR1.out x75_4 p200 q200
                       cases e200
                       replace hx200_0 := (HB.out.cell (World.block_lt_of_cell? w _ hx200_0)).trans hx200_0
                       replace hx200_1 := (HB.out.cell (World.block_lt_of_cell? w _ hx200_1)).trans hx200_1
                       replace hx200_2 := (HB.out.cell (World.block_lt_of_cell? w _ hx200_2)).trans hx200_2
                       have HR200_2 := Aside0.mk hi200_2
                       have HC200_2 := Aside0.mk hl200_2
                       clear hi200_2 hl200_2
                       replace p200 := eq_true p200
                       replace q200 := eq_true q200
                       go_wp2_with (first | ((with_reducible refine gate_dst (N := 14) rfl ?_); refine box_event ?hg (N := 14) ?hd (cs := #[.int .i64 0, .int .i64 0, .slice none 0 0]) (t := 38) ?hr ?_; (case hd => rfl); (case hg => rfl); (case hr => first | (go_simp; done) | (go_simp; rfl)); intro gb201 hg w50 hbox hb; have n0_ := Aside0.mk (Kd.R_below (by (with_reducible repeat (first | apply Kd.R_alloc | apply Kd.R_drewN | apply Kd.R_drew)); exact HO_11.out) hb); have n1_ := Aside0.mk (Kd.S_below (Kd.S_elderB (by (with_reducible repeat (first | apply Kd.S_alloc | apply Kd.S_drewN | apply Kd.S_drew)); exact HO_12.out) gb201 (Nat.le_of_eq hg.symm)) hb); have n2_ := Aside0.mk (below_step (by repeat (first | (with_reducible first | exact HB.out | apply below_alloc | apply pw_below_drewN | apply below_drew1) | exact HB.out)) hb); have n3_ := Aside0.mk (hbox); have n4_ := Aside0.mk ((by rw [hg]; exact (below_size (by repeat (first | (with_reducible first | exact HB.out | apply below_alloc | apply pw_below_drewN | apply below_drew1) | exact HB.out))) : w.heap.size ≤ gb201)); have n5_ := Aside0.mk ((by rw [hg]; exact (below_size (by repeat (first | (with_reducible first | exact HB.out | apply below_alloc | apply pw_below_drewN | apply below_drew1) | exact HB.out))) : w.heap.size ≤ gb201)); clear HO_11; clear HO_12; clear HB; have HO_11 := n0_; have HO_12 := n1_; have HB := n2_; have BK201 := n3_; have GW201 := n4_; have GE201 := n5_; clear n0_ n1_ n2_ n3_ n4_ n5_; clear hb hbox hg; have hcz51_0 : w50.cell? ⟨gb201, 0, none⟩ = some (.int .i64 0) := (blk_cell BK201.out 0).trans rfl; have hcz51_1 : w50.cell? ⟨gb201, 1, none⟩ = some (.int .i64 0) := (blk_cell BK201.out 1).trans rfl; have hcz51_2 : w50.cell? ⟨gb201, 2, none⟩ = some (.slice none 0 0) := (blk_cell BK201.out 2).trans rfl; have hfz51_0 := blk_frozen BK201.out 0; have hfz51_1 := blk_frozen BK201.out 1; have hfz51_2 := blk_frozen BK201.out 2) | ((with_reducible refine gate_callee (f := 29) rfl ?_); refine goesL_ (some 82) rfl rfl Try.func29 (by kernel_rfl) rfl #[.agg #[.int .i64 ((rd_T38 l1 x75_4).f0), .int .i64 ((rd_T38 l1 x75_4).f1), .slice A200_2 ((rd_T38 l1 x75_4).f2).length c200_2]] rfl (by (try simp only [List.map_toArray, List.map_cons, List.map_nil]); first | done | rfl | (simp only [List.length_drop, List.length_take]; rfl)) ?_; (with_reducible refine (strategy_span.calls ((rd_T38 l1 x75_4).f0) ((rd_T38 l1 x75_4).f1) _ _ ((rd_T38 l1 x75_4).f2) t202 t203 _ ?side1 ?side2 A36.out).mono ?_); (case side1 => exact Kd.C_below HR200_2.out (by repeat (first | (with_reducible first | exact HB.out | apply below_alloc | apply pw_below_drewN | apply below_drew1 | refine below_set ?_ GE201.out) | exact HB.out))); (case side2 => exact HC200_2.out); rintro e w52 ⟨rfl, hb⟩; refine ⟨_, rfl, ?_⟩; have n0_ := Aside0.mk (Kd.R_below (by (with_reducible repeat (first | apply Kd.R_alloc | apply Kd.R_drewN | apply Kd.R_drew)); exact (Kd.R_mono (Kd.R_far (p := ⟨gb201, 2, none⟩) (Kd.R_far (p := ⟨gb201, 1, none⟩) (Kd.R_far (p := ⟨gb201, 0, none⟩) (Kd.R_types HO_11.out BK201.out (by decide)) (fun _ hk => hk.2) (.int .i64 ((rd_T38 l1 x75_4).f0))) (fun _ hk => hk.2) (.int .i64 ((rd_T38 l1 x75_4).f1))) (fun _ hk => hk.2) (.slice A200_2 ((rd_T38 l1 x75_4).f2).length c200_2)) (fun _ h_ => h_.1))) hb); have n1_ := Aside0.mk (Kd.S_below (by (with_reducible repeat (first | apply Kd.S_alloc | apply Kd.S_drewN | apply Kd.S_drew)); exact (Kd.S_mono (Kd.S_far (p := ⟨gb201, 2, none⟩) (Kd.S_far (p := ⟨gb201, 1, none⟩) (Kd.S_far (p := ⟨gb201, 0, none⟩) (Kd.S_mono HO_12.out (fun k_ hk => (⟨hk, hk.2⟩ : _ ∧ k_ ≠ gb201))) (fun _ hk => hk.2) (.int .i64 ((rd_T38 l1 x75_4).f0))) (fun _ hk => hk.2) (.int .i64 ((rd_T38 l1 x75_4).f1))) (fun _ hk => hk.2) (.slice A200_2 ((rd_T38 l1 x75_4).f2).length c200_2)) (fun _ h_ => h_.1))) hb); have n2_ := Aside0.mk (blk_below (g := gb201) (o := .cells #[.int .i64 ((rd_T38 l1 x75_4).f0), .int .i64 ((rd_T38 l1 x75_4).f1), .slice A200_2 ((rd_T38 l1 x75_4).f2).length c200_2] 38 (0, 0)) (by (with_reducible repeat (first | refine blk_drewN ?_ _ | refine blk_drew ?_ | refine blk_alloc ?_ _)); refine blk_put (cs := #[.int .i64 ((rd_T38 l1 x75_4).f0), .int .i64 ((rd_T38 l1 x75_4).f1), .slice none 0 0]) ?_ 2 _ rfl; (with_reducible repeat (first | refine blk_drewN ?_ _ | refine blk_drew ?_ | refine blk_alloc ?_ _)); refine blk_put (cs := #[.int .i64 ((rd_T38 l1 x75_4).f0), .int .i64 0, .slice none 0 0]) ?_ 1 _ rfl; (with_reducible repeat (first | refine blk_drewN ?_ _ | refine blk_drew ?_ | refine blk_alloc ?_ _)); refine blk_put (cs := #[.int .i64 0, .int .i64 0, .slice none 0 0]) ?_ 0 _ rfl; (with_reducible repeat (first | refine blk_drewN ?_ _ | refine blk_drew ?_ | refine blk_alloc ?_ _)); exact BK201.out) hb); have n3_ := Aside0.mk (below_step (by repeat (first | (with_reducible first | exact HB.out | apply below_alloc | apply pw_below_drewN | apply below_drew1 | refine below_set ?_ GE201.out) | exact HB.out)) hb); clear HO_11; clear HO_12; clear BK201; clear HB; have HO_11 := n0_; have HO_12 := n1_; have BK201 := n2_; have HB := n3_; clear n0_ n1_ n2_ n3_; (try clear hb); (try clear hb2); (try clear hk); (try clear hi); obtain ⟨Ao53, co53, eo53⟩ := Kd.R_slice HO_11.out; subst eo53) | ((with_reducible refine gate_callee (f := 28) rfl ?_); refine goesL_ (some 83) rfl rfl Try.func28 (by kernel_rfl) rfl #[.slice Ao53 t197.length co53, .agg #[.int .i64 t202, .int .i64 t203], .func (.func 30) #[] #[]] rfl (by (try simp only [List.map_toArray, List.map_cons, List.map_nil]); first | done | rfl | (simp only [List.length_drop, List.length_take]; rfl)) ?_; (with_reducible refine (api_Span_28.calls k4 _ _ t197 t202 t203 t204 false _ ?side1 ?side2 A37.out).mono ?_); (case side1 => repeat (first | exact (Kd.R_reads' HO_11.out).2.2 | (with_reducible refine Kd.C_alloc ?_ _) | (with_reducible refine Kd.C_drewN ?_ _) | (with_reducible refine Kd.C_drew ?_))); (case side2 => exact (Kd.R_reads' HO_11.out).2.1); rintro e w54 ⟨rfl, hb⟩; refine ⟨_, rfl, ?_⟩; have n0_ := Aside0.mk (Kd.R_below (by (with_reducible repeat (first | apply Kd.R_alloc | apply Kd.R_drewN | apply Kd.R_drew)); exact HO_11.out) hb); have n1_ := Aside0.mk (Kd.S_below (by (with_reducible repeat (first | apply Kd.S_alloc | apply Kd.S_drewN | apply Kd.S_drew)); exact HO_12.out) hb); have n2_ := Aside0.mk (blk_below (g := gb201) (o := .cells #[.int .i64 ((rd_T38 l1 x75_4).f0), .int .i64 ((rd_T38 l1 x75_4).f1), .slice A200_2 ((rd_T38 l1 x75_4).f2).length c200_2] 38 (0, 0)) (by (with_reducible repeat (first | refine blk_drewN ?_ _ | refine blk_drew ?_ | refine blk_alloc ?_ _)); exact BK201.out) hb); have n3_ := Aside0.mk (below_step (by repeat (first | (with_reducible first | exact HB.out | apply below_alloc | apply pw_below_drewN | apply below_drew1 | refine below_set ?_ GE201.out) | exact HB.out)) hb); clear HO_11; clear HO_12; clear BK201; clear HB; have HO_11 := n0_; have HO_12 := n1_; have BK201 := n2_; have HB := n3_; clear n0_ n1_ n2_ n3_; (try clear hb); (try clear hb2); (try clear hk); (try clear hi)))
                       go_roundg k4
                       case measure => have := HJ2.out; have := HK2.out; have := HK3.out; have := HK4.out; omega
                       case rel => exact ⟨(x12_4), (wrap64 (x75_4 + 1)), (by first | rfl | (simp; done) | (simp [*]; done)), H', ⟨by have := HJ2.out; have := HK2.out; have := HK3.out; have := HK4.out; omega⟩, ⟨by (with_reducible repeat (first | apply Kd.R_alloc | apply Kd.R_drewN | apply Kd.R_drew)); exact HO_11.out⟩, ⟨by (with_reducible repeat (first | apply Kd.S_alloc | apply Kd.S_drewN | apply Kd.S_drew)); exact Kd.S_mono HO_12.out (fun _ hk => trivial)⟩, ⟨by repeat (first | (with_reducible first | exact HB.out | apply below_alloc | apply pw_below_drewN | apply below_drew1 | refine below_set ?_ GE201.out) | exact HB.out)⟩⟩
                      rw [if_neg c35] at H
                      exact absurd H (by simp)
                     rw [if_neg c34] at H
                     exact absurd H (by simp)
                    rw [if_neg c33] at H
                    have c33b0 : decide (x75_4 < (l1.length : Int)) = false := decide_eq_false c33
                    clear c33
                    simp only [Option.some.injEq, Prod.mk.injEq] at H
                    obtain ⟨rfl, rfl⟩ := H
                    go_wp2
                    go_ret2
                    exact ⟨_, by first | rfl | (simp [errW_none, errW_some] <;> rfl) | (simp [*, errW_none, errW_some] <;> rfl), by (with_reducible repeat (first | apply Kd.S_alloc | apply Kd.S_drewN | apply Kd.S_drew)); exact HO_12.out, by repeat (first | (with_reducible first | exact HB.out | apply below_alloc | apply pw_below_drewN | apply below_drew1) | exact HB.out)⟩

end Go.Proofs.Ytmmdlkeemafanaa.Q
