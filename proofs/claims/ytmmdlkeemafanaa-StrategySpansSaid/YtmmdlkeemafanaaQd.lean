import Derived.Test.YtmmdlkeemafanaaQx0
import Derived.Test.YtmmdlkeemafanaaQx1
import Derived.Test.YtmmdlkeemafanaaCd
namespace Go.Proofs.Ytmmdlkeemafanaa.Q
open Go.RowKit Go.Proofs.YtmmdlkeemafanaaW.PrintWords Go.Proofs.YtmmdlkeemafanaaW.PrintLast Go.Proofs.YtmmdlkeemafanaaW.PrintMore
attribute [local go_sem] max2_int min2_int max_two min_two max_three min_three max_four min_four   -- for this text's walks alone
set_option linter.unusedVariables false
set_option linter.unusedSimpArgs false

attribute [local go_sem high] eqA40

/-! ### strategy_spans_each: function 24 -/
def strategy_spans_each.f (l0 : List (S40)) : Option ((List (S40))) := some l0
set_option maxHeartbeats 8000000 in
set_option maxRecDepth 100000 in
theorem strategy_spans_each.calls (P0_ : Nat → Prop) (u9000_ : Value) (l0 : List (S40)) (r : List (S40)) (w0 w : World) (hB : Below w0.heap.size w0 w) (ho0 : Kd.R k40 40 w w0.heap.size P0_ u9000_ l0) (h : strategy_spans_each.f l0 = some r) :
    Calls Try.prog 24 #[u9000_] w fun e w' => ∃ v0_ : Value, e = .returned (v0_) ∧ Kd.R k40 40 w' w0.heap.size (fun k_ => (P0_ k_ ∨ w.heap.size ≤ k_)) v0_ r ∧ Below w0.heap.size w0 w' ∧ Kept w w' (fun k_ => P0_ k_) := by
  have HO0 := Aside0.mk (show Kd.R k40 40 w w0.heap.size (fun k_ => (P0_ k_ ∨ w.heap.size ≤ k_)) u9000_ l0 from Kd.R_mono ho0 (fun k_ hk => (.inl hk)))
  have HK := Aside0.mk (Kept.refl w (fun k_ => P0_ k_))
  have HW0 := Aside0.mk hB.size
  have HB := Aside0.mk hB
  clear hB
  have H : (some l0) = some r := h
  clear h
  obtain rfl := Option.some.inj H
  go_enter Try.func24, Try.ntmps24
  go_wp2
  go_ret
  exact ⟨_, by first | rfl | (simp [errW_none, errW_some] <;> rfl) | (simp [*, errW_none, errW_some] <;> rfl), by (with_reducible repeat (first | apply Kd.R_alloc | apply Kd.R_drewN | apply Kd.R_drew)); exact HO0.out, by repeat (first | (with_reducible first | exact HB.out | apply below_alloc | apply pw_below_drewN | apply below_drew1) | exact HB.out), by repeat (first | (with_reducible first | exact HK.out | apply Kept.alloc | apply Kept.drewN | apply Kept.drew) | exact HK.out)⟩

/-! ### api_Span_40: function 40 -/
def api_Span_40.f (k : Nat) (l0 : List (S40)) : Option ((List (S40))) := some l0.reverse
theorem api_Span_40.mono : ∀ a0 k, LeO (api_Span_40.f k a0) (api_Span_40.f (k + 1) a0) := fun _ _ => LeO.refl _
section
open Go.Lib Go.Sort Go.Proofs.YtmmdlkeemafanaaW
theorem toA_reverse (l : List S40) : (toA l).reverse = toA l.reverse := by simp [toA]
theorem reverse_own {W : World} {base g cap : Nat} {cur : Array Value} {l : List S40} (hbase : base ≤ g) (hb : W.heap[g]? = some (.cells cur 40 (0, 0))) (h1 : l.length ≤ cap) (h2 : cap ≤ maxLen) (h3 : cur.size = cap * 2) (n : Nat) :
    (putRowK encS 2 (Sort.ahead W n) g 0 (toA l.reverse)).ownsRow base 40 2 (.slice (some ⟨g, 0, none⟩) l.length cap) l.reverse.length (flatS l.reverse) := by
  have hb2 : (putRowK encS 2 (Sort.ahead W n) g 0 (toA l.reverse)).heap[g]? = some (.cells (putCells id 0 (flatK encS 2 (toA l.reverse)) cur) 40 (0, 0)) := heap_put _ hb
  refine ⟨flatS_length _, .inr ⟨g, cap, _, by rw [List.length_reverse], hbase, hb2, by rw [List.length_reverse]; omega, h2, by rw [putCells_size, h3], ?_⟩⟩
  refine take_flat _ _ _ (by simp [toA_size]; omega) (by simp [toA_size]) fun j hj => ?_
  have hj' : j < (toA l.reverse).size := by rw [toA_size]; exact hj
  rw [get_flatK _ _ _ _ (by omega), get_flatK _ _ _ _ (by omega), show j * 2 / 2 = j by omega, show j * 2 % 2 = 0 by omega, show (j * 2 + 1) / 2 = j by omega, show (j * 2 + 1) % 2 = 1 by omega, toA_get _ _ hj]
  exact ⟨rfl, rfl⟩
theorem R_any {W : World} {base : Nat} {v : Value} {l : List S40} {P : Nat → Prop} (hP : ∀ k, v.ownBlock = some k → P k) (h : W.ownsRow base 40 2 v l.length (flatS l)) : Kd.R k40 40 W base P v l :=
  ⟨hP, flatS l, h, reps_flatS _ (fun x => k40_mkM _ _ _ x) l⟩
theorem api_Span_40.calls (k : Nat) (P0_ : Nat → Prop) (u9000_ : Value) (l0 : List (S40)) (r : List (S40)) (w0 w : World) (hB : Below w0.heap.size w0 w) (ho0 : Kd.R k40 40 w w0.heap.size P0_ u9000_ l0) (h : api_Span_40.f k l0 = some r) :
    Calls Try.prog 40 #[u9000_] w fun e w' => e = .returned (.tuple #[]) ∧ Kd.R k40 40 w' w0.heap.size (fun k_ => (P0_ k_ ∨ w.heap.size ≤ k_)) u9000_ r ∧ Below w0.heap.size w0 w' ∧ Kept w w' (fun k_ => P0_ k_) := by
  obtain rfl := Option.some.inj h
  have hP := ho0.1
  rcases (flat_of_R (Kd.R_mono ho0 fun _ _ => trivial)).2 with ⟨rfl, h0⟩ | ⟨g, cap, cur, rfl, hbase, hb, h1, h2, h3, h4⟩
  · have e : l0 = [] := List.length_eq_zero_iff.1 h0
    subst e
    refine (AnyQ.slices_Reverse_empty Try.revSpan _ _ _).mono fun _ _ h' => ⟨h'.1, ?_⟩
    obtain ⟨_, rfl⟩ := h'
    exact ⟨Kd.R_nil _ _ _ _ _, hB, Kept.refl _ _⟩
  have hH : HoldsK encS 2 w g 0 (toA l0) := holds_of_flat hb h4
  have hre := AnyQ.slices_Reverse Try.revSpan 2 Try.isAgg40 Try.sizeOf40 encS encS_len encS_one g 0 cap (toA l0) w hH (by rw [toA_size]; unfold maxLen at h2; omega)
  change Calls Try.prog 40 _ _ _ at hre
  rw [toA_reverse, toA_size] at hre
  refine hre.mono ?_
  rintro e w' ⟨rfl, n, rfl⟩
  have hPg : P0_ g := hP g (by simp [Value.ownBlock])
  refine ⟨rfl, R_any (fun k hk => .inl (hP k hk)) (reverse_own hbase hb h1 h2 h3 n), below_put _ hB hbase, ?_⟩
  refine ⟨by simp [putRowK, putRow, mapBlock, Sort.ahead], fun i hi hn => ?_⟩
  have hne : g ≠ i := fun e => hn (e ▸ hPg)
  simp [putRowK, putRow, mapBlock, Sort.ahead, Array.getElem?_modify, hne]
end
end Go.Proofs.Ytmmdlkeemafanaa.Q
