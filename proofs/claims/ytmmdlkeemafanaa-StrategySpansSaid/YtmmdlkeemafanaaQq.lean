import Derived.Test.YtmmdlkeemafanaaQx0
import Derived.Test.YtmmdlkeemafanaaQx1
namespace Go.Proofs.Ytmmdlkeemafanaa.Q
open Go.RowKit Go.Proofs.YtmmdlkeemafanaaW.PrintWords Go.Proofs.YtmmdlkeemafanaaW.PrintLast Go.Proofs.YtmmdlkeemafanaaW.PrintMore
attribute [local go_sem] max2_int min2_int max_two min_two max_three min_three max_four min_four   -- for this text's walks alone
set_option linter.unusedVariables false
set_option linter.unusedSimpArgs false

attribute [local go_sem high] eqA40

/-! ### corporalaw27_example: function 36 -/
def corporalaw27_example.f  : Option ((List (S38))) := some (([(⟨0, 1, ([] : List Int)⟩ : S38), (⟨0, 3, ([] : List Int)⟩ : S38), (⟨1, 2, ([] : List Int)⟩ : S38), (⟨2, 4, ([] : List Int)⟩ : S38), (⟨5, 6, ([] : List Int)⟩ : S38)] : List (S38)))
set_option maxHeartbeats 8000000 in
set_option maxRecDepth 100000 in
theorem corporalaw27_example.calls  (r : List (S38)) (w : World) (h : corporalaw27_example.f  = some r) :
    Calls Try.prog 36 #[] w fun e w' => ∃ v0_ : Value, e = .returned (v0_) ∧ Kd.S k38 38 w' w.heap.size (fun _ => True) v0_ r ∧ Below w.heap.size w w' := by
  have hu38 := Try.underlying38
  have HB := Aside0.mk (Below.refl w.heap.size w)
  have H : (some (([(⟨0, 1, ([] : List Int)⟩ : S38), (⟨0, 3, ([] : List Int)⟩ : S38), (⟨1, 2, ([] : List Int)⟩ : S38), (⟨2, 4, ([] : List Int)⟩ : S38), (⟨5, 6, ([] : List Int)⟩ : S38)] : List (S38)))) = some r := h
  clear h
  obtain ⟨y277, hy277⟩ : ∃ y_ : List (S38), y_ = (([(⟨0, 1, ([] : List Int)⟩ : S38), (⟨0, 3, ([] : List Int)⟩ : S38), (⟨1, 2, ([] : List Int)⟩ : S38), (⟨2, 4, ([] : List Int)⟩ : S38), (⟨5, 6, ([] : List Int)⟩ : S38)] : List (S38))) := ⟨_, rfl⟩
  replace H : (some y277) = some r := by first | (rw [hy277]; with_reducible exact H) | (have H2_ := (Option.bind_some _ _).symm.trans H; rw [hy277]; with_reducible exact H2_) | (have H2_ := (Option.bind_some _ _).symm.trans H; with_reducible exact H2_) | with_reducible exact H | (rw [hy277]; exact H) | exact H
  have Ny277 := Aside0.mk hy277
  clear hy277
  obtain rfl := Option.some.inj H
  go_enter Try.func36, Try.ntmps36
  go_wp2_with (first | ((with_reducible refine gate_dst (N := 6) rfl ?_); refine Kd.S_lit k38 _ 38 ?hg (N := 6) ?hd (xs := ([(⟨0, 1, ([] : List Int)⟩ : S38), (⟨0, 3, ([] : List Int)⟩ : S38), (⟨1, 2, ([] : List Int)⟩ : S38), (⟨2, 4, ([] : List Int)⟩ : S38), (⟨5, 6, ([] : List Int)⟩ : S38)] : List (S38))) (inner := [.int .i64 0, .int .i64 1, .slice none 0 0, .int .i64 0, .int .i64 3, .slice none 0 0, .int .i64 1, .int .i64 2, .slice none 0 0, .int .i64 2, .int .i64 4, .slice none 0 0, .int .i64 5, .int .i64 6, .slice none 0 0]) (ok := fun _ => True) (okp := fun _ => True) ?hr ?hp (fun _ hk => hk) trivial (Below.refl _ _) (Nat.le_refl _) (by simp) ?_; (case hd => rfl); (case hg => rfl); (case hr => first | (go_simp; done) | (go_simp; rfl)); (case hp => exact (Reps.c3 (show Kd.M k38 _ _ _ (⟨0, 1, ([] : List Int)⟩ : S38) [.int .i64 0, .int .i64 1, .slice none 0 0] from (k38_mkM _ _ _ (⟨0, 1, ([] : List Int)⟩ : S38) (Kd.R_nil _ _ _ _ _))) (Reps.c3 (show Kd.M k38 _ _ _ (⟨0, 3, ([] : List Int)⟩ : S38) [.int .i64 0, .int .i64 3, .slice none 0 0] from (k38_mkM _ _ _ (⟨0, 3, ([] : List Int)⟩ : S38) (Kd.R_nil _ _ _ _ _))) (Reps.c3 (show Kd.M k38 _ _ _ (⟨1, 2, ([] : List Int)⟩ : S38) [.int .i64 1, .int .i64 2, .slice none 0 0] from (k38_mkM _ _ _ (⟨1, 2, ([] : List Int)⟩ : S38) (Kd.R_nil _ _ _ _ _))) (Reps.c3 (show Kd.M k38 _ _ _ (⟨2, 4, ([] : List Int)⟩ : S38) [.int .i64 2, .int .i64 4, .slice none 0 0] from (k38_mkM _ _ _ (⟨2, 4, ([] : List Int)⟩ : S38) (Kd.R_nil _ _ _ _ _))) (Reps.c3 (show Kd.M k38 _ _ _ (⟨5, 6, ([] : List Int)⟩ : S38) [.int .i64 5, .int .i64 6, .slice none 0 0] from (k38_mkM _ _ _ (⟨5, 6, ([] : List Int)⟩ : S38) (Kd.R_nil _ _ _ _ _))) (Reps.none _ _))))))); intro v278 w1 ho2 hb hg_ hnew_; clear hg_ hnew_; (first | rw [← Ny277.out] at ho2 | (simp only [Int.reduceToNat] at ho2; rw [← Ny277.out] at ho2)); have n0_ := Aside0.mk (Kd.S_lower ho2 (below_size (by repeat (first | (with_reducible first | exact HB.out | apply below_alloc | apply pw_below_drewN | apply below_drew1) | exact HB.out)))); have n1_ := Aside0.mk (below_step (by repeat (first | (with_reducible first | exact HB.out | apply below_alloc | apply pw_below_drewN | apply below_drew1) | exact HB.out)) hb); clear HB; have HO279 := n0_; have HB := n1_; clear n0_ n1_; clear hb ho2))
  go_ret
  exact ⟨_, by first | rfl | (simp [errW_none, errW_some] <;> rfl) | (simp [*, errW_none, errW_some] <;> rfl), by (with_reducible repeat (first | apply Kd.S_alloc | apply Kd.S_drewN | apply Kd.S_drew)); exact HO279.out, by repeat (first | (with_reducible first | exact HB.out | apply below_alloc | apply pw_below_drewN | apply below_drew1) | exact HB.out)⟩

end Go.Proofs.Ytmmdlkeemafanaa.Q
