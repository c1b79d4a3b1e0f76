import Derived.Test.YtmmdlkeemafanaaSp
import Derived.Test.YtmmdlkeemafanaaQa
import Derived.Test.YtmmdlkeemafanaaCb
import Derived.StillTailTactics
import Derived.Deep.RegionWith
import Derived.Outline
namespace Go.Proofs.Ytmmdlkeemafanaa.Q
open Go.RowKit Go.Lib Go.Sort Go.Proofs.YtmmdlkeemafanaaW Go.Proofs.YtmmdlkeemafanaaW.PrintWords

/-- cmp.Or of two numbers that lie in a block. -/
theorem or_two (c1 c2 : Int) (b : Nat) (cap : Nat) (W : World) (hcap : 2 ≤ cap) (h0 : W.cell? ⟨b, 0, none⟩ = some (.int .i64 c1)) (h1 : W.cell? ⟨b, 1, none⟩ = some (.int .i64 c2)) :
    Calls Try.prog 37 #[.slice (some ⟨b, 0, none⟩) 2 cap] W fun e w' => e = .returned (.int .i64 (if c1 = 0 then c2 else c1)) ∧ ∃ q, w' = W.drewN q := by
  have hC : Kd.C (Kd.int .i64) W (some ⟨b, 0, none⟩) [c1, c2].length [c1, c2] := by
    refine ⟨rfl, by simp, fun _ => ⟨_, rfl, fun j p hj => ?_⟩⟩
    have hj2 : j < 2 := (List.getElem?_eq_some_iff.1 hj).1
    obtain rfl | rfl : j = 0 ∨ j = 1 := by omega
    · obtain rfl : c1 = p := by simpa using hj
      refine ⟨_, rfl, rfl, fun i u hu => ?_⟩
      obtain rfl : i = 0 := by have := (List.getElem?_eq_some_iff.1 hu).1; simp at this; omega
      obtain rfl : _ = u := by simpa using hu
      exact h0
    · obtain rfl : c2 = p := by simpa using hj
      refine ⟨_, rfl, rfl, fun i u hu => ?_⟩
      obtain rfl : i = 0 := by have := (List.getElem?_eq_some_iff.1 hu).1; simp at this; omega
      obtain rfl : _ = u := by simpa using hu
      exact h1
  refine (cmp_Or_int.calls 3 _ cap [c1, c2] (if c1 = 0 then c2 else c1) W hC hcap ?_).mono fun e w' h => ⟨h.1, h.2.out⟩
  by_cases e1 : c1 = 0
  · subst e1
    by_cases e2 : c2 = 0
    · subst e2; simp [cmp_Or_int.f, cmp_Or_int.l0, PrintWords.rd, wrap64]
    · simp [cmp_Or_int.f, cmp_Or_int.l0, PrintWords.rd, wrap64, e2]
  · simp [cmp_Or_int.f, cmp_Or_int.l0, PrintWords.rd, e1]

theorem new0 (X : World) (u v : Value) (t b : Nat) (hb : b = X.heap.size) : (X.alloc (.cells #[u, v] t)).cell? ⟨b, 0, none⟩ = some u := by subst hb; simp
theorem new1 (X : World) (u v : Value) (t b : Nat) (hb : b = X.heap.size) : (X.alloc (.cells #[u, v] t)).cell? ⟨b, 1, none⟩ = some v := by subst hb; simp

theorem three_laid (W : World) (A B C : Obj) (m : Nat) : (((W.alloc A).alloc B).alloc C).drewN m = grow (W.drewN m) #[A, B, C] := by
  rw [alloc_eq_grow, alloc_eq_grow, alloc_eq_grow, grow_grow, grow_grow]
  rfl


def cfN (x y : Int × Int) : Int := if compareInt x.1 y.1 = 0 then compareInt x.2 y.2 else compareInt x.1 y.1

theorem ord_any (x y : Int × Int) (W : World) :
    Calls Try.prog 30 #[.agg #[.int .i64 x.1, .int .i64 x.2], .agg #[.int .i64 y.1, .int .i64 y.2]] W fun e w' => e = .returned (.int .i64 (cfN x y)) ∧ ∃ q os', w' = grow (W.drewN q) os' := by
  have hcon := fun p q W' => AnyG.cmp_Compare_int Try.cmpInt p q W'
  change ∀ p q W', Calls Try.prog 38 _ _ _ at hcon
  unfold cfN
  have e1 := hcon x.1 y.1
  have e2 := hcon x.2 y.2
  clear hcon
  generalize compareInt x.1 y.1 = c1 at e1 ⊢
  generalize compareInt x.2 y.2 = c2 at e2 ⊢
  have e3 := fun b cap W h h0 h1 => or_two c1 c2 b cap W h h0 h1
  generalize (if c1 = 0 then c2 else c1) = r at e3 ⊢
  go_enter Try.func30, Try.ntmps30
  go_wp2_with fail
  refine wp_region_still_tail 10 (by kernel_rfl) (by kernel_rfl) ?_
  simp only [List.take_succ_cons, List.take_zero, List.drop_succ_cons, List.drop_zero]
  change wpStill _ _ (World.drew _) _ _ _
  repeat still_step
  still_call (e1 _)
  repeat still_step
  still_call (e2 _)
  refine wpStill_nil ?_
  change wpList _ _ _ _ _ (World.drew _)
  go_wp2_with (go_at_call 37; refine (e3 _ _ _ (by simp) (by exact new0 _ _ _ _ _ (by simp)) (by exact new1 _ _ _ _ _ (by simp))).mono ?_; rintro e w' ⟨rfl, q, rfl⟩)
  go_ret
  exact ⟨rfl, _, _, three_laid _ _ _ _ _⟩

theorem cmpLays (blk off size : Nat) (w : World) : CmpLays Try.prog 30 #[] encS 2 cfN blk off size w :=
  fun _ _ _ _ x y => ord_any x y _
end Go.Proofs.Ytmmdlkeemafanaa.Q
