/- A map from spans to bools that a call makes, read as a list of spans: the map's two operations in the walk. No condition. -/
import Derived.Test.YtmmdlkeemafanaaQx0
import Derived.Maps.OwnOps
import Derived.Maps.Views
import Derived.Maps.OwnSet
import Derived.DeepKeys4
namespace Go.Proofs.Ytmmdlkeemafanaa.Q
open Go.RowKit Go.Maps

theorem laid_out : laidOutB Try.prog = true := by kernel_rfl
theorem law40 : Keyed Try.prog 40 := Keyed.of_law (deep_law_laid laid_out (m := 3) (by omega) (of_decide_eq_true (by kernel_rfl)) (by kernel_rfl) (by kernel_rfl))

theorem small_wf {x : Int} (h0 : 0 ≤ x) (h1 : x ≤ 1000) : (Lit.int .i64 x).wf = true := by
  simp [Lit.wf, IntKind.min, IntKind.max, IntKind.bits, IntKind.signed]; omega
theorem key40 {x y : Int} (hx : (Lit.int .i64 x).wf = true) (hy : (Lit.int .i64 y).wf = true) : ∃ kl, keyOf Try.prog 40 (.agg #[.int .i64 x, .int .i64 y]) = some kl := by
  have h1 : Try.prog.keyType 40 = true := by kernel_rfl
  have h2 : ∃ m, Try.prog.types.size = m + 1 := ⟨Try.prog.types.size - 1, by have : 0 < Try.prog.types.size := of_decide_eq_true (by kernel_rfl); omega⟩
  obtain ⟨m, hm⟩ := h2
  have c40 : Try.prog.cellsOf 40 = 2 := by kernel_rfl
  have c3 : Try.prog.cellsOf 3 = 1 := by kernel_rfl
  unfold keyOf
  simp only [Try.underlying40]
  rw [if_pos (by simp [h1, Value.formed, Try.underlying40, c40]), hm]
  unfold Program.keyLits
  simp [Try.underlying40, c40, c3, Program.keyLits, Try.underlying3, hx, hy, Value.cells]

theorem bool_inv {v : Value} {z : DataW Unit × List MemPlace} (h : plainElem Try.prog 4 v = some z) : ∃ x, v = .bool x ∧ z = (.lit (.bool x), []) := by
  unfold plainElem at h
  rw [Try.underlying4] at h
  cases v <;> simp at h
  exact ⟨_, rfl, h.symm⟩

/-- Block b of w is a map of at most n entries; B says which spans it has as true. -/
def SpanSet (w : World) (b n : Nat) (B : Int → Int → Bool) : Prop :=
  ∃ D : DataW Unit, w.ownsMap Try.prog 40 (plainElem Try.prog 4) b n D ∧ ∀ x y kl, keyOf Try.prog 40 (.agg #[.int .i64 x, .int .i64 y]) = some kl → D.atKey kl (.lit (.bool false)) = .lit (.bool (B x y))
theorem SpanSet.made (w : World) : SpanSet (w.alloc (.map #[] 0)) w.heap.size 0 (fun _ _ => false) := ⟨.map [], World.ownsMap_made w _ _ _, fun _ _ _ _ => rfl⟩
theorem SpanSet.keep {w w' : World} {b n : Nat} {B : Int → Int → Bool} (h : SpanSet w b n B) (hb : Below w.heap.size w w') : SpanSet w' b n B := by
  obtain ⟨D, ho, hB⟩ := h
  exact ⟨D, ho.kept (row := none) ⟨hb.os, hb.tape, hb.output, hb.size, fun i hi _ => hb.block i hi⟩ (by simp), hB⟩

section
variable {w : World} {ops : Array Oper} {rest : List Oper} {o : Oper} {a : Act} {Q : Exit → Act → World → Prop}
theorem set_lookup (hg : o.guard = none) (m k : Operand) (hop : o.op = Op.lookup 36 m k false) (b n : Nat) (B : Int → Int → Bool) (hm : a.eval m = .map (some b)) (hS : SpanSet w b n B)
    (x y : Int) (hk : a.eval k = .agg #[.int .i64 x, .int .i64 y]) (hx : (Lit.int .i64 x).wf = true) (hy : (Lit.int .i64 y).wf = true)
    (h : wpList Try.prog ops Q rest (a.put o.dst (.bool (B x y))) w) : wpList Try.prog ops Q (o :: rest) a w := by
  refine wpList_plain hg fun K' hK' => ?_
  obtain ⟨D, ho, hB⟩ := hS
  obtain ⟨kl, hkl⟩ := key40 hx hy
  obtain ⟨v, ps, hrun, hv⟩ := ho.lookup law40 Try.underlying36 (Try.zeroValue4 w) (plainElem_bool (H := Unit) Try.underlying4 false) hkl
  obtain ⟨c, rfl, hc⟩ := bool_inv hv
  rw [hB x y kl hkl] at hc
  have hc' : B x y = c := by simpa using congrArg Prod.fst hc
  subst hc'
  unfold Oper.wp
  simp [execOp, hop, hm, hk, hrun, Result.andThen]
  exact hK' _ _ h
theorem set_update (hg : o.guard = none) (m k v : Operand) (hop : o.op = Op.mapUpdate 36 m k v) (b n : Nat) (B : Int → Int → Bool) (hm : a.eval m = .map (some b)) (hS : SpanSet w b n B) (hn : n < maxLen)
    (x y : Int) (hk : a.eval k = .agg #[.int .i64 x, .int .i64 y]) (hx : (Lit.int .i64 x).wf = true) (hy : (Lit.int .i64 y).wf = true) (hv : a.eval v = .bool true)
    (h : ∀ w', SpanSet w' b (n + 1) (fun p q => (p == x && q == y) || B p q) → w.grownBy w' (some b) → wpList Try.prog ops Q rest (a.put o.dst undef) w') : wpList Try.prog ops Q (o :: rest) a w := by
  obtain ⟨D, ho, hB⟩ := hS
  obtain ⟨kl, hkl⟩ := key40 hx hy
  refine wpList_mapUpdate_own (H := Unit) w hg m k v 36 hop 40 4 law40 Try.underlying36 _ b n D hm ho hn _ _ kl hk hv hkl _ _ (plainElem_bool Try.underlying4 true) ?_
  intro w' h1 h2
  refine h w' ⟨_, h1, fun p q kq hq => ?_⟩ h2
  by_cases e : kq = kl
  · subst e
    rw [atKey_put_same ho.isMap (law40.key hkl)]
    have := law40.inj hq hkl
    simp at this
    simp [this.1, this.2]
  · rw [atKey_put_other e, hB p q kq hq]
    have : ¬ (p = x ∧ q = y) := by rintro ⟨rfl, rfl⟩; rw [hq] at hkl; exact e (Option.some.inj hkl)
    by_cases ep : p = x
    · have eq : q ≠ y := fun eq => this ⟨ep, eq⟩
      simp [eq]
    · simp [ep]
end
end Go.Proofs.Ytmmdlkeemafanaa.Q
