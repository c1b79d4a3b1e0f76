import Derived.Test.YtmmdlkeemafanaaQx0
import Derived.Test.YtmmdlkeemafanaaQx1
import Derived.Test.YtmmdlkeemafanaaSp
namespace Go.Proofs.Ytmmdlkeemafanaa.Q
open Go.RowKit Go.Lib Go.Proofs.YtmmdlkeemafanaaW Go.Proofs.YtmmdlkeemafanaaW.PrintWords

/-! ### slices_Clone_int_int: function 31 -/
def slices_Clone_int_int.f (l0 : List Int) : Option (List Int) := if l0.length < 17592186044416 then some l0 else none

/-- slices.Clone of whole numbers. -/
theorem clone_int (ad : Addr) (n c : Nat) (news : List Value) (w : World) (hl : news.length = n * 1) (hn : n < 17592186044416)
    (hc : ∀ j u, news[j]? = some u → w.cell? (ad.add j) = some u) (h1 : ∀ u ∈ news, u.oneCell' = true) :
    Calls Try.prog 31 #[.slice (some ad) n c] w fun e w' => ∃ v', e = .returned v' ∧ w'.ownsRow w.heap.size 3 1 v' n news ∧ Below w.heap.size w w' := by
  obtain ⟨i0, hi, hzz⟩ := Option.map_eq_some_iff.1 info3
  simp only [Prod.mk.injEq] at hzz
  obtain ⟨hz0, hz1, hz2⟩ := hzz
  have q22 : ∀ (w : World) (a : Option Addr) (n c n' c' : Nat), (binOp .eql 22 (.slice a n c) (.slice none n' c')).run Try.prog w = .ok (.bool a.isNone) w := fun w a n c n' c' => Lib.run_eql_slice_nil w _ _ a n c n' c' Try.underlying22
  have u22 : ∀ w, Sem.run Try.prog (underlying 22) w = .ok (TypeDesc.slice 3) w := run_underlying Try.underlying22
  have A := Aside0.mk hc
  clear hc
  have Z0 := Aside0.mk (And.intro hi (And.intro hz0 (And.intro hz1 hz2)))
  clear hi hz0 hz1 hz2
  go_enter Try.func31, Try.ntmps31
  go_wp2_with (at_builtin; refine wpList_append_own _ rfl _ _ 22 rfl w.heap.size 3 i0 _ 1 8 Try.underlying22 Z0.out.1 Z0.out.2.1 Z0.out.2.2.1 Z0.out.2.2.2 (by rfl) (by decide) _ _ _ rfl (World.ownsRow_made w #[] 0 (Nat.le_refl _) (Nat.zero_le _) (by simp)) ad n c news rfl ?qc1 ?qc2 ?qc3 ?qc4 ?qc5 ?qc6 ?_)
  case qc1 => exact hl
  case qc2 =>
    intro j u hj
    exact Lib.cell?_alloc_some _ (A.out j u hj)
  case qc3 => exact h1
  case qc4 => rw [Nat.zero_add]; simp only [maxLen]; omega
  case qc5 => omega
  case qc6 => simp
  intro v' w1 hown hgrow hnil
  go_wp2
  go_ret
  exact ⟨v', rfl, by simpa using hown, ((Below.refl _ w).alloc (Nat.le_refl _) _).grown hgrow (by simp) (by intro k hk; simp [Value.ownBlock] at hk; omega)⟩

theorem slices_Clone_int_int.calls (A0 : Option Addr) (c0 : Nat) (l0 : List Int) (r : List Int) (w : World) (hr0 : Kd.C (Kd.int .i64) w A0 l0.length l0) (hc0 : l0.length ≤ c0) (h : slices_Clone_int_int.f l0 = some r) :
    Calls Try.prog 31 #[.slice A0 l0.length c0] w fun e w' => ∃ v0_ : Value, e = .returned (v0_) ∧ Kd.R (Kd.int .i64) 3 w' w.heap.size (fun _ => True) v0_ r ∧ Below w.heap.size w w' := by
  unfold slices_Clone_int_int.f at h
  split at h
  case isFalse => simp at h
  rename_i hn
  obtain rfl := Option.some.inj h
  match A0 with
  | none =>
    have h0 : l0.length = 0 := by
      rcases Nat.eq_zero_or_pos l0.length with h | h
      · exact h
      · obtain ⟨ad, e, _⟩ := hr0.2.2 h
        cases e
    obtain rfl : l0 = [] := List.length_eq_zero_iff.1 h0
    refine (AnyE.slices_Clone_nil Try.cloneInt 0 c0 w).mono fun _ _ h => ?_
    obtain ⟨rfl, rfl⟩ := h
    exact ⟨_, rfl, Kd.R_nil _ _ _ _ _, Below.refl _ _⟩
  | some ad =>
    refine (clone_int ad l0.length c0 (encs (Value.int .i64) l0) w (by simp [encs]) hn ?_ ?_).mono ?_
    · intro j u hj
      have hlt : j < l0.length := by have := (List.getElem?_eq_some_iff.1 hj).1; simpa [encs] using this
      obtain ⟨ad', e, hc⟩ := hr0.2.2 (by omega)
      obtain rfl := Option.some.inj e
      obtain ⟨c, hc1, hK, hcell⟩ := hc j _ (List.getElem?_eq_getElem hlt)
      obtain rfl : c = [.int .i64 l0[j]] := hK
      have := hcell 0 _ rfl
      have e2 : u = .int .i64 l0[j] := by
        rw [encs, List.getElem?_map, List.getElem?_eq_getElem hlt] at hj
        exact (Option.some.inj hj).symm
      rw [e2]
      simpa [Kd.int, Kd.scalar] using this
    · intro u hu
      obtain ⟨x, _, rfl⟩ := List.mem_map.1 hu
      rfl
    · rintro e w' ⟨v', rfl, ho, hb⟩
      exact ⟨v', rfl, Kd.R_of_own (enc := Value.int .i64) ho (fun _ _ => trivial), hb⟩
end Go.Proofs.Ytmmdlkeemafanaa.Q
