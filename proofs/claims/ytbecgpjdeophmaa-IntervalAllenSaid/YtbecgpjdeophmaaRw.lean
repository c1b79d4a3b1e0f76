import Derived.Test.YtbecgpjdeophmaaRo
import Derived.Test.YtbecgpjdeophmaaLi
namespace Go.Proofs.Ytbecgpjdeophmaa.Q
set_option linter.unusedVariables false
open Go.ChangeShapes Go.WideShapes Go.ChangeAt Go.RowKit Go.Joins Go.Deep
open Go.Proofs.YtbecgpjdeophmaaW Go.Proofs.YtbecgpjdeophmaaW.PrintWords

theorem lit_le {n : Int} (h : (Lit.int .i64 n).wf = true) : n ≤ 9223372036854775807 := by
  simp only [Lit.wf, Bool.and_eq_true, decide_eq_true_eq] at h
  exact h.2

/-- A slice of spans: what it reads as; the ends are words of the machine. -/
theorem open_wspans {H : Type} {enc : TypeId × Value → H} {W : World} {a0 : Option Addr} {len cap : Nat} {d : DataW H} {p : List MemPlace}
    (h : DataW.Trod enc Try.prog W 0 (fun _ => true) true 28 (.slice a0 len cap) d p) : ∃ l : List S23, len = l.length ∧ Kd.C k23 W a0 l.length l ∧ l.length ≤ cap ∧ ∀ x ∈ l, Wrd x := by
  obtain ⟨fuel, hf⟩ := h
  rcases open_slice_pairs Try.underlying28 Try.underlying23 cells23 rfl rfl cells3 cells3 hf with ⟨hcs, _⟩ | ⟨a, l, c, m, n, V0, V1, D0, D1, P0, P1, hcs, _, hl, hm, hmm, _, hx⟩
  · simp [Value.cells] at hcs
    obtain ⟨rfl, rfl, rfl⟩ := hcs
    exact ⟨[], rfl, ⟨rfl, by simp, fun h => absurd h (by simp)⟩, by simp, by simp⟩
  · simp [Value.cells] at hcs
    obtain ⟨rfl, rfl, rfl⟩ := hcs
    have hlm : len ≤ m := by rw [hmm]; simp; omega
    have hint : ∀ (f : Nat → Value) (D : Nat → DataW H) (Pl : Nat → List MemPlace), (∀ i, i < m → DataW.trod enc Try.prog W 0 (fun _ => true) true n 3 [f i] = some (D i, Pl i)) → ∀ i, i < m → ∃ x : Int, f i = .int .i64 x ∧ x ≤ 9223372036854775807 := by
      intro f D Pl hf i hi
      obtain ⟨x, e, _, hwf⟩ := DataW.trod_int Try.underlying3 (hf i hi)
      simp at e
      exact ⟨x, e, lit_le hwf⟩
    have h0 := hint V0 D0 P0 (fun i hi => (hx i hi).2.2.1)
    have h1 := hint V1 D1 P1 (fun i hi => (hx i hi).2.2.2)
    have pick : ∀ (f : Nat → Value), (∀ i, i < m → ∃ x : Int, f i = .int .i64 x ∧ x ≤ 9223372036854775807) → ∃ g : Nat → Int, ∀ i, i < m → f i = .int .i64 (g i) ∧ g i ≤ 9223372036854775807 := by
      intro f hf
      refine ⟨fun i => match f i with | .int _ x => x | _ => 0, fun i hi => ?_⟩
      obtain ⟨x, e, hx⟩ := hf i hi
      simp only [e]
      exact ⟨trivial, hx⟩
    obtain ⟨g0, e0⟩ := pick V0 h0
    obtain ⟨g1, e1⟩ := pick V1 h1
    refine ⟨(List.range len).map fun i => ⟨g0 i, g1 i⟩, by simp, ⟨rfl, ?_, fun _ => ⟨a, rfl, fun j q hj => ?_⟩⟩, by simpa using hl, ?_⟩
    · simp only [List.length_map, List.length_range]
      unfold maxLen at hm
      omega
    · have hj' : j < len := by have := (List.getElem?_eq_some_iff.1 hj).1; simpa using this
      obtain rfl : (⟨g0 j, g1 j⟩ : S23) = q := by simpa [hj'] using hj
      refine ⟨[.int .i64 (g0 j), .int .i64 (g1 j)], rfl, k23_mk _ _, fun i u hu => ?_⟩
      have hc := hx j (by omega)
      rw [(e0 j (by omega)).1, (e1 j (by omega)).1] at hc
      have hi : i < 2 := (List.getElem?_eq_some_iff.1 hu).1
      obtain rfl | rfl : i = 0 ∨ i = 1 := by omega
      · obtain rfl := Option.some.inj hu; exact hc.1
      · obtain rfl := Option.some.inj hu; exact hc.2.1
    · intro x hx
      obtain ⟨j, hj, rfl⟩ := List.mem_map.1 hx
      exact (e1 j (by have := List.mem_range.1 hj; omega)).2
end Go.Proofs.Ytbecgpjdeophmaa.Q
