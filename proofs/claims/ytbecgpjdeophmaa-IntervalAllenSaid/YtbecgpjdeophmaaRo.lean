import Derived.Test.YtbecgpjdeophmaaQx0
import Derived.ProofKit
import Derived.Deep.SlicePairs
import Derived.Lib.SmallJoins
namespace Go.Proofs.Ytbecgpjdeophmaa.Q
open Go.ChangeShapes Go.WideShapes Go.ChangeAt Go.RowKit Go.Joins Go.Deep
open Go.Proofs.YtbecgpjdeophmaaW Go.Proofs.YtbecgpjdeophmaaW.PrintWords

theorem cells3 : Try.prog.cellsOf 3 = 1 := by kernel_rfl
theorem cells23 : Try.prog.cellsOf 23 = 2 := by kernel_rfl

/-- A span by value. -/
theorem open_span {H : Type} {enc : TypeId × Value → H} {W : World} {b0 base : Nat} {spare : Nat → Bool} {held : Bool} {v : Value} {d : DataW H} {p : List MemPlace}
    (hv : Value.okWide Try.prog W .any b0 23 v) (h : DataW.Trod enc Try.prog W base spare held 23 v d p) : ∃ x y : Int, v = .agg #[.int .i64 x, .int .i64 y] := by
  obtain ⟨c0, c1, y0, y1, m, rfl, _, _, hy0, hy1⟩ := open_agg2 Try.underlying23 (by kernel_rfl) cells23 hv h
  obtain ⟨a, e0, _, _⟩ := DataW.trod_int Try.underlying3 hy0
  obtain ⟨b, e1, _, _⟩ := DataW.trod_int Try.underlying3 hy1
  simp at e0 e1
  subst e0 e1
  exact ⟨a, b, rfl⟩

/-- A slice of spans: what it reads as. -/
theorem open_spans {H : Type} {enc : TypeId × Value → H} {W : World} {a0 : Option Addr} {len cap : Nat} {d : DataW H} {p : List MemPlace}
    (h : DataW.Trod enc Try.prog W 0 (fun _ => true) true 28 (.slice a0 len cap) d p) : ∃ l : List S23, len = l.length ∧ Kd.C k23 W a0 l.length l ∧ l.length ≤ cap := by
  obtain ⟨fuel, hf⟩ := h
  rcases open_slice_pairs Try.underlying28 Try.underlying23 cells23 rfl rfl cells3 cells3 hf with ⟨hcs, _⟩ | ⟨a, l, c, m, n, V0, V1, D0, D1, P0, P1, hcs, _, hl, hm, hmm, _, hx⟩
  · simp [Value.cells] at hcs
    obtain ⟨rfl, rfl, rfl⟩ := hcs
    exact ⟨[], rfl, ⟨rfl, by simp, fun h => absurd h (by simp)⟩, by simp⟩
  · simp [Value.cells] at hcs
    obtain ⟨rfl, rfl, rfl⟩ := hcs
    have hlm : len ≤ m := by rw [hmm]; simp; omega
    have hint : ∀ (f : Nat → Value) (D : Nat → DataW H) (Pl : Nat → List MemPlace), (∀ i, i < m → DataW.trod enc Try.prog W 0 (fun _ => true) true n 3 [f i] = some (D i, Pl i)) → ∀ i, i < m → ∃ x : Int, f i = .int .i64 x := by
      intro f D Pl hf i hi
      obtain ⟨x, e, _, _⟩ := DataW.trod_int Try.underlying3 (hf i hi)
      simp at e
      exact ⟨x, e⟩
    have h0 := hint V0 D0 P0 (fun i hi => (hx i hi).2.2.1)
    have h1 := hint V1 D1 P1 (fun i hi => (hx i hi).2.2.2)
    have pick : ∀ (f : Nat → Value), (∀ i, i < m → ∃ x : Int, f i = .int .i64 x) → ∃ g : Nat → Int, ∀ i, i < m → f i = .int .i64 (g i) := by
      intro f hf
      refine ⟨fun i => match f i with | .int _ x => x | _ => 0, fun i hi => ?_⟩
      obtain ⟨x, e⟩ := hf i hi
      simp only [e]
    obtain ⟨g0, e0⟩ := pick V0 h0
    obtain ⟨g1, e1⟩ := pick V1 h1
    refine ⟨(List.range len).map fun i => ⟨g0 i, g1 i⟩, by simp, ⟨rfl, ?_, fun _ => ⟨a, rfl, fun j q hj => ?_⟩⟩, by simpa using hl⟩
    · simp only [List.length_map, List.length_range]
      unfold maxLen at hm
      omega
    · have hj' : j < len := by have := (List.getElem?_eq_some_iff.1 hj).1; simpa using this
      obtain rfl : (⟨g0 j, g1 j⟩ : S23) = q := by simpa [hj'] using hj
      refine ⟨[.int .i64 (g0 j), .int .i64 (g1 j)], rfl, k23_mk _ _, fun i u hu => ?_⟩
      have hc := hx j (by omega)
      rw [e0 j (by omega), e1 j (by omega)] at hc
      have hi : i < 2 := (List.getElem?_eq_some_iff.1 hu).1
      obtain rfl | rfl : i = 0 ∨ i = 1 := by omega
      · obtain rfl := Option.some.inj hu; exact hc.1
      · obtain rfl := Option.some.inj hu; exact hc.2.1
end Go.Proofs.Ytbecgpjdeophmaa.Q
