import Derived.Test.YtmmdlkeemafanaaMb
import Derived.ProofKit
import Derived.Deep.SlicePairs
import Derived.Deep.Strs
import Derived.Lib.SmallJoins
import Derived.SizedLaws
namespace Go.Proofs.Ytmmdlkeemafanaa.Q
set_option linter.unusedVariables false
open Go.ChangeShapes Go.WideShapes Go.ChangeAt Go.RowKit Go.Joins Go.Deep
open Go.Proofs.YtmmdlkeemafanaaW Go.Proofs.YtmmdlkeemafanaaW.PrintWords

theorem cells3 : Try.prog.cellsOf 3 = 1 := by kernel_rfl
theorem cells22 : Try.prog.cellsOf 22 = 1 := by kernel_rfl
theorem cells38 : Try.prog.cellsOf 38 = 3 := by kernel_rfl
theorem bytes3 : Try.prog.bytesOf 3 = 8 := by kernel_rfl

/-- A slice of whole numbers: what it reads as; and its length as its datum tells it. -/
theorem open_nums {H : Type} {enc : TypeId × Value → H} {W : World} {n : Nat} {v : Value} {y : DataW H × List MemPlace} (h : DataW.trod enc Try.prog W 0 (fun _ => true) true n 22 [v] = some y) :
    ∃ (A : Option Addr) (c : Nat) (l : List Int), v = .slice A l.length c ∧ l.length ≤ c ∧ Kd.C (Kd.int .i64) W A l.length l ∧ (l = [] ∨ ∃ elems spare, y.1 = .slice elems spare ∧ elems.length = l.length) := by
  rcases open_slice Try.underlying22 h with ⟨hcs, _⟩ | ⟨a, len, cap, m, n', D, Pl, hcs, _, hl, hm, hmm, hy, hx⟩
  · simp at hcs
    exact ⟨none, 0, [], hcs, by simp, ⟨rfl, by simp, fun h => absurd h (by simp)⟩, .inl rfl⟩
  · simp at hcs
    have hlm : len ≤ m := by rw [hmm]; simp; omega
    have each : ∀ i, i < m → ∃ x : Int, W.cell? (a.add i) = some (.int .i64 x) := by
      intro i hi
      obtain ⟨cs', h1, h2⟩ := hx i hi
      rw [cells3, Nat.mul_one] at h1
      obtain ⟨_, hlen, hcell⟩ := World.cells?_some h1
      obtain ⟨x, e, _, _⟩ := DataW.trod_int Try.underlying3 h2
      have := hcell 0 (by omega)
      rw [e, PrintWords.add_add, Nat.add_zero] at this
      exact ⟨x, by simpa using this⟩
    obtain ⟨g, hg⟩ := choose_lt each
    refine ⟨some a, cap, (List.range len).map g, by simpa using hcs, by simpa using hl, ⟨rfl, ?_, fun _ => ⟨a, rfl, fun j q hj => ?_⟩⟩, .inr ⟨_, _, by rw [hy], by simp⟩⟩
    · simp only [List.length_map, List.length_range]
      unfold maxLen at hm
      omega
    · have hj' : j < len := by have := (List.getElem?_eq_some_iff.1 hj).1; simpa using this
      obtain rfl : g j = q := by simpa [hj'] using hj
      refine ⟨[.int .i64 (g j)], rfl, rfl, fun i u hu => ?_⟩
      obtain rfl : i = 0 := by have := (List.getElem?_eq_some_iff.1 hu).1; simp at this; omega
      obtain rfl := Option.some.inj hu
      simpa [Kd.int, Kd.scalar] using hg j (by omega)

theorem weights_all {H : Type} (e : TypeId) : ∀ (xs : List (DataW H)) (d : DataW H), d ∈ xs → ∀ n ∈ d.weights Try.prog e, n ∈ DataW.weightsAll Try.prog e xs
  | x :: r, d, hd, n, hn => by
    simp only [DataW.weightsAll, List.mem_append]
    rcases List.mem_cons.1 hd with rfl | hd
    · exact .inl hn
    · exact .inr (weights_all e r d hd n hn)

/-- A slice of matches: what it reads as; the labels are no longer than memory. -/
theorem open_matches {H : Type} {enc : TypeId × Value → H} {W : World} {a0 : Option Addr} {len cap : Nat} {d : DataW H} {p : List MemPlace}
    (h : DataW.Trod enc Try.prog W 0 (fun _ => true) true 23 (.slice a0 len cap) d p) (hz : ∀ n ∈ d.weights Try.prog 23, n ≤ reachBytes) : ∃ l : List S38, len = l.length ∧ Kd.C k38 W a0 l.length l ∧ l.length ≤ cap ∧ ∀ m ∈ l, short m := by
  obtain ⟨fuel, hf⟩ := h
  rcases open_slice Try.underlying23 hf with ⟨hcs, _⟩ | ⟨a, l, c, m, n, D, Pl, hcs, _, hl, hm, hmm, hd, hx⟩
  · simp [Value.cells] at hcs
    obtain ⟨rfl, rfl, rfl⟩ := hcs
    exact ⟨[], rfl, ⟨rfl, by simp, fun h => absurd h (by simp)⟩, by simp, by simp⟩
  · simp [Value.cells] at hcs
    obtain ⟨rfl, rfl, rfl⟩ := hcs
    have hlm : len ≤ m := by rw [hmm]; simp; omega
    simp only [Prod.mk.injEq] at hd
    obtain ⟨rfl, _⟩ := hd
    have each : ∀ i, i < len → ∃ q : S38, (∃ A2 c2, W.cell? (a.add (i * 3)) = some (.int .i64 q.f0) ∧ W.cell? (a.add (i * 3 + 1)) = some (.int .i64 q.f1) ∧ W.cell? (a.add (i * 3 + 2)) = some (.slice A2 q.f2.length c2) ∧ q.f2.length ≤ c2 ∧ Kd.C (Kd.int .i64) W A2 q.f2.length q.f2) ∧ short q := by
      intro i hi
      obtain ⟨cs', h1, h2⟩ := hx i (by omega)
      rw [cells38] at h1
      obtain ⟨_, hlen, hcell⟩ := World.cells?_some h1
      obtain ⟨y0, y1, y2, n', hD, _, g0, g1, g2⟩ := trod_struct3 Try.underlying38 h2
      match cs', hlen with
      | [v0, v1, v2], _ =>
        simp [cells3, cells22] at g0 g1 g2
        obtain ⟨x0, e0, _, _⟩ := DataW.trod_int Try.underlying3 g0
        obtain ⟨x1, e1, _, _⟩ := DataW.trod_int Try.underlying3 g1
        simp at e0 e1
        subst e0 e1
        obtain ⟨A2, c2, l2, rfl, hl2, hC2, hw⟩ := open_nums g2
        have q0 := hcell 0 (by omega)
        have q1 := hcell 1 (by omega)
        have q2 := hcell 2 (by omega)
        rw [PrintWords.add_add] at q0 q1 q2
        refine ⟨⟨x0, x1, l2⟩, ⟨A2, c2, by simpa using q0, by simpa using q1, by simpa using q2, hl2, hC2⟩, ?_⟩
        rcases hw with rfl | ⟨elems, spare, he, hel⟩
        · simp [short]
        · have hmem : (elems.length + spare.length) * 8 ∈ DataW.weights Try.prog 23 (DataW.slice ((List.range len).map D) ((List.range (m - len)).map fun j => D (len + j))) := by
            have hDi : D i = .agg [y0.1, y1.1, y2.1] := by
              simp only [Prod.mk.injEq] at hD
              exact hD.1
            have h3 : (elems.length + spare.length) * 8 ∈ (D i).weights Try.prog 38 := by
              rw [hDi, he]
              simp [DataW.weights, DataW.weightsEach, Try.underlying38, Try.underlying22, bytes3]
            have h4 := weights_all (H := H) 38 ((List.range len).map D) (D i) (List.mem_map.2 ⟨i, List.mem_range.2 hi, rfl⟩) _ h3
            simp only [DataW.weights, Try.underlying23, List.mem_cons, List.mem_append]
            exact .inr (.inl h4)
          have h5 := hz _ hmem
          have h6 : reachBytes = 140737488351232 := rfl
          unfold short
          simp only
          omega
    have each2 : ∀ i, i < len → ∃ q : S38, (∃ A2 c2, W.cell? (a.add (i * 3)) = some (.int .i64 q.f0) ∧ W.cell? (a.add (i * 3 + 1)) = some (.int .i64 q.f1) ∧ W.cell? (a.add (i * 3 + 2)) = some (.slice A2 q.f2.length c2) ∧ q.f2.length ≤ c2 ∧ Kd.C (Kd.int .i64) W A2 q.f2.length q.f2) ∧ short q := each
    have : Inhabited S38 := ⟨z38⟩
    obtain ⟨g, hg⟩ := choose_lt each2
    refine ⟨(List.range len).map g, by simp, ⟨rfl, ?_, fun _ => ⟨a, rfl, fun j q hj => ?_⟩⟩, by simpa using hl, ?_⟩
    · simp only [List.length_map, List.length_range]
      unfold maxLen at hm
      omega
    · have hj' : j < len := by have := (List.getElem?_eq_some_iff.1 hj).1; simpa using this
      obtain rfl : g j = q := by simpa [hj'] using hj
      obtain ⟨A2, c2, q0, q1, q2, hl2, hC2⟩ := (hg j hj').1
      refine ⟨[.int .i64 (g j).f0, .int .i64 (g j).f1, .slice A2 (g j).f2.length c2], rfl, k38_mk _ _ hl2 hC2, fun i u hu => ?_⟩
      have hi : i < 3 := (List.getElem?_eq_some_iff.1 hu).1
      obtain rfl | rfl | rfl : i = 0 ∨ i = 1 ∨ i = 2 := by omega
      · obtain rfl := Option.some.inj hu; exact q0
      · obtain rfl := Option.some.inj hu; exact q1
      · obtain rfl := Option.some.inj hu; exact q2
    · intro x hx
      obtain ⟨j, hj, rfl⟩ := List.mem_map.1 hx
      exact (hg j (List.mem_range.1 hj)).2
end Go.Proofs.Ytmmdlkeemafanaa.Q
