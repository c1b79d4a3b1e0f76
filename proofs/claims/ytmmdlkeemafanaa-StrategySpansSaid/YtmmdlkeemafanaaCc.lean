import Derived.Test.YtmmdlkeemafanaaCa
import Derived.Test.YtmmdlkeemafanaaCb
import Derived.Test.YtmmdlkeemafanaaNn
namespace Go.Proofs.Ytmmdlkeemafanaa.Q
open Go.RowKit Go.Lib Go.Sort Go.Proofs.YtmmdlkeemafanaaW Go.Proofs.YtmmdlkeemafanaaW.PrintWords

theorem ltN (x y : Int × Int) : ltOf cfN x y = decide (x.1 < y.1 ∨ (x.1 = y.1 ∧ x.2 < y.2)) := by
  unfold ltOf cfN Lib.compareInt
  by_cases h1 : x.1 < y.1
  · simp [h1]
  · by_cases h2 : y.1 < x.1
    · simp [h1, h2]; omega
    · have h3 : x.1 = y.1 := by omega
      by_cases h4 : x.2 < y.2
      · simp [h3, h4]
      · by_cases h5 : y.2 < x.2 <;> simp [h3, h4, h5]

theorem swoN : SWO (ltOf cfN) where
  irrefl x := by rw [ltN]; simp
  trans x y z h1 h2 := by rw [ltN] at *; simp at *; omega
  ntrans x y z h1 h2 := by rw [ltN] at *; simp at *; omega

theorem totN (x y : Int × Int) (h1 : ltOf cfN x y = false) (h2 : ltOf cfN y x = false) : x = y := by
  rw [ltN] at *
  simp at *
  exact Prod.ext (by omega) (by omega)

/-- The cells of a list of spans, one behind the other. -/
def flatS (l : List S40) : List Value := l.flatMap fun x => [.int .i64 x.f0, .int .i64 x.f1]
theorem flatS_length (l : List S40) : (flatS l).length = l.length * 2 := by
  induction l with
  | nil => rfl
  | cons a t ih => simp only [flatS, List.flatMap_cons, List.length_append, List.length_cons] at *; simp at *; omega
theorem flatS_get (l : List S40) : ∀ j, j < l.length → (flatS l)[j * 2]? = some (.int .i64 (l.getD j z40).f0) ∧ (flatS l)[j * 2 + 1]? = some (.int .i64 (l.getD j z40).f1) := by
  induction l with
  | nil => intro j hj; simp at hj
  | cons a t ih =>
    intro j hj
    match j with
    | 0 => exact ⟨rfl, rfl⟩
    | j + 1 =>
      have := ih j (by simpa using hj)
      have e : flatS (a :: t) = .int .i64 a.f0 :: .int .i64 a.f1 :: flatS t := rfl
      rw [e, show (j + 1) * 2 = j * 2 + 1 + 1 by omega]
      simpa using this
theorem flatS_one (l : List S40) : ∀ u ∈ flatS l, u.oneCell' = true := by
  intro u hu
  simp only [flatS, List.mem_flatMap] at hu
  obtain ⟨x, _, hu⟩ := hu
  simp at hu
  rcases hu with rfl | rfl <;> rfl
theorem reps_flatS (R : S40 → List Value → Prop) (hR : ∀ x, R x [.int .i64 x.f0, .int .i64 x.f1]) (l : List S40) : Reps R 2 l (flatS l) := by
  refine ⟨flatS_length l, fun j p hj => ?_⟩
  have hlt := (List.getElem?_eq_some_iff.1 hj).1
  have h := flatS_get l j hlt
  have hp : l.getD j z40 = p := by rw [List.getD_eq_getElem?_getD, hj]; rfl
  rw [hp] at h
  have e : (List.take 2 (List.drop (j * 2) (flatS l))) = [.int .i64 p.f0, .int .i64 p.f1] := by
    apply List.ext_getElem?
    intro i
    rw [List.getElem?_take]
    split
    · rw [List.getElem?_drop]
      rename_i hi
      obtain rfl | rfl : i = 0 ∨ i = 1 := by omega
      · exact h.1
      · exact h.2
    · rw [List.getElem?_eq_none]; simp; omega
  rw [e]
  exact hR p

theorem R_of_flat {W : World} {base : Nat} {v : Value} {l : List S40} (h : W.ownsRow base 40 2 v l.length (flatS l)) : Kd.R k40 40 W base (fun _ => True) v l :=
  ⟨fun _ _ => trivial, flatS l, h, reps_flatS _ (fun x => k40_mkM _ _ _ x) l⟩

end Go.Proofs.Ytmmdlkeemafanaa.Q
