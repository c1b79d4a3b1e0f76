import Derived.Test.YtmmdlkeemafanaaMb
import Derived.Test.YtmmdlkeemafanaaQm
namespace Go.Proofs.Ytmmdlkeemafanaa.Q
open Go.RowKit Go.Proofs.YtmmdlkeemafanaaW Go.Proofs.YtmmdlkeemafanaaW.PrintWords

/-! ### what the reference chooses -/
def contB (a b : S40) : Bool := decide (a.f0 ≤ b.f0) && decide (b.f1 ≤ a.f1)
theorem contB_iff {a b : S40} : contB a b = true ↔ a.f0 ≤ b.f0 ∧ b.f1 ≤ a.f1 := by simp [contB]
theorem cont_f (a b c d : Int) : corporaref27_Contains.f a b c d = some (contB ⟨a, b⟩ ⟨c, d⟩) := by
  unfold corporaref27_Contains.f contB
  by_cases h : a ≤ c <;> simp [h]
/-- Nothing that the strategy asks about stands between the two. -/
def good (st : Int) (s t : S40) : Bool := decide (t = s) || !((decide (st = 1) && contB s t) || (decide (st = 2) && contB t s))
def keepS (st : Int) (L : List S40) (s : S40) : Bool := L.all (good st s)

theorem get_inj {L : List S40} (h : Asc L) {i j : Nat} (hi : i < L.length) (hj : j < L.length) (e : L[i] = L[j]) : i = j := by
  rcases Nat.lt_trichotomy i j with c | c | c
  · have := asc_get h c hj; rw [e] at this; exact absurd this (lt40_irrefl _)
  · exact c
  · have := asc_get h c hi; rw [e] at this; exact absurd this (lt40_irrefl _)

/-- The walk over an ascending list. -/
def trad : List S40 → Int → List S40
  | [], _ => []
  | [s], p => if s.f0 < p then [] else [s]
  | s :: t :: u, p => if s.f0 < p then trad (t :: u) p else if t.f0 = s.f0 then trad (t :: u) p else s :: trad (t :: u) s.f1

def Vl (x : S40) : Prop := 0 ≤ x.f0 ∧ x.f0 < x.f1

end Go.Proofs.Ytmmdlkeemafanaa.Q
