import Derived.Test.YtmmdlkeemafanaaQx0
import Derived.Lib.SlicesCompact
namespace Go.Proofs.Ytmmdlkeemafanaa.Q
open Go.Lib Go.Sort

/-- Spans in a normal list's order: the begins ascend; of one begin the ends. -/
def lt40 (x y : S40) : Prop := x.f0 < y.f0 ∨ (x.f0 = y.f0 ∧ x.f1 < y.f1)
instance (x y : S40) : Decidable (lt40 x y) := by unfold lt40; infer_instance
theorem lt40_irrefl (x : S40) : ¬ lt40 x x := by unfold lt40; omega
theorem lt40_trans {x y z : S40} (h : lt40 x y) (k : lt40 y z) : lt40 x z := by unfold lt40 at *; omega
theorem lt40_total {x y : S40} (h : ¬ lt40 x y) (k : ¬ lt40 y x) : x = y := by
  cases x; cases y
  unfold lt40 at *
  simp only [S40.mk.injEq]
  simp only at h k
  omega
theorem S40_ext {x y : S40} (h : x.f0 = y.f0) (k : x.f1 = y.f1) : x = y := by cases x; cases y; simp_all

def ins : List S40 → S40 → List S40
  | [], s => [s]
  | x :: t, s => if lt40 x s then x :: ins t s else if x.f0 = s.f0 ∧ x.f1 = s.f1 then x :: t else s :: x :: t
def nrm (l : List S40) : List S40 := l.foldl ins []

/-- A normal list. -/
def Asc (l : List S40) : Prop := l.Pairwise lt40

theorem mem_ins (l : List S40) (s x : S40) : x ∈ ins l s ↔ x = s ∨ x ∈ l := by
  induction l with
  | nil => simp [ins]
  | cons a t ih =>
    unfold ins
    split
    · simp only [List.mem_cons, ih]
      constructor
      · rintro (h | h | h) <;> simp [h]
      · rintro (h | h | h) <;> simp [h]
    · split
      · rename_i _ h
        have e : a = s := S40_ext h.1 h.2
        subst e
        simp
      · simp

theorem asc_ins {l : List S40} (h : Asc l) (s : S40) : Asc (ins l s) := by
  induction l with
  | nil => simp [ins, Asc]
  | cons a t ih =>
    have h' := List.pairwise_cons.1 h
    unfold ins
    split
    · rename_i hlt
      refine List.pairwise_cons.2 ⟨fun x hx => ?_, ih h'.2⟩
      rcases (mem_ins t s x).1 hx with rfl | hx
      · exact hlt
      · exact h'.1 x hx
    · split
      · exact h
      · rename_i hn he
        have hlt : lt40 s a := by
          unfold lt40 at *
          omega
        refine List.pairwise_cons.2 ⟨fun x hx => ?_, h⟩
        rcases List.mem_cons.1 hx with rfl | hx
        · exact hlt
        · exact lt40_trans hlt (h'.1 x hx)

theorem foldl_ins (l : List S40) : ∀ m, Asc m → Asc (l.foldl ins m) ∧ ∀ x, x ∈ l.foldl ins m ↔ x ∈ m ∨ x ∈ l := by
  induction l with
  | nil => intro m hm; exact ⟨hm, fun x => by simp⟩
  | cons a t ih =>
    intro m hm
    obtain ⟨h1, h2⟩ := ih (ins m a) (asc_ins hm a)
    refine ⟨h1, fun x => ?_⟩
    rw [List.foldl_cons, h2, mem_ins, List.mem_cons]
    constructor
    · rintro ((h | h) | h) <;> simp [h]
    · rintro (h | h | h) <;> simp [h]

theorem asc_nrm (l : List S40) : Asc (nrm l) := (foldl_ins l [] List.Pairwise.nil).1
theorem mem_nrm (l : List S40) (x : S40) : x ∈ nrm l ↔ x ∈ l := by
  have := (foldl_ins l [] List.Pairwise.nil).2 x
  simpa [nrm] using this

theorem asc_unique : ∀ {l m : List S40}, Asc l → Asc m → (∀ x, x ∈ l ↔ x ∈ m) → l = m
  | [], [], _, _, _ => rfl
  | [], b :: m, _, _, h => by have := (h b).2 (by simp); simp at this
  | a :: l, [], _, _, h => by have := (h a).1 (by simp); simp at this
  | a :: l, b :: m, hl, hm, h => by
    have hl' := List.pairwise_cons.1 hl
    have hm' := List.pairwise_cons.1 hm
    have e : a = b := by
      have h1 := List.mem_cons.1 ((h a).1 (by simp))
      have h2 := List.mem_cons.1 ((h b).2 (by simp))
      rcases h1 with h1 | h1
      · exact h1
      · rcases h2 with h2 | h2
        · exact h2.symm
        · exact absurd (lt40_trans (hm'.1 a h1) (hl'.1 b h2)) (lt40_irrefl _)
    subst e
    rw [asc_unique hl'.2 hm'.2 fun x => ?_]
    have hx := h x
    simp only [List.mem_cons] at hx
    constructor
    · intro hxl
      rcases hx.1 (.inr hxl) with rfl | h
      · exact absurd (hl'.1 x hxl) (lt40_irrefl _)
      · exact h
    · intro hxm
      rcases hx.2 (.inr hxm) with rfl | h
      · exact absurd (hm'.1 x hxm) (lt40_irrefl _)
      · exact h

theorem nrm_unique {l m : List S40} (hm : Asc m) (h : ∀ x, x ∈ m ↔ x ∈ l) : m = nrm l :=
  asc_unique hm (asc_nrm l) fun x => by rw [h, mem_nrm]

theorem length_ins (l : List S40) (s : S40) : (ins l s).length ≤ l.length + 1 := by
  induction l with
  | nil => simp [ins]
  | cons a t ih =>
    unfold ins
    split
    · simp; omega
    · split <;> simp

theorem length_foldl (l : List S40) : ∀ m : List S40, (l.foldl ins m).length ≤ m.length + l.length := by
  induction l with
  | nil => simp
  | cons a t ih => intro m; have := ih (ins m a); have := length_ins m a; simp only [List.foldl_cons, List.length_cons]; omega
theorem length_nrm (l : List S40) : (nrm l).length ≤ l.length := by simpa [nrm] using length_foldl l []

/-! ### the sort's words: arrays of pairs -/
def toP (x : S40) : Int × Int := (x.f0, x.f1)
def ofP (p : Int × Int) : S40 := ⟨p.1, p.2⟩
def toA (l : List S40) : Array (Int × Int) := (l.map toP).toArray

theorem compact_asc (d : Array (Int × Int)) (hs : ∀ i j, i < j → j < d.size → ¬ lt40 (ofP d[j]!) (ofP d[i]!)) : Asc ((compactUpTo d d.size).map ofP) := by
  unfold compactUpTo Asc
  rw [List.map_map, List.pairwise_map]
  have h1 : ((List.range d.size).filter (keeps d)).Pairwise fun i j => i < j ∧ keeps d j = true ∧ j < d.size := by
    have h0 : (List.range d.size).Pairwise fun i j => i < j := List.pairwise_lt_range
    have h2 := h0.filter (keeps d)
    refine List.Pairwise.imp_of_mem ?_ h2
    intro a b _ hb hab
    have := List.mem_filter.1 hb
    exact ⟨hab, this.2, List.mem_range.1 this.1⟩
  refine h1.imp ?_
  rintro i j ⟨hij, hk, hj⟩
  simp only [Function.comp]
  have hne : d[j]! ≠ d[j - 1]! := by
    have : j = 0 ∨ d[j]! ≠ d[j - 1]! := by simpa [keeps] using hk
    rcases this with h | h
    · omega
    · exact h
  have a1 : ¬ lt40 (ofP d[j]!) (ofP d[i]!) := hs i j hij hj
  by_cases e : lt40 (ofP d[i]!) (ofP d[j]!)
  · exact e
  · have e2 := lt40_total e a1
    -- equal ends: all between are equal, too
    exfalso
    have a2 : ¬ lt40 (ofP d[j]!) (ofP d[j - 1]!) := hs (j - 1) j (by omega) hj
    have a3 : ¬ lt40 (ofP d[j - 1]!) (ofP d[i]!) := by
      by_cases hi : i = j - 1
      · rw [← hi]; exact lt40_irrefl _
      · exact hs i (j - 1) (by omega) (by omega)
    rw [← e2] at a2
    have e3 := lt40_total a2 a3
    rw [e2] at e3
    apply hne
    simp only [ofP, S40.mk.injEq] at e3
    exact Prod.ext e3.1 e3.2

theorem mem_compact (d : Array (Int × Int)) (x : Int × Int) : x ∈ compactUpTo d d.size ↔ ∃ j, j < d.size ∧ d[j]! = x := by
  unfold compactUpTo
  simp only [List.mem_map, List.mem_filter, List.mem_range]
  constructor
  · rintro ⟨j, ⟨h1, _⟩, h2⟩
    exact ⟨j, h1, h2⟩
  · rintro ⟨j, h1, h2⟩
    induction j with
    | zero => exact ⟨0, ⟨h1, by simp [keeps]⟩, h2⟩
    | succ j ih =>
      by_cases e : d[j]! = d[j + 1]!
      · exact ih (by omega) (by rw [e]; exact h2)
      · exact ⟨j + 1, ⟨h1, by simp [keeps]; exact fun h => e h.symm⟩, h2⟩

theorem compact_nrm (l : List S40) (d : Array (Int × Int)) (hs : ∀ i j, i < j → j < d.size → ¬ lt40 (ofP d[j]!) (ofP d[i]!)) (hm : ∀ x, x ∈ d.toList ↔ ofP x ∈ l) : (compactUpTo d d.size).map ofP = nrm l := by
  refine nrm_unique (compact_asc d hs) fun x => ?_
  simp only [List.mem_map]
  constructor
  · rintro ⟨p, hp, rfl⟩
    obtain ⟨j, hj, rfl⟩ := (mem_compact d p).1 hp
    refine (hm _).1 ?_
    rw [getElem!_pos d j hj]
    simp
  · intro hx
    refine ⟨toP x, ?_, rfl⟩
    have hx' := (hm (toP x)).2 hx
    obtain ⟨j, hj, e⟩ := List.mem_iff_getElem.1 hx'
    refine (mem_compact d _).2 ⟨j, by simpa using hj, ?_⟩
    rw [getElem!_pos d j (by simpa using hj), ← e]
    simp
end Go.Proofs.Ytmmdlkeemafanaa.Q
