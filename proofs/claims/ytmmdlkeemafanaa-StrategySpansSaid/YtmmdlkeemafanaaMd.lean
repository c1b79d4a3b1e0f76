import Derived.Test.YtmmdlkeemafanaaMc
import Derived.Test.YtmmdlkeemafanaaQe
import Derived.Test.YtmmdlkeemafanaaQf
import Derived.Test.YtmmdlkeemafanaaQg
namespace Go.Proofs.Ytmmdlkeemafanaa.Q
open Go.RowKit Go.Proofs.YtmmdlkeemafanaaW Go.Proofs.YtmmdlkeemafanaaW.PrintWords

theorem keep_iff {st : Int} {L : List S40} {s : S40} : keepS st L s = true ↔ ∀ t ∈ L, t ≠ s → ¬ (st = 1 ∧ contB s t = true) ∧ ¬ (st = 2 ∧ contB t s = true) := by
  unfold keepS good
  simp only [List.all_eq_true, Bool.or_eq_true, decide_eq_true_eq, Bool.not_eq_true', Bool.or_eq_false_iff, Bool.and_eq_false_iff, decide_eq_false_iff_not]
  constructor
  · intro h t ht hne
    rcases h t ht with h | ⟨h1, h2⟩
    · exact absurd h hne
    · refine ⟨fun c => ?_, fun c => ?_⟩
      · rcases h1 with h1 | h1
        · exact h1 c.1
        · rw [c.2] at h1; exact absurd h1 (by simp)
      · rcases h2 with h2 | h2
        · exact h2 c.1
        · rw [c.2] at h2; exact absurd h2 (by simp)
  · intro h t ht
    by_cases e : t = s
    · exact .inl e
    · right
      obtain ⟨h1, h2⟩ := h t ht e
      constructor
      · by_cases c : st = 1
        · right; cases hc : contB s t
          · rfl
          · exact absurd ⟨c, hc⟩ h1
        · exact .inl c
      · by_cases c : st = 2
        · right; cases hc : contB t s
          · rfl
          · exact absurd ⟨c, hc⟩ h2
        · exact .inl c
theorem keep1 {L : List S40} {s : S40} : keepS 1 L s = true ↔ ∀ t ∈ L, t ≠ s → ¬ (s.f0 ≤ t.f0 ∧ t.f1 ≤ s.f1) := by
  rw [keep_iff]
  constructor
  · intro h t ht hne hc; exact (h t ht hne).1 ⟨rfl, contB_iff.2 hc⟩
  · intro h t ht hne; exact ⟨fun hc => h t ht hne (contB_iff.1 hc.2), fun hc => by omega⟩
theorem keep2 {L : List S40} {s : S40} : keepS 2 L s = true ↔ ∀ t ∈ L, t ≠ s → ¬ (t.f0 ≤ s.f0 ∧ s.f1 ≤ t.f1) := by
  rw [keep_iff]
  constructor
  · intro h t ht hne hc; exact (h t ht hne).2 ⟨rfl, contB_iff.2 hc⟩
  · intro h t ht hne; exact ⟨fun hc => by omega, fun hc => h t ht hne (contB_iff.1 hc.2)⟩

theorem asc_ne {L : List S40} (h : Asc L) {i j : Nat} (hi : i < L.length) (hj : j < L.length) (e : i ≠ j) : L[i] ≠ L[j] := fun h2 => e (get_inj h hi hj h2)

/-- The first one of those that begin where the j-th does. -/
theorem first_of {L : List S40} (hA : Asc L) : ∀ j, (hj : j < L.length) → ∃ i, ∃ hi : i < L.length, i ≤ j ∧ L[i].f0 = L[j].f0 ∧ L[i].f1 ≤ L[j].f1 ∧ (i = 0 ∨ ∃ h : i - 1 < L.length, L[i - 1].f0 ≠ L[i].f0) := by
  intro j
  induction j with
  | zero => intro hj; exact ⟨0, hj, Nat.le_refl _, rfl, Int.le_refl _, .inl rfl⟩
  | succ j ih =>
    intro hj
    by_cases e : (L[j]'(by omega)).f0 = L[j + 1].f0
    · obtain ⟨i, hi, h1, h2, h3, h4⟩ := ih (by omega)
      have h5 := asc_get hA (i := j) (j := j + 1) (by omega) hj
      unfold lt40 at h5
      exact ⟨i, hi, by omega, by omega, by omega, h4⟩
    · exact ⟨j + 1, hj, Nat.le_refl _, rfl, Int.le_refl _, .inr ⟨by simp; omega, by simpa using e⟩⟩
/-- The last one. -/
theorem last_of {L : List S40} (hA : Asc L) (d : Nat) : ∀ j, (hj : j < L.length) → L.length - j = d + 1 → ∃ i, ∃ hi : i < L.length, j ≤ i ∧ L[i].f0 = L[j].f0 ∧ L[j].f1 ≤ L[i].f1 ∧ (∀ h : i + 1 < L.length, L[i + 1].f0 ≠ L[i].f0) := by
  induction d with
  | zero => intro j hj hd; exact ⟨j, hj, Nat.le_refl _, rfl, Int.le_refl _, fun h => by omega⟩
  | succ d ih =>
    intro j hj hd
    have hj2 : j + 1 < L.length := by omega
    by_cases e : L[j + 1].f0 = L[j].f0
    · obtain ⟨i, hi, h1, h2, h3, h4⟩ := ih (j + 1) hj2 (by omega)
      have h5 := asc_get hA (i := j) (j := j + 1) (by omega) hj2
      unfold lt40 at h5
      exact ⟨i, hi, by omega, by omega, by omega, h4⟩
    · exact ⟨j, hj, Nat.le_refl _, rfl, Int.le_refl _, fun h => e⟩

/-! ### shortest -/
theorem shortest_l0 (L : List S40) (hA : Asc L) (hL : L.length < 1000) (hV : ∀ x ∈ L, Vl x) : ∀ (i : Nat) (o : List S40) (least : Int), i ≤ L.length → o.length ≤ L.length - i →
    (least = -1 ∨ ∃ j, ∃ hj : j < L.length, i ≤ j ∧ L[j].f1 = least) →
    (∀ j, (hj : j < L.length) → i ≤ j → (j = 0 ∨ ∃ h : j - 1 < L.length, L[j - 1].f0 ≠ L[j].f0) → 0 ≤ least ∧ least ≤ L[j].f1) →
    Ev (fun k => strategy_spans_shortest.l0 k L o least ((i : Int) - 1)) ((L.take i).filter (keepS 1 L) ++ o.reverse) := by
  intro i
  induction i with
  | zero =>
    intro o least hi ho h1 h2
    refine ⟨1, fun k hk => ?_⟩
    obtain ⟨k, rfl⟩ : ∃ m, k = m + 1 := ⟨k - 1, by omega⟩
    simp only [strategy_spans_shortest.l0, api_Span_40.f, Option.bind_some]
    rw [if_neg (by omega)]
    simp
  | succ i ih =>
    intro o least hi ho h1 h2
    have hlt : i < L.length := by omega
    have ei : ((i + 1 : Nat) : Int) - 1 = (i : Int) := by omega
    have ew : wrap64 ((i : Int) - 1) = (i : Int) - 1 := by unfold wrap64; omega
    rw [ei, ← List.take_append_getElem hlt, List.filter_append]
    have hv := hV L[i] (List.getElem_mem hlt)
    unfold Vl at hv
    -- skipped
    by_cases cs : ∃ h : 0 < i, (L[i - 1]'(by omega)).f0 = L[i].f0
    · obtain ⟨hpos, e⟩ := cs
      have hpl : i - 1 < L.length := by omega
      have ep : (i : Int) - 1 = ((i - 1 : Nat) : Int) := by omega
      have hlt2 := asc_get hA (i := i - 1) (j := i) (by omega) hlt
      unfold lt40 at hlt2
      have hno : ¬ keepS 1 L L[i] = true := fun hk => keep1.1 hk L[i - 1] (List.getElem_mem hpl) (asc_ne hA hpl hlt (by omega)) ⟨by omega, by omega⟩
      have := ih o least (by clear h1 h2; omega) (by clear h1 h2; omega) (by
        rcases h1 with h1 | ⟨j, hj, h3, h4⟩
        · exact .inl h1
        · exact .inr ⟨j, hj, by omega, h4⟩) (fun j hj hij hf => by
        by_cases e2 : j = i
        · subst e2
          rcases hf with hf | ⟨_, hf⟩
          · omega
          · exact absurd e hf
        · exact h2 j hj (by omega) hf)
      rw [List.filter_cons_of_neg hno, List.filter_nil, List.append_nil]
      refine Ev.step (f := fun k => strategy_spans_shortest.j1 k L o least (i : Int) true L[i].f0 L[i].f1) (fun k => ?_) (Ev.step (f := fun k => strategy_spans_shortest.l0 k L o least ((i : Int) - 1)) (fun k => ?_) this)
      · simp only [strategy_spans_shortest.l0]
        rw [if_pos (by omega), if_pos (by omega), if_pos (by omega), if_pos (by omega), ew, if_pos (by omega), if_pos (by omega), ep, rd40 L (i - 1) hpl, rd40 L i hlt, e]
        simp
      · simp only [strategy_spans_shortest.j1, ew, if_true]
    · have enter : ∀ r, Ev (fun k => strategy_spans_shortest.j1 k L o least (i : Int) false L[i].f0 L[i].f1) r → Ev (fun k => strategy_spans_shortest.l0 k L o least (i : Int)) r := by
        intro r h
        refine Ev.step (fun k => ?_) h
        simp only [strategy_spans_shortest.l0]
        by_cases hpos : 0 < i
        · have hpl : i - 1 < L.length := by omega
          have ep : (i : Int) - 1 = ((i - 1 : Nat) : Int) := by omega
          have hne : ¬ L[i - 1].f0 = L[i].f0 := fun h => cs ⟨hpos, h⟩
          rw [if_pos (by omega), if_pos (by omega), if_pos (by omega), if_pos (by omega), ew, if_pos (by omega), if_pos (by omega), ep, rd40 L (i - 1) hpl, rd40 L i hlt, beq_eq_false_iff_ne.2 hne]
        · rw [if_pos (by omega), if_pos (by omega), if_pos (by omega), if_neg (by omega), rd40 L i hlt]
      have hfirst : i = 0 ∨ ∃ h : i - 1 < L.length, L[i - 1].f0 ≠ L[i].f0 := by
        by_cases hpos : 0 < i
        · exact .inr ⟨by omega, fun h => cs ⟨hpos, h⟩⟩
        · exact .inl (by omega)
      have hkeep : keepS 1 L L[i] = true ↔ (least < 0 ∨ L[i].f1 < least) := by
        rw [keep1]
        constructor
        · intro h
          by_cases c : least < 0 ∨ L[i].f1 < least
          · exact c
          · exfalso
            rcases h1 with h1 | ⟨j, hj, h3, h4⟩
            · omega
            · have h5 := asc_get hA (i := i) (j := j) (by omega) hj
              unfold lt40 at h5
              exact h L[j] (List.getElem_mem hj) (asc_ne hA hj hlt (by omega)) ⟨by omega, by omega⟩
        · intro hacc t ht hne hc
          obtain ⟨j, hj, rfl⟩ := List.mem_iff_getElem.1 ht
          rcases Nat.lt_trichotomy j i with c | c | c
          · -- it stands ahead: the same begin
            have h5 := asc_get hA c hlt
            unfold lt40 at h5
            have e1 : L[j].f0 = L[i].f0 := by omega
            rcases hfirst with hf | ⟨hf, hf2⟩
            · omega
            · apply hf2
              by_cases e2 : j = i - 1
              · subst e2; exact e1
              · have h6 := asc_get hA (i := j) (j := i - 1) (by omega) (by omega)
                have h7 := asc_get hA (i := i - 1) (j := i) (by omega) hlt
                unfold lt40 at h6 h7
                omega
          · subst c; exact hne rfl
          · have h5 := asc_get hA c hj
            unfold lt40 at h5
            obtain ⟨g, hg, g1, g2, g3, g4⟩ := first_of hA j hj
            have hig : i < g := by
              rcases Nat.lt_trichotomy g i with q | q | q
              · have := asc_get hA q hlt
                unfold lt40 at this
                omega
              · subst q; omega
              · exact q
            have h8 := h2 g hg (by omega) g4
            omega
      clear hfirst
      by_cases cacc : least < 0 ∨ L[i].f1 < least
      · rw [List.filter_cons_of_pos (hkeep.2 cacc), List.filter_nil]
        have := ih (o ++ [L[i]]) L[i].f1 (by clear h1 h2; omega) (by clear h1 h2; simp; omega) (.inr ⟨i, hlt, Nat.le_refl _, rfl⟩) (fun j hj hij hf => by
          refine ⟨by omega, ?_⟩
          by_cases e2 : j = i
          · subst e2; exact Int.le_refl _
          · have := h2 j hj (by omega) hf
            omega)
        rw [List.reverse_append, List.reverse_singleton] at this
        rw [List.append_assoc]
        refine enter _ (Ev.step (f := fun k => strategy_spans_shortest.l0 k L (o ++ [L[i]]) L[i].f1 ((i : Int) - 1)) (fun k => ?_) this)
        simp only [strategy_spans_shortest.j1, ew]
        rw [if_neg (by simp)]
        by_cases c2 : least < 0
        · rw [if_pos c2, if_pos (by omega)]
        · rw [if_neg c2, if_pos (by omega), if_pos (by omega)]
      · rw [List.filter_cons_of_neg (fun h => cacc (hkeep.1 h)), List.filter_nil, List.append_nil]
        have := ih o least (by clear h1 h2; omega) (by clear h1 h2; omega) (by
          rcases h1 with h1 | ⟨j, hj, h3, h4⟩
          · exact .inl h1
          · exact .inr ⟨j, hj, by omega, h4⟩) (fun j hj hij hf => by
          by_cases e2 : j = i
          · subst e2; omega
          · exact h2 j hj (by omega) hf)
        refine enter _ (Ev.step (f := fun k => strategy_spans_shortest.l0 k L o least ((i : Int) - 1)) (fun k => ?_) this)
        simp only [strategy_spans_shortest.j1, ew]
        rw [if_neg (by simp), if_neg (by omega), if_neg (by omega)]
theorem shortest_ev (L : List S40) (hA : Asc L) (hL : L.length < 1000) (hV : ∀ x ∈ L, Vl x) : Ev (fun k => strategy_spans_shortest.f k L) (L.filter (keepS 1 L)) := by
  have h := shortest_l0 L hA hL hV L.length [] (-1) (by omega) (by simp) (.inl rfl) (fun j hj hij => by omega)
  rw [List.take_length, List.reverse_nil, List.append_nil] at h
  refine Ev.congr (fun k => ?_) h
  simp only [strategy_spans_shortest.f]
  rw [show wrap64 ((L.length : Int) - 1) = (L.length : Int) - 1 by unfold wrap64; omega]

/-! ### longest -/
theorem longest_l0 (L : List S40) (hA : Asc L) (hL : L.length < 1000) (hV : ∀ x ∈ L, Vl x) (d : Nat) : ∀ (i : Nat) (o : List S40) (most : Int), i ≤ L.length → L.length - i = d → o.length ≤ i →
    (most = -1 ∨ ∃ j, ∃ hj : j < L.length, j < i ∧ L[j].f1 = most) →
    (∀ j, (hj : j < L.length) → j < i → (∀ h : j + 1 < L.length, L[j + 1].f0 ≠ L[j].f0) → L[j].f1 ≤ most) →
    Ev (fun k => strategy_spans_longest.l0 k L o most L (L.length : Int) (i : Int)) (o ++ (L.drop i).filter (keepS 2 L)) := by
  induction d with
  | zero =>
    intro i o most hi hd ho h1 h2
    refine ⟨1, fun k hk => ?_⟩
    obtain ⟨k, rfl⟩ : ∃ m, k = m + 1 := ⟨k - 1, by omega⟩
    simp only [strategy_spans_longest.l0]
    rw [if_neg (by omega), List.drop_eq_nil_of_le (by omega)]
    simp
  | succ d ih =>
    intro i o most hi hd ho h1 h2
    have hlt : i < L.length := by omega
    have hv := hV L[i] (List.getElem_mem hlt)
    unfold Vl at hv
    rw [List.drop_eq_getElem_cons hlt]
    by_cases cs : ∃ h : i + 1 < L.length, L[i + 1].f0 = L[i].f0
    · obtain ⟨hnl, e⟩ := cs
      have h3 := asc_get hA (i := i) (j := i + 1) (by omega) hnl
      unfold lt40 at h3
      have hno : ¬ keepS 2 L L[i] = true := fun hk => keep2.1 hk L[i + 1] (List.getElem_mem hnl) (asc_ne hA hnl hlt (by omega)) ⟨by omega, by omega⟩
      rw [List.filter_cons_of_neg hno]
      have := ih (i + 1) o most (by clear h1 h2; omega) (by clear h1 h2; omega) (by clear h1 h2; omega) (by
        rcases h1 with h1 | ⟨j, hj, h3, h4⟩
        · exact .inl h1
        · exact .inr ⟨j, hj, by omega, h4⟩) (fun j hj hij hf => by
        by_cases e2 : j = i
        · subst e2; exact absurd e (hf hnl)
        · exact h2 j hj (by omega) hf)
      refine Ev.step (f := fun k => strategy_spans_longest.j1 k L o most L (L.length : Int) (i : Int) true L[i].f0 L[i].f1) (fun k => ?_) (Ev.step (f := fun k => strategy_spans_longest.l0 k L o most L (L.length : Int) ((i + 1 : Nat) : Int)) (fun k => ?_) this)
      · simp only [strategy_spans_longest.l0]
        rw [if_pos (by omega), if_pos (by omega), if_pos (by omega), wsucc (by omega), if_pos (by omega), if_pos (by omega), rd40 L (i + 1) hnl, rd40 L i hlt, e]
        simp
      · simp only [strategy_spans_longest.j1, if_true]
        rw [wsucc (by omega)]
    · have hne : ∀ h : i + 1 < L.length, L[i + 1].f0 ≠ L[i].f0 := fun h e => cs ⟨h, e⟩
      have enter : ∀ r, Ev (fun k => strategy_spans_longest.j1 k L o most L (L.length : Int) (i : Int) false L[i].f0 L[i].f1) r → Ev (fun k => strategy_spans_longest.l0 k L o most L (L.length : Int) (i : Int)) r := by
        intro r h
        refine Ev.step (fun k => ?_) h
        simp only [strategy_spans_longest.l0]
        by_cases hnl : i + 1 < L.length
        · rw [if_pos (by omega), if_pos (by omega), if_pos (by omega), wsucc (by omega), if_pos (by omega), if_pos (by omega), rd40 L (i + 1) hnl, rd40 L i hlt, beq_eq_false_iff_ne.2 (hne hnl)]
        · rw [if_pos (by omega), if_pos (by omega), if_pos (by omega), wsucc (by omega), if_neg (by omega), rd40 L i hlt]
      have hkeep : keepS 2 L L[i] = true ↔ L[i].f1 > most := by
        rw [keep2]
        constructor
        · intro h
          by_cases c : L[i].f1 > most
          · exact c
          · exfalso
            rcases h1 with h1 | ⟨j, hj, h3, h4⟩
            · omega
            · have h5 := asc_get hA (i := j) (j := i) (by omega) hlt
              unfold lt40 at h5
              exact h L[j] (List.getElem_mem hj) (asc_ne hA hj hlt (by omega)) ⟨by omega, by omega⟩
        · intro hacc t ht hne2 hc
          obtain ⟨j, hj, rfl⟩ := List.mem_iff_getElem.1 ht
          rcases Nat.lt_trichotomy j i with c | c | c
          · have h5 := asc_get hA c hlt
            unfold lt40 at h5
            obtain ⟨g, hg, g1, g2, g3, g4⟩ := last_of hA (L.length - j - 1) j hj (by omega)
            have hig : g < i := by
              rcases Nat.lt_trichotomy g i with q | q | q
              · exact q
              · subst q; omega
              · have := asc_get hA q hg
                unfold lt40 at this
                omega
            have h8 := h2 g hg hig g4
            omega
          · subst c; exact hne2 rfl
          · have h5 := asc_get hA c hj
            unfold lt40 at h5
            have e1 : L[j].f0 = L[i].f0 := by omega
            apply hne (by omega)
            by_cases e2 : j = i + 1
            · subst e2; exact e1
            · have h6 := asc_get hA (i := i) (j := i + 1) (by omega) (by omega)
              have h7 := asc_get hA (i := i + 1) (j := j) (by omega) hj
              unfold lt40 at h6 h7
              omega
      by_cases cacc : L[i].f1 > most
      · rw [List.filter_cons_of_pos (hkeep.2 cacc)]
        have := ih (i + 1) (o ++ [L[i]]) L[i].f1 (by clear h1 h2; omega) (by clear h1 h2; omega) (by clear h1 h2; simp; omega) (.inr ⟨i, hlt, by omega, rfl⟩) (fun j hj hij hf => by
          by_cases e2 : j = i
          · subst e2; exact Int.le_refl _
          · have := h2 j hj (by omega) hf
            omega)
        rw [List.append_assoc, List.singleton_append] at this
        refine enter _ (Ev.step (f := fun k => strategy_spans_longest.l0 k L (o ++ [L[i]]) L[i].f1 L (L.length : Int) ((i + 1 : Nat) : Int)) (fun k => ?_) this)
        simp only [strategy_spans_longest.j1]
        rw [if_neg (by simp), if_pos cacc, if_pos (by omega), wsucc (by omega)]
      · rw [List.filter_cons_of_neg (fun h => cacc (hkeep.1 h))]
        have := ih (i + 1) o most (by clear h1 h2; omega) (by clear h1 h2; omega) (by clear h1 h2; omega) (by
          rcases h1 with h1 | ⟨j, hj, h3, h4⟩
          · exact .inl h1
          · exact .inr ⟨j, hj, by omega, h4⟩) (fun j hj hij hf => by
          by_cases e2 : j = i
          · subst e2; omega
          · exact h2 j hj (by omega) hf)
        refine enter _ (Ev.step (f := fun k => strategy_spans_longest.l0 k L o most L (L.length : Int) ((i + 1 : Nat) : Int)) (fun k => ?_) this)
        simp only [strategy_spans_longest.j1]
        rw [if_neg (by simp), if_neg cacc, wsucc (by omega)]
theorem longest_ev (L : List S40) (hA : Asc L) (hL : L.length < 1000) (hV : ∀ x ∈ L, Vl x) : Ev (fun k => strategy_spans_longest.f k L) (L.filter (keepS 2 L)) := by
  have h := longest_l0 L hA hL hV _ 0 [] (-1) (by omega) rfl (by simp) (.inl rfl) (fun j hj hij => by omega)
  rw [List.drop_zero, List.nil_append] at h
  exact h

/-! ### traditional -/
theorem trad_l0 (L : List S40) (hL : L.length < 1000) (d : Nat) : ∀ (i : Nat) (o : List S40) (p : Int), i ≤ L.length → L.length - i = d → o.length ≤ i →
    Ev (fun k => strategy_spans_traditional.l0 k L o p L (L.length : Int) (i : Int)) (o ++ trad (L.drop i) p) := by
  induction d with
  | zero =>
    intro i o p hi hd ho
    refine ⟨1, fun k hk => ?_⟩
    obtain ⟨k, rfl⟩ : ∃ m, k = m + 1 := ⟨k - 1, by omega⟩
    simp only [strategy_spans_traditional.l0]
    rw [if_neg (by omega), List.drop_eq_nil_of_le (by omega), trad]
    simp
  | succ d ih =>
    intro i o p hi hd ho
    have hlt : i < L.length := by omega
    rw [List.drop_eq_getElem_cons hlt]
    have skip_ := ih (i + 1) o p (by omega) (by omega) (by omega)
    have take_ := ih (i + 1) (o ++ [L[i]]) L[i].f1 (by omega) (by omega) (by simp; omega)
    rw [List.append_assoc, List.singleton_append] at take_
    by_cases hnl : i + 1 < L.length
    · rw [List.drop_eq_getElem_cons hnl] at skip_ take_ ⊢
      rw [trad]
      by_cases c : L[i].f0 < p
      · rw [if_pos c]
        refine Ev.step (fun k => ?_) skip_
        simp only [strategy_spans_traditional.l0]
        rw [if_pos (by omega), if_pos (by omega), if_pos (by omega), rd40 L i hlt, if_pos c, wsucc (by omega)]
      · rw [if_neg c]
        by_cases c2 : L[i + 1].f0 = L[i].f0
        · rw [if_pos c2]
          refine Ev.step (fun k => ?_) skip_
          simp only [strategy_spans_traditional.l0]
          rw [if_pos (by omega), if_pos (by omega), if_pos (by omega), rd40 L i hlt, if_neg c, wsucc (by omega), if_pos (by omega), if_pos (by omega), rd40 L (i + 1) hnl, if_pos c2]
        · rw [if_neg c2]
          refine Ev.step (fun k => ?_) take_
          simp only [strategy_spans_traditional.l0]
          rw [if_pos (by omega), if_pos (by omega), if_pos (by omega), rd40 L i hlt, if_neg c, wsucc (by omega), if_pos (by omega), if_pos (by omega), rd40 L (i + 1) hnl, if_neg c2, if_pos (by omega)]
    · have e : L.drop (i + 1) = [] := List.drop_eq_nil_of_le (by omega)
      rw [e] at skip_ take_ ⊢
      rw [trad]
      rw [trad] at skip_ take_
      by_cases c : L[i].f0 < p
      · rw [if_pos c]
        refine Ev.step (fun k => ?_) skip_
        simp only [strategy_spans_traditional.l0]
        rw [if_pos (by omega), if_pos (by omega), if_pos (by omega), rd40 L i hlt, if_pos c, wsucc (by omega)]
      · rw [if_neg c]
        refine Ev.step (fun k => ?_) take_
        simp only [strategy_spans_traditional.l0]
        rw [if_pos (by omega), if_pos (by omega), if_pos (by omega), rd40 L i hlt, if_neg c, wsucc (by omega), if_neg (by omega), if_pos (by omega)]
theorem trad_ev (L : List S40) (hL : L.length < 1000) : Ev (fun k => strategy_spans_traditional.f k L) (trad L 0) := by
  have h := trad_l0 L hL _ 0 [] 0 (by omega) rfl (by simp)
  rw [List.drop_zero, List.nil_append] at h
  exact h
end Go.Proofs.Ytmmdlkeemafanaa.Q
