import Derived.Test.YtmmdlkeemafanaaMj
import Derived.Test.YtmmdlkeemafanaaNa
namespace Go.Proofs.Ytmmdlkeemafanaa.Q
open Go.RowKit Go.Proofs.YtmmdlkeemafanaaW Go.Proofs.YtmmdlkeemafanaaW.PrintWords

/-! ### choosing out of an ascending list of valid matches -/
theorem ordR_asc {l : List S38} (h : AscM l) (d : Nat) : ∀ i : Nat, 1 ≤ i → l.length ≤ i + d → ordR l (min d (l.length - i)) i = true := by
  induction d with
  | zero => intro i _ _; simp [ordR]
  | succ d ih =>
    intro i hi hl
    by_cases c : i < l.length
    · have e : min (d + 1) (l.length - i) = min d (l.length - (i + 1)) + 1 := by omega
      have hp : i - 1 < l.length := by omega
      have e1 : l.getD (i - 1) z38 = l[i - 1] := by simp [List.getD_eq_getElem?_getD, hp]
      have e2 : l.getD i z38 = l[i] := by simp [List.getD_eq_getElem?_getD, c]
      have := List.pairwise_iff_getElem.1 h (i - 1) i hp c (by omega)
      rw [e, ordR, e1, e2, if_neg (by omega)]
      exact ih (i + 1) (by omega) (by omega)
    · have e : min (d + 1) (l.length - i) = 0 := by omega
      rw [e]; rfl
theorem ordR_ok {l : List S38} (h : AscM l) : ordR l (l.length - 1) 1 = true := by
  have := ordR_asc h (l.length - 1) 1 (Nat.le_refl _) (by omega)
  rwa [Nat.min_self] at this
theorem all_ok {l : List S38} (h : ∀ m ∈ l, GoodM m) : l.all vB = true := List.all_eq_true.2 fun m hm => by have := (h m hm).1; simpa [vB] using this
/-- The chosen spans. -/
def chs (st : Int) (l : List S38) : List S40 := pickL st (nrm (l.map sp))
theorem choose_ok {l : List S38} (hA : AscM l) (hG : ∀ m ∈ l, GoodM m) {st : Int} (h0 : 0 ≤ st) (h3 : st ≤ 3) : chooseR l st = (sel (chs st l) l, 0) := by
  unfold chooseR
  rw [if_neg (by omega), if_pos (all_ok hG), if_pos (ordR_ok hA)]
  rfl
theorem AscM.sub {l m : List S38} (h : List.Sublist m l) (hA : AscM l) : AscM m := List.Pairwise.sublist h hA

/-- The spans of the chosen matches are the chosen spans. -/
theorem spans_sel (l : List S38) (st : Int) : nrm ((sel (chs st l) l).map sp) = chs st l := by
  refine (nrm_unique (pickL_asc (asc_nrm _)) fun s => ?_).symm
  rw [List.mem_map]
  constructor
  · intro hs
    have h1 := (pickL_sub st _).mem hs
    rw [mem_nrm, List.mem_map] at h1
    obtain ⟨m, hm, rfl⟩ := h1
    exact ⟨m, List.mem_filter.2 ⟨hm, decide_eq_true hs⟩, rfl⟩
  · rintro ⟨m, hm, rfl⟩
    exact of_decide_eq_true (List.mem_filter.1 hm).2

/-- Spans that lie apart, from p on. -/
def Dis : List S40 → Int → Prop
  | [], _ => True
  | s :: t, p => p ≤ s.f0 ∧ s.f0 < s.f1 ∧ Dis t s.f1
theorem trad_dis : ∀ (L : List S40) (p : Int), (∀ x ∈ L, Vl x) → Dis (trad L p) p
  | [], _, _ => by rw [trad]; trivial
  | [s], p, h => by
    have := (h s (by simp)).2
    rw [trad]
    split
    · trivial
    · exact ⟨by omega, this, trivial⟩
  | s :: t :: u, p, h => by
    have h1 := (h s (by simp)).2
    have ht : ∀ x ∈ t :: u, Vl x := fun x hx => h x (List.mem_cons_of_mem _ hx)
    rw [trad]
    split
    · exact trad_dis (t :: u) p ht
    · split
      · exact trad_dis (t :: u) p ht
      · exact ⟨by omega, h1, trad_dis (t :: u) s.f1 ht⟩
theorem dis_fix : ∀ (T : List S40) (p : Int), Dis T p → trad T p = T
  | [], _, _ => by rw [trad]
  | [s], p, h => by rw [trad, if_neg (by have := h.1; omega)]
  | s :: t :: u, p, h => by
    have h1 := h.1
    have h2 := h.2.1
    have h3 := h.2.2.1
    rw [trad, if_neg (by omega), if_neg (by omega), dis_fix (t :: u) s.f1 h.2.2]
theorem pick_twice {st : Int} {L : List S40} (hV : ∀ x ∈ L, Vl x) : pickL st (pickL st L) = pickL st L := by
  unfold pickL
  by_cases c : st = 3
  · rw [if_pos c, if_pos c]
    exact dis_fix _ _ (trad_dis L 0 hV)
  · rw [if_neg c, if_neg c]
    refine List.filter_eq_self.2 fun s hs => ?_
    have h1 := (List.mem_filter.1 hs).2
    rw [keep_iff] at h1 ⊢
    exact fun t ht => h1 t (List.mem_filter.1 ht).1

/-- The least of a list, by some measure. -/
theorem least_of (g : S40 → Int) : ∀ L : List S40, L ≠ [] → ∃ s ∈ L, ∀ t ∈ L, g s ≤ g t
  | [], h => absurd rfl h
  | [s], _ => ⟨s, by simp, fun t ht => by simp at ht; subst ht; exact Int.le_refl _⟩
  | s :: t :: u, _ => by
    obtain ⟨m, hm, h⟩ := least_of g (t :: u) (by simp)
    by_cases c : g s ≤ g m
    · refine ⟨s, by simp, fun x hx => ?_⟩
      rcases List.mem_cons.1 hx with rfl | hx
      · exact Int.le_refl _
      · have := h x hx; omega
    · refine ⟨m, List.mem_cons_of_mem _ hm, fun x hx => ?_⟩
      rcases List.mem_cons.1 hx with rfl | hx
      · omega
      · exact h x hx
theorem trad_some : ∀ (L : List S40) (p : Int), L ≠ [] → (∀ x ∈ L, p ≤ x.f0) → trad L p ≠ []
  | [], _, h, _ => absurd rfl h
  | [s], p, _, h => by rw [trad, if_neg (by have := h s (by simp); omega)]; simp
  | s :: t :: u, p, _, h => by
    rw [trad, if_neg (by have := h s (by simp); omega)]
    split
    · exact trad_some (t :: u) p (by simp) fun x hx => h x (List.mem_cons_of_mem _ hx)
    · simp
theorem pick_some {st : Int} (h0 : 0 ≤ st) (h3 : st ≤ 3) {L : List S40} (hV : ∀ x ∈ L, Vl x) (hL : L ≠ []) : pickL st L ≠ [] := by
  have of_mem : ∀ s, s ∈ L → keepS st L s = true → L.filter (keepS st L) ≠ [] := fun s hs hk => List.ne_nil_of_mem (List.mem_filter.2 ⟨hs, hk⟩)
  unfold pickL
  by_cases c : st = 3
  · rw [if_pos c]
    exact trad_some L 0 hL fun x hx => (hV x hx).1
  · rw [if_neg c]
    obtain rfl | rfl | rfl : st = 0 ∨ st = 1 ∨ st = 2 := by omega
    · obtain ⟨s, hs, _⟩ := least_of (fun s => s.f0) L hL
      exact of_mem s hs (keep0 L s)
    · obtain ⟨s, hs, h⟩ := least_of (fun s => s.f1 - s.f0) L hL
      refine of_mem s hs (keep1.2 fun t ht hne hc => hne ?_)
      have h5 : s.f1 - s.f0 ≤ t.f1 - t.f0 := h t ht
      exact S40_ext (by omega) (by omega)
    · obtain ⟨s, hs, h⟩ := least_of (fun s => s.f0 - s.f1) L hL
      refine of_mem s hs (keep2.2 fun t ht hne hc => hne ?_)
      have h5 : s.f0 - s.f1 ≤ t.f0 - t.f1 := h t ht
      exact S40_ext (by omega) (by omega)

theorem spans_valid {l : List S38} (hG : ∀ m ∈ l, GoodM m) : ∀ x ∈ nrm (l.map sp), Vl x := nrm_valid l (all_ok hG)
theorem sel_twice {l : List S38} (hG : ∀ m ∈ l, GoodM m) (st : Int) : sel (chs st (sel (chs st l) l)) (sel (chs st l) l) = sel (chs st l) l := by
  have e : chs st (sel (chs st l) l) = chs st l := by
    show pickL st (nrm ((sel (chs st l) l).map sp)) = _
    rw [spans_sel]
    exact pick_twice (spans_valid hG)
  rw [e]
  exact List.filter_eq_self.2 fun m hm => (List.mem_filter.1 hm).2
theorem sel_some {l : List S38} (hG : ∀ m ∈ l, GoodM m) {st : Int} (h0 : 0 ≤ st) (h3 : st ≤ 3) (hl : l ≠ []) : sel (chs st l) l ≠ [] := by
  obtain ⟨m0, hm0⟩ := List.exists_mem_of_ne_nil l hl
  have hn : nrm (l.map sp) ≠ [] := List.ne_nil_of_mem ((mem_nrm _ (sp m0)).2 (List.mem_map.2 ⟨m0, hm0, rfl⟩))
  obtain ⟨s, hs⟩ := List.exists_mem_of_ne_nil _ (pick_some h0 h3 (spans_valid hG) hn)
  have h1 := (pickL_sub st _).mem hs
  rw [mem_nrm, List.mem_map] at h1
  obtain ⟨m, hm, rfl⟩ := h1
  exact List.ne_nil_of_mem (List.mem_filter.2 ⟨hm, decide_eq_true hs⟩)
end Go.Proofs.Ytmmdlkeemafanaa.Q
