import Derived.Test.YtmmdlkeemafanaaNb
import Derived.Test.YtmmdlkeemafanaaTe
namespace Go.Proofs.Ytmmdlkeemafanaa.Q
open Go.RowKit Go.Proofs.YtmmdlkeemafanaaW Go.Proofs.YtmmdlkeemafanaaW.PrintWords

theorem dis_get : ∀ (T : List S40) (p : Int), Dis T p → ∀ i, (h : i + 1 < T.length) → (T[i]'(by omega)).f1 ≤ T[i + 1].f0
  | [], _, _, i, h => by simp at h
  | [_], _, _, i, h => by simp at h
  | s :: t :: u, p, hd, 0, _ => hd.2.2.1
  | s :: t :: u, p, hd, i + 1, h => dis_get (t :: u) s.f1 hd.2.2 i (by simpa using h)

/-- Whatever begins at p or behind it begins within a span of the walk. -/
theorem trad_cover : ∀ (M : List S40) (p : Int), Asc M → (∀ s ∈ M, Vl s) → ∀ s ∈ M, s.f0 < p ∨ ∃ r ∈ trad M p, r.f0 ≤ s.f0 ∧ s.f0 < r.f1
  | [], _, _, _, s, hs => by simp at hs
  | [a], p, _, hV, s, hs => by
    obtain rfl : s = a := by simpa using hs
    by_cases c : s.f0 < p
    · exact .inl c
    · rw [trad, if_neg c]
      exact .inr ⟨s, by simp, Int.le_refl _, (hV s (by simp)).2⟩
  | a :: b :: u, p, hA, hV, s, hs => by
    have hA' := List.pairwise_cons.1 hA
    have hV' : ∀ x ∈ b :: u, Vl x := fun x hx => hV x (List.mem_cons_of_mem _ hx)
    have hab := hA'.1 b (by simp)
    unfold lt40 at hab
    rw [trad]
    by_cases c : a.f0 < p
    · rw [if_pos c]
      rcases List.mem_cons.1 hs with rfl | hs
      · exact .inl c
      · exact trad_cover (b :: u) p hA'.2 hV' s hs
    · rw [if_neg c]
      by_cases c2 : b.f0 = a.f0
      · rw [if_pos c2]
        rcases List.mem_cons.1 hs with rfl | hs
        · rcases trad_cover (b :: u) p hA'.2 hV' b (by simp) with h | ⟨r, hr, h1, h2⟩
          · omega
          · exact .inr ⟨r, hr, by omega, by omega⟩
        · exact trad_cover (b :: u) p hA'.2 hV' s hs
      · rw [if_neg c2]
        rcases List.mem_cons.1 hs with rfl | hs
        · exact .inr ⟨s, by simp, Int.le_refl _, (hV s (by simp)).2⟩
        · have hsa := hA'.1 s hs
          unfold lt40 at hsa
          rcases trad_cover (b :: u) a.f1 hA'.2 hV' s hs with h | ⟨r, hr, h1, h2⟩
          · exact .inr ⟨a, by simp, by omega, h⟩
          · exact .inr ⟨r, List.mem_cons_of_mem _ hr, h1, h2⟩

def ov (b e : Int) (t : S40) : Bool := decide (t.f0 < e) && decide (b < t.f1)

section
variable (P : List S40) (x : List S38) (hP : P.length < 1000) (hx : x.length < 1000)

include hP hx in
theorem dj_l2 (i : Nat) (hi : i < x.length) (b e : Int) (lb : List Int) (d : Nat) : ∀ (j : Nat) (fl : Bool), j ≤ P.length → P.length - j = d → (fl || (P.drop j).any (ov b e)) = true →
    Ev (fun k => corporalaw27_StrategyDisjoint.l1 k 0 P x (x.length : Int) ((i + 1 : Nat) : Int)) true →
    Ev (fun k => corporalaw27_StrategyDisjoint.l2 k 0 P fl x (x.length : Int) (i : Int) P (P.length : Int) (j : Int) b e lb) true := by
  induction d with
  | zero =>
    intro j fl hj hd hf hn
    rw [List.drop_eq_nil_of_le (by omega)] at hf
    have hfl : fl = true := by simpa using hf
    subst hfl
    refine Ev.step (fun k => ?_) hn
    simp only [corporalaw27_StrategyDisjoint.l2]
    rw [if_neg (by omega), if_pos trivial, wsucc (by omega)]
  | succ d ih =>
    intro j fl hj hd hf hn
    have hlt : j < P.length := by omega
    rw [List.drop_eq_getElem_cons hlt, List.any_cons, ← Bool.or_assoc] at hf
    refine Ev.step (fun k => ?_) (ih (j + 1) (fl || ov b e P[j]) (by omega) (by omega) hf hn)
    simp only [corporalaw27_StrategyDisjoint.l2]
    rw [if_pos (by omega), if_pos (by omega), if_pos (by omega), rd40 P j hlt, wsucc (by omega)]
    cases fl with
    | true => simp
    | false =>
      by_cases c : P[j].f0 < e
      · rw [if_pos c]; simp [ov, c]
      · rw [if_neg c]; simp [ov, c]

include hP hx in
theorem dj_l1 (hO : ∀ m ∈ x, P.any (ov m.f0 m.f1) = true) (d : Nat) : ∀ i : Nat, i ≤ x.length → x.length - i = d → Ev (fun k => corporalaw27_StrategyDisjoint.l1 k 0 P x (x.length : Int) (i : Int)) true := by
  induction d with
  | zero =>
    intro i hi hd
    refine Ev.step (f := fun k => (corporalaw27_known.f k).bind fun t => some t) (fun k => ?_) (Ev.bind known_ev (Ev.now _))
    simp only [corporalaw27_StrategyDisjoint.l1]
    rw [if_neg (by omega), if_pos trivial]
  | succ d ih =>
    intro i hi hd
    have hlt : i < x.length := by omega
    refine Ev.step (f := fun k => corporalaw27_StrategyDisjoint.l2 k 0 P false x (x.length : Int) (i : Int) P (P.length : Int) ((0 : Nat) : Int) x[i].f0 x[i].f1 x[i].f2) (fun k => ?_) ?_
    · simp only [corporalaw27_StrategyDisjoint.l1]
      rw [if_pos (by omega), if_pos (by omega), if_pos (by omega), rd38 x i hlt]
      rfl
    · refine dj_l2 P x hP hx i hlt _ _ _ _ 0 false (by omega) rfl ?_ (ih (i + 1) (by omega) (by omega))
      rw [List.drop_zero, Bool.false_or]
      exact hO _ (List.getElem_mem hlt)

include hP hx in
theorem dj_l0 (hD : ∀ i, (h : i + 1 < P.length) → (P[i]'(by omega)).f1 ≤ P[i + 1].f0) (hO : ∀ m ∈ x, P.any (ov m.f0 m.f1) = true) (d : Nat) : ∀ i : Nat, 1 ≤ i → P.length - i = d → Ev (fun k => corporalaw27_StrategyDisjoint.l0 k x 0 P (i : Int)) true := by
  induction d with
  | zero =>
    intro i hi hd
    refine Ev.step (fun k => ?_) (dj_l1 P x hP hx hO _ 0 (by omega) rfl)
    simp only [corporalaw27_StrategyDisjoint.l0]
    rw [if_neg (by omega)]
    rfl
  | succ d ih =>
    intro i hi hd
    obtain ⟨i, rfl⟩ : ∃ j, i = j + 1 := ⟨i - 1, by omega⟩
    have hlt : i + 1 < P.length := by omega
    have h1 := hD i hlt
    refine Ev.step (fun k => ?_) (ih (i + 1 + 1) (by omega) (by omega))
    simp only [corporalaw27_StrategyDisjoint.l0]
    rw [if_pos (by omega), wpred (by omega), if_pos (by omega), if_pos (by omega), if_pos (by omega), rd40 P i (by omega), rd40 P (i + 1) hlt, if_neg (by omega), wsucc (by omega)]
end

theorem disjoint_ev (l : List Int) : Ev (fun k => corporalaw27_StrategyDisjoint.f k l) true := by
  obtain ⟨x, ⟨hA, hG, hl⟩, hx⟩ := list_ev l
  have hsh : ∀ m ∈ x, short m := fun m hm => (hG m hm).short
  have c1 := choose_ev x (by omega) hsh 3
  rw [choose_ok hA hG (by omega) (by omega)] at c1
  have hsub : List.Sublist (sel (chs 3 x) x) x := sel_sub _ _
  have hl2 := hsub.length_le
  have c2 := spans_ev (sel (chs 3 x) x) (by omega)
  rw [spans_sel] at c2
  have e3 : chs 3 x = trad (nrm (x.map sp)) 0 := by unfold chs pickL; rw [if_pos rfl]
  have hV := spans_valid hG
  have hP : (chs 3 x).length < 1000 := pick_len x (by omega) 3
  unfold corporalaw27_StrategyDisjoint.f
  refine Ev.bind hx (Ev.bind c1 (Ev.bind c2 ?_))
  refine dj_l0 (chs 3 x) x hP (by omega) (fun i h => ?_) (fun m hm => ?_) _ 1 (Nat.le_refl _) rfl
  · have hd := trad_dis (nrm (x.map sp)) 0 hV
    have := dis_get _ 0 hd i (by rw [← e3]; exact h)
    simpa only [e3] using this
  · have hs : sp m ∈ nrm (x.map sp) := (mem_nrm _ _).2 (List.mem_map.2 ⟨m, hm, rfl⟩)
    have hv := hV _ hs
    rcases trad_cover _ 0 (asc_nrm (x.map sp)) hV (sp m) hs with h | ⟨r, hr, h1, h2⟩
    · have := hv.1; omega
    · refine List.any_eq_true.2 ⟨r, by rw [e3]; exact hr, ?_⟩
      have h3 := hv.2
      have h4 : r.f0 < m.f1 := by have : r.f0 ≤ m.f0 := h1; have : m.f0 < m.f1 := h3; omega
      have h5 : m.f0 < r.f1 := h2
      simp [ov, h4, h5]
end Go.Proofs.Ytmmdlkeemafanaa.Q
namespace Go.Proofs.Ytmmdlkeemafanaa.Pure
open Go.Proofs.Ytmmdlkeemafanaa.Q
theorem StrategyDisjoint : corporalaw27_StrategyDisjoint.Pure := fun l0 _ _ _ => (disjoint_ev l0).rounds
end Go.Proofs.Ytmmdlkeemafanaa.Pure
