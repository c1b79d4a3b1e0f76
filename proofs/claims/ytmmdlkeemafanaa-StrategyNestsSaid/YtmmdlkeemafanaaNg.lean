/- The plain law of StrategyNests. -/
import Derived.Test.YtmmdlkeemafanaaNb
import Derived.Test.YtmmdlkeemafanaaTn
namespace Go.Proofs.Ytmmdlkeemafanaa.Q
open Go.RowKit Go.Proofs.YtmmdlkeemafanaaW Go.Proofs.YtmmdlkeemafanaaW.PrintWords

/-! ### shortest and longest spans -/
theorem chs1 (x : List S38) : chs 1 x = (nrm (x.map sp)).filter (keepS 1 (nrm (x.map sp))) := by unfold chs pickL; rw [if_neg (by decide)]
theorem chs2 (x : List S38) : chs 2 x = (nrm (x.map sp)).filter (keepS 2 (nrm (x.map sp))) := by unfold chs pickL; rw [if_neg (by decide)]
theorem chs_asc (st : Int) (x : List S38) : Asc (chs st x) := pickL_asc (asc_nrm _)
theorem chs1_apart (x : List S38) {i j : Nat} (hi : i < (chs 1 x).length) (hj : j < (chs 1 x).length) (h : i ≠ j) : contB (chs 1 x)[i] (chs 1 x)[j] = false := by
  have hs : (chs 1 x)[i] ∈ (nrm (x.map sp)).filter (keepS 1 (nrm (x.map sp))) := by rw [← chs1]; exact List.getElem_mem hi
  have ht : (chs 1 x)[j] ∈ (nrm (x.map sp)).filter (keepS 1 (nrm (x.map sp))) := by rw [← chs1]; exact List.getElem_mem hj
  have := keep1.1 (List.mem_filter.1 hs).2 _ (List.mem_filter.1 ht).1 (asc_ne (chs_asc 1 x) hj hi (fun e => h e.symm))
  rw [Bool.eq_false_iff]
  exact fun c => this (contB_iff.1 c)
theorem chs2_apart (x : List S38) {i j : Nat} (hi : i < (chs 2 x).length) (hj : j < (chs 2 x).length) (h : i ≠ j) : contB (chs 2 x)[i] (chs 2 x)[j] = false := by
  have hs : (chs 2 x)[i] ∈ (nrm (x.map sp)).filter (keepS 2 (nrm (x.map sp))) := by rw [← chs2]; exact List.getElem_mem hi
  have ht : (chs 2 x)[j] ∈ (nrm (x.map sp)).filter (keepS 2 (nrm (x.map sp))) := by rw [← chs2]; exact List.getElem_mem hj
  have := keep2.1 (List.mem_filter.1 ht).2 _ (List.mem_filter.1 hs).1 (asc_ne (chs_asc 2 x) hi hj h)
  rw [Bool.eq_false_iff]
  exact fun c => this (contB_iff.1 c)
theorem chs1_in (x : List S38) (m : S38) (hm : m ∈ x) : (chs 1 x).any (fun t => contB ⟨m.f0, m.f1⟩ t) = true := by
  have hs : sp m ∈ nrm (x.map sp) := (mem_nrm _ _).2 (List.mem_map.2 ⟨m, hm, rfl⟩)
  have hne : (nrm (x.map sp)).filter (contB (sp m)) ≠ [] := List.ne_nil_of_mem (List.mem_filter.2 ⟨hs, contB_iff.2 ⟨Int.le_refl _, Int.le_refl _⟩⟩)
  obtain ⟨t, ht, hl⟩ := least_of (fun s => s.f1 - s.f0) _ hne
  have h1 := contB_iff.1 (List.mem_filter.1 ht).2
  rw [chs1]
  refine List.any_eq_true.2 ⟨t, List.mem_filter.2 ⟨(List.mem_filter.1 ht).1, keep1.2 fun u hu hne2 hc => hne2 ?_⟩, (List.mem_filter.1 ht).2⟩
  have h2 : t.f1 - t.f0 ≤ u.f1 - u.f0 := hl u (List.mem_filter.2 ⟨hu, contB_iff.2 ⟨by omega, by omega⟩⟩)
  exact S40_ext (by omega) (by omega)
theorem chs2_out (x : List S38) (m : S38) (hm : m ∈ x) : (chs 2 x).any (fun t => contB t ⟨m.f0, m.f1⟩) = true := by
  have hs : sp m ∈ nrm (x.map sp) := (mem_nrm _ _).2 (List.mem_map.2 ⟨m, hm, rfl⟩)
  have hne : (nrm (x.map sp)).filter (fun t => contB t (sp m)) ≠ [] := List.ne_nil_of_mem (List.mem_filter.2 ⟨hs, contB_iff.2 ⟨Int.le_refl _, Int.le_refl _⟩⟩)
  obtain ⟨t, ht, hl⟩ := least_of (fun s => s.f0 - s.f1) _ hne
  have h1 := contB_iff.1 (List.mem_filter.1 ht).2
  rw [chs2]
  refine List.any_eq_true.2 ⟨t, List.mem_filter.2 ⟨(List.mem_filter.1 ht).1, keep2.2 fun u hu hne2 hc => hne2 ?_⟩, (List.mem_filter.1 ht).2⟩
  have h2 : t.f0 - t.f1 ≤ u.f0 - u.f1 := hl u (List.mem_filter.2 ⟨hu, contB_iff.2 ⟨by omega, by omega⟩⟩)
  exact S40_ext (by omega) (by omega)

/-! ### the law -/
section
variable (x : List S38) (P Q L : List S40) (hx : x.length < 1000) (hP : P.length < 1000) (hQ : Q.length < 1000) (hL : L.length < 1000)
variable (hin : ∀ m ∈ x, P.any (fun t => contB ⟨m.f0, m.f1⟩ t) = true) (hout : ∀ m ∈ x, Q.any (fun t => contB t ⟨m.f0, m.f1⟩) = true)

include hx hQ in
theorem ne_l5 (i : Nat) (hi : i < x.length) (b e : Int) (d : Nat) : ∀ (j : Nat) (fl : Bool), j ≤ Q.length → Q.length - j = d → (fl || (Q.drop j).any (fun t => contB t ⟨b, e⟩)) = true →
    Ev (fun k => corporalaw27_StrategyNests.l3 k P Q x (x.length : Int) ((i + 1 : Nat) : Int)) true →
    Ev (fun k => corporalaw27_StrategyNests.l5 k P Q true fl x (x.length : Int) (i : Int) Q (Q.length : Int) (j : Int) b e) true := by
  induction d with
  | zero =>
    intro j fl hj hd hf hn
    rw [List.drop_eq_nil_of_le (by omega)] at hf
    have hfl : fl = true := by simpa using hf
    subst hfl
    refine Ev.step (fun k => ?_) hn
    simp only [corporalaw27_StrategyNests.l5]
    rw [if_neg (by omega), if_pos trivial, if_pos trivial, wsucc (by omega)]
  | succ d ih =>
    intro j fl hj hd hf hn
    have hlt : j < Q.length := by omega
    rw [List.drop_eq_getElem_cons hlt, List.any_cons, ← Bool.or_assoc] at hf
    refine Ev.step (fun k => ?_) (ih (j + 1) (fl || contB Q[j] ⟨b, e⟩) (by omega) (by omega) hf hn)
    simp only [corporalaw27_StrategyNests.l5]
    rw [if_pos (by omega), if_pos (by omega), if_pos (by omega), rd40 Q j hlt, wsucc (by omega), cont_f]
    cases fl with
    | true => rw [if_pos rfl]; rfl
    | false => rw [if_neg (by decide), Option.bind_some]; rfl

include hx hP hQ in
theorem ne_l4 (i : Nat) (hi : i < x.length) (b e : Int) (hb : Q.any (fun t => contB t ⟨b, e⟩) = true) (d : Nat) : ∀ (j : Nat) (fl : Bool), j ≤ P.length → P.length - j = d → (fl || (P.drop j).any (fun t => contB ⟨b, e⟩ t)) = true →
    Ev (fun k => corporalaw27_StrategyNests.l3 k P Q x (x.length : Int) ((i + 1 : Nat) : Int)) true →
    Ev (fun k => corporalaw27_StrategyNests.l4 k P Q fl false x (x.length : Int) (i : Int) P (P.length : Int) (j : Int) b e) true := by
  induction d with
  | zero =>
    intro j fl hj hd hf hn
    rw [List.drop_eq_nil_of_le (by omega)] at hf
    have hfl : fl = true := by simpa using hf
    subst hfl
    refine Ev.step (fun k => ?_) (ne_l5 x P Q hx hQ i hi b e _ 0 false (by omega) rfl (by rw [List.drop_zero, Bool.false_or]; exact hb) hn)
    simp only [corporalaw27_StrategyNests.l4]
    rw [if_neg (by omega)]
    rfl
  | succ d ih =>
    intro j fl hj hd hf hn
    have hlt : j < P.length := by omega
    rw [List.drop_eq_getElem_cons hlt, List.any_cons, ← Bool.or_assoc] at hf
    refine Ev.step (fun k => ?_) (ih (j + 1) (fl || contB ⟨b, e⟩ P[j]) (by omega) (by omega) hf hn)
    simp only [corporalaw27_StrategyNests.l4]
    rw [if_pos (by omega), if_pos (by omega), if_pos (by omega), rd40 P j hlt, wsucc (by omega), cont_f]
    cases fl with
    | true => rw [if_pos rfl]; rfl
    | false => rw [if_neg (by decide), Option.bind_some]; rfl

include hx hP hQ hin hout in
theorem ne_l3 (d : Nat) : ∀ i : Nat, i ≤ x.length → x.length - i = d → Ev (fun k => corporalaw27_StrategyNests.l3 k P Q x (x.length : Int) (i : Int)) true := by
  induction d with
  | zero =>
    intro i hi hd
    refine Ev.step (f := fun k => (corporalaw27_known.f k).bind fun t => some t) (fun k => ?_) (Ev.bind known_ev (Ev.now _))
    simp only [corporalaw27_StrategyNests.l3]
    rw [if_neg (by omega)]
  | succ d ih =>
    intro i hi hd
    have hlt : i < x.length := by omega
    refine Ev.step (fun k => ?_) (ne_l4 x P Q hx hP hQ i hlt x[i].f0 x[i].f1 (hout _ (List.getElem_mem hlt)) _ 0 false (by omega) rfl (by rw [List.drop_zero, Bool.false_or]; exact hin _ (List.getElem_mem hlt)) (ih (i + 1) (by omega) (by omega)))
    simp only [corporalaw27_StrategyNests.l3]
    rw [if_pos (by omega), if_pos (by omega), if_pos (by omega), rd38 x i hlt]
    rfl

include hL in
theorem ne_l2 (hA : ∀ i j, (hi : i < L.length) → (hj : j < L.length) → i ≠ j → contB L[i] L[j] = false) (ys : List Int) (n o : Int) (i : Nat) (hi : i < L.length)
    (hn : Ev (fun k => corporalaw27_StrategyNests.l1 k x P Q ys n o L (L.length : Int) ((i + 1 : Nat) : Int)) true) (d : Nat) : ∀ j : Nat, j ≤ L.length → L.length - j = d →
    Ev (fun k => corporalaw27_StrategyNests.l2 k x P Q (i : Int) ys n o L (L.length : Int) (i : Int) L (L.length : Int) (j : Int) L[i].f0 L[i].f1) true := by
  induction d with
  | zero =>
    intro j hj hd
    refine Ev.step (fun k => ?_) hn
    simp only [corporalaw27_StrategyNests.l2]
    rw [if_neg (by omega), wsucc (by omega)]
  | succ d ih =>
    intro j hj hd
    have hlt : j < L.length := by omega
    refine Ev.step (fun k => ?_) (ih (j + 1) (by omega) (by omega))
    simp only [corporalaw27_StrategyNests.l2]
    rw [if_pos (by omega), if_pos (by omega), if_pos (by omega), rd40 L j hlt, wsucc (by omega)]
    by_cases c : i = j
    · rw [if_pos (by omega)]
    · rw [if_neg (by omega), cont_f, Option.bind_some]
      have h := hA i j hi hlt c
      have h2 : contB ⟨L[i].f0, L[i].f1⟩ ⟨L[j].f0, L[j].f1⟩ = false := h
      rw [h2, if_neg (by decide)]

include hL in
theorem ne_l1 (hA : ∀ i j, (hi : i < L.length) → (hj : j < L.length) → i ≠ j → contB L[i] L[j] = false) (ys : List Int) (n o : Int)
    (hn : Ev (fun k => corporalaw27_StrategyNests.l0 k x P Q ys n (wrap64 (o + 1))) true) (d : Nat) : ∀ i : Nat, i ≤ L.length → L.length - i = d →
    Ev (fun k => corporalaw27_StrategyNests.l1 k x P Q ys n o L (L.length : Int) (i : Int)) true := by
  induction d with
  | zero =>
    intro i hi hd
    refine Ev.step (fun k => ?_) hn
    simp only [corporalaw27_StrategyNests.l1]
    rw [if_neg (by omega)]
  | succ d ih =>
    intro i hi hd
    have hlt : i < L.length := by omega
    refine Ev.step (fun k => ?_) (ne_l2 x P Q L hL hA ys n o i hlt (ih (i + 1) (by omega) (by omega)) _ 0 (by omega) rfl)
    simp only [corporalaw27_StrategyNests.l1]
    rw [if_pos (by omega), if_pos (by omega), if_pos (by omega), rd40 L i hlt]
    rfl

include hx hP hQ hin hout in
theorem ne_l0 (h1 : ∀ i j, (hi : i < P.length) → (hj : j < P.length) → i ≠ j → contB P[i] P[j] = false) (h2 : ∀ i j, (hi : i < Q.length) → (hj : j < Q.length) → i ≠ j → contB Q[i] Q[j] = false) :
    Ev (fun k => corporalaw27_StrategyNests.l0 k x P Q [0, 1] (([0, 1] : List Int).length : Int) 0) true := by
  have e2 : Ev (fun k => corporalaw27_StrategyNests.l0 k x P Q [0, 1] (([0, 1] : List Int).length : Int) 2) true := by
    refine Ev.step (fun k => ?_) (ne_l3 x P Q hx hP hQ hin hout _ 0 (by omega) rfl)
    simp only [corporalaw27_StrategyNests.l0]
    rw [if_neg (by decide)]
    rfl
  have e1 : Ev (fun k => corporalaw27_StrategyNests.l0 k x P Q [0, 1] (([0, 1] : List Int).length : Int) 1) true := by
    refine Ev.step (fun k => ?_) (ne_l1 x P Q Q hQ h2 [0, 1] (([0, 1] : List Int).length : Int) 1 (by rw [show wrap64 ((1 : Int) + 1) = 2 by unfold wrap64; omega]; exact e2) _ 0 (by omega) rfl)
    simp only [corporalaw27_StrategyNests.l0]
    rw [if_pos (by decide), if_pos (by decide), if_pos (by decide), if_neg (by decide)]
    rfl
  refine Ev.step (fun k => ?_) (ne_l1 x P Q P hP h1 [0, 1] (([0, 1] : List Int).length : Int) 0 (by rw [show wrap64 ((0 : Int) + 1) = 1 by unfold wrap64; omega]; exact e1) _ 0 (by omega) rfl)
  simp only [corporalaw27_StrategyNests.l0]
  rw [if_pos (by decide), if_pos (by decide), if_pos (by decide), if_pos (by decide)]
  rfl
end

theorem nests_ev (l : List Int) : Ev (fun k => corporalaw27_StrategyNests.f k l) true := by
  obtain ⟨x, ⟨hA, hG, hl⟩, hx⟩ := list_ev l
  have hsh : ∀ m ∈ x, short m := fun m hm => (hG m hm).short
  have c1 := choose_ev x (by omega) hsh 1
  rw [choose_ok hA hG (by omega) (by omega)] at c1
  have c2 := choose_ev x (by omega) hsh 2
  rw [choose_ok hA hG (by omega) (by omega)] at c2
  have l1 := (sel_sub (chs 1 x) x).length_le
  have l2 := (sel_sub (chs 2 x) x).length_le
  have s1 := spans_ev (sel (chs 1 x) x) (by omega)
  rw [spans_sel] at s1
  have s2 := spans_ev (sel (chs 2 x) x) (by omega)
  rw [spans_sel] at s2
  have hP : (chs 1 x).length < 1000 := pick_len x (by omega) 1
  have hQ : (chs 2 x).length < 1000 := pick_len x (by omega) 2
  unfold corporalaw27_StrategyNests.f
  refine Ev.bind hx (Ev.bind c1 (Ev.bind c2 ?_))
  refine Ev.congr (fun k => if_pos rfl) ?_
  refine Ev.step (f := fun k => (strategy_Spans.f k (sel (chs 1 x) x)).bind fun t414 => ((strategy_Spans.f k (sel (chs 2 x) x)).bind fun t417 => ((some (([0, 1] : List Int) : List Int)).bind fun y420 => (corporalaw27_StrategyNests.l0 k x t414 t417 y420 (y420.length : Int) 0)))) (fun k => ?_) ?_
  · simp only [corporalaw27_StrategyNests.j0]
    rw [if_neg (by decide)]
  · refine Ev.bind s1 (Ev.bind s2 ?_)
    exact ne_l0 x (chs 1 x) (chs 2 x) (by omega) hP hQ (chs1_in x) (chs2_out x) (fun i j hi hj h => chs1_apart x hi hj h) (fun i j hi hj h => chs2_apart x hi hj h)
end Go.Proofs.Ytmmdlkeemafanaa.Q
namespace Go.Proofs.Ytmmdlkeemafanaa.Pure
open Go.Proofs.Ytmmdlkeemafanaa.Q
theorem StrategyNests : corporalaw27_StrategyNests.Pure := fun l0 _ _ _ => (nests_ev l0).rounds
end Go.Proofs.Ytmmdlkeemafanaa.Pure
