import Derived.Test.YtmmdlkeemafanaaMe
import Derived.Test.YtmmdlkeemafanaaMh
import Derived.Test.YtmmdlkeemafanaaQs
namespace Go.Proofs.Ytmmdlkeemafanaa.Q
open Go.RowKit Go.Proofs.YtmmdlkeemafanaaW Go.Proofs.YtmmdlkeemafanaaW.PrintWords
theorem chosen_l03 (L : List S40) (hA : Asc L) (hL : L.length < 1000) (hV : ∀ x ∈ L, Vl x) (d : Nat) : ∀ (i : Nat), i ≤ L.length → L.length - i = d →
    Ev (fun k => corporaref27_Chosen.l0 k 3 L [] L (L.length : Int) (i : Int)) (trad L 0) := by
  induction d with
  | zero =>
    intro i hi hd
    refine Ev.step (f := fun k => corporaref27_Chosen.l2 k L [] 0) (fun k => ?_) ?_
    · simp only [corporaref27_Chosen.l0]
      rw [if_neg (by omega), if_pos trivial]
    · have := trad_l2 L hL hV L [] 0 [] rfl hA (Int.le_refl _) (by simp) (fun x hx => by simp at hx)
      simpa using this
  | succ d ih =>
    intro i hi hd
    have hlt : i < L.length := by omega
    refine Ev.step (f := fun k => corporaref27_Chosen.l1 k 3 L [] (i : Int) true L (L.length : Int) (i : Int) L (L.length : Int) 0 L[i].f0 L[i].f1) (fun k => ?_) ?_
    · simp only [corporaref27_Chosen.l0]
      rw [if_pos (by omega), if_pos (by omega), if_pos (by omega), rd40 L i hlt]
    · refine chosen_l1 3 L hA hL [] (by simp) i hlt _ _ 0 true (by omega) rfl ?_
      refine Ev.congr (fun k => ?_) (ih (i + 1) (by omega) (by omega))
      rw [if_neg (by simp)]
theorem chosen_ev (st : Int) (L : List S40) (hA : Asc L) (hL : L.length < 1000) (hV : ∀ x ∈ L, Vl x) : Ev (fun k => corporaref27_Chosen.f k st L) (pickL st L) := by
  unfold pickL
  by_cases c : st = 3
  · subst c
    rw [if_pos rfl]
    exact chosen_l03 L hA hL hV _ 0 (by omega) rfl
  · rw [if_neg c]
    have h := chosen_l0 st L hA hL c _ 0 [] (by omega) rfl (by simp)
    simp only [List.drop_zero, List.nil_append] at h
    exact h
section
variable (l : List S38) (hl : l.length < 999) (hs : ∀ m ∈ l, short m)

include hl in
theorem rc_l3 (ch : List S40) (hA : Asc ch) (hc : ch.length < 1000) (i : Nat) (hi : i < l.length) (r : List S38 × Int) (d : Nat) : ∀ (j : Nat) (o : List S38), j ≤ ch.length → ch.length - j = d → o.length ≤ i →
    Ev (fun k => corporaref27_Choose.l2 k ch (if sp l[i] ∈ ch.drop j then o ++ [l[i]] else o) l (l.length : Int) ((i + 1 : Nat) : Int)) r →
    Ev (fun k => corporaref27_Choose.l3 k ch o l (l.length : Int) (i : Int) ch (ch.length : Int) (j : Int) l[i].f0 l[i].f1 l[i].f2) r := by
  have tail : ∀ (d : Nat) (j : Nat) (o : List S38), j ≤ ch.length → ch.length - j = d → sp l[i] ∉ ch.drop j → Ev (fun k => corporaref27_Choose.l2 k ch o l (l.length : Int) ((i + 1 : Nat) : Int)) r →
      Ev (fun k => corporaref27_Choose.l3 k ch o l (l.length : Int) (i : Int) ch (ch.length : Int) (j : Int) l[i].f0 l[i].f1 l[i].f2) r := by
    intro d
    induction d with
    | zero =>
      intro j o hj hd _ h
      refine Ev.step (fun k => ?_) h
      simp only [corporaref27_Choose.l3]
      rw [if_neg (by omega), wsucc (by omega)]
    | succ d ih =>
      intro j o hj hd hn h
      have hlt : j < ch.length := by omega
      rw [List.drop_eq_getElem_cons hlt] at hn
      have hn1 : ¬ sp l[i] = ch[j] := fun e => hn (by rw [e]; exact List.mem_cons_self)
      have hn2 : sp l[i] ∉ ch.drop (j + 1) := fun e => hn (List.mem_cons_of_mem _ e)
      refine Ev.step (fun k => ?_) (ih (j + 1) o (by omega) (by omega) hn2 h)
      simp only [corporaref27_Choose.l3]
      have c5 : ¬ (ch[j].f0 == l[i].f0 && ch[j].f1 == l[i].f1) = true := by
        intro h
        simp only [Bool.and_eq_true, beq_iff_eq] at h
        exact hn1 (S40_ext h.1.symm h.2.symm)
      rw [if_pos (by omega), if_pos (by omega), if_pos (by omega), rd40 ch j hlt, if_neg c5, wsucc (by omega)]
  induction d with
  | zero =>
    intro j o hj hd ho h
    rw [List.drop_eq_nil_of_le (by omega), if_neg (by simp)] at h
    exact tail 0 j o hj hd (by rw [List.drop_eq_nil_of_le (by omega)]; simp) h
  | succ d ih =>
    intro j o hj hd ho h
    have hlt : j < ch.length := by omega
    rw [List.drop_eq_getElem_cons hlt] at h
    by_cases c : sp l[i] = ch[j]
    · have hn2 : sp l[i] ∉ ch.drop (j + 1) := by
        intro e
        rw [c] at e
        have hA2 : Asc (ch.drop j) := List.Pairwise.sublist (List.drop_sublist j ch) hA
        rw [List.drop_eq_getElem_cons hlt] at hA2
        exact lt40_irrefl _ ((List.pairwise_cons.1 hA2).1 _ e)
      rw [if_pos (by rw [c]; exact List.mem_cons_self)] at h
      refine Ev.step (fun k => ?_) (tail d (j + 1) (o ++ [l[i]]) (by omega) (by omega) hn2 h)
      simp only [corporaref27_Choose.l3]
      have c5 : (ch[j].f0 == l[i].f0 && ch[j].f1 == l[i].f1) = true := by rw [← c]; simp [sp]
      rw [if_pos (by omega), if_pos (by omega), if_pos (by omega), rd40 ch j hlt, if_pos c5, wsucc (by omega), if_pos (by omega)]
    · have hiff : (sp l[i] ∈ ch[j] :: ch.drop (j + 1)) ↔ sp l[i] ∈ ch.drop (j + 1) := by rw [List.mem_cons]; exact ⟨fun h => h.resolve_left c, .inr⟩
      have e : (if sp l[i] ∈ ch[j] :: ch.drop (j + 1) then o ++ [l[i]] else o) = (if sp l[i] ∈ ch.drop (j + 1) then o ++ [l[i]] else o) := by
        by_cases q : sp l[i] ∈ ch.drop (j + 1)
        · rw [if_pos q, if_pos (hiff.2 q)]
        · rw [if_neg q, if_neg (fun h => q (hiff.1 h))]
      rw [e] at h
      refine Ev.step (fun k => ?_) (ih (j + 1) o (by omega) (by omega) ho h)
      simp only [corporaref27_Choose.l3]
      have c5 : ¬ (ch[j].f0 == l[i].f0 && ch[j].f1 == l[i].f1) = true := by
        intro h
        simp only [Bool.and_eq_true, beq_iff_eq] at h
        exact c (S40_ext h.1.symm h.2.symm)
      rw [if_pos (by omega), if_pos (by omega), if_pos (by omega), rd40 ch j hlt, if_neg c5, wsucc (by omega)]

include hl in
theorem rc_l2 (ch : List S40) (hA : Asc ch) (hc : ch.length < 1000) (d : Nat) : ∀ (i : Nat) (o : List S38), i ≤ l.length → l.length - i = d → o.length ≤ i →
    Ev (fun k => corporaref27_Choose.l2 k ch o l (l.length : Int) (i : Int)) (o ++ sel ch (l.drop i), 0) := by
  induction d with
  | zero =>
    intro i o hi hd ho
    refine ⟨1, fun k hk => ?_⟩
    obtain ⟨k, rfl⟩ : ∃ m, k = m + 1 := ⟨k - 1, by omega⟩
    simp only [corporaref27_Choose.l2]
    rw [if_neg (by omega), List.drop_eq_nil_of_le (by omega)]
    simp [sel]
  | succ d ih =>
    intro i o hi hd ho
    have hlt : i < l.length := by omega
    rw [List.drop_eq_getElem_cons hlt]
    refine Ev.step (f := fun k => corporaref27_Choose.l3 k ch o l (l.length : Int) (i : Int) ch (ch.length : Int) ((0 : Nat) : Int) l[i].f0 l[i].f1 l[i].f2) (fun k => ?_) (rc_l3 l hl ch hA hc i hlt _ _ 0 o (by omega) rfl ho ?_)
    · simp only [corporaref27_Choose.l2]
      rw [if_pos (by omega), if_pos (by omega), if_pos (by omega), rd38 l i hlt]
      rfl
    · rw [List.drop_zero]
      by_cases c : sp l[i] ∈ ch
      · have := ih (i + 1) (o ++ [l[i]]) (by omega) (by omega) (by simp; omega)
        have e : sel ch (l[i] :: l.drop (i + 1)) = l[i] :: sel ch (l.drop (i + 1)) := List.filter_cons_of_pos (by simpa using c)
        rw [e, if_pos c]
        rw [List.append_assoc, List.singleton_append] at this
        exact this
      · have := ih (i + 1) o (by omega) (by omega) (by omega)
        have e : sel ch (l[i] :: l.drop (i + 1)) = sel ch (l.drop (i + 1)) := List.filter_cons_of_neg (by simpa using c)
        rw [e, if_neg c]
        exact this

include hl hs in
theorem rc_l1 (st : Int) (r : List S38 × Int) (hr : Ev (fun k => (corporaref27_Spans.f k l).bind fun t264 => (corporaref27_Chosen.f k st t264).bind fun t267 => corporaref27_Choose.l2 k t267 [] l (l.length : Int) 0) r) (d : Nat) : ∀ i : Nat, 1 ≤ i → (l.length - i = d) →
    Ev (fun k => corporaref27_Choose.l1 k st l (i : Int)) (if ordR l d i = true then r else ([], 6)) := by
  induction d with
  | zero =>
    intro i hi hd
    rw [ordR, if_pos rfl]
    refine Ev.step (fun k => ?_) hr
    simp only [corporaref27_Choose.l1]
    rw [if_neg (by omega)]
  | succ d ih =>
    intro i hi hd
    have hlt : i < l.length := by omega
    have hp : i - 1 < l.length := by omega
    have ew : wrap64 ((i : Int) - 1) = ((i - 1 : Nat) : Int) := by unfold wrap64; omega
    have e1 : l.getD (i - 1) z38 = l[i - 1] := by simp [List.getD_eq_getElem?_getD, hp]
    have e2 : l.getD i z38 = l[i] := by simp [List.getD_eq_getElem?_getD, hlt]
    refine Ev.step (f := fun k => (corporaref24_Compare.f k l[i - 1].f0 l[i - 1].f1 l[i - 1].f2 l[i].f0 l[i].f1 l[i].f2).bind fun t => (if t ≥ 0 then some (([] : List S38), 6) else corporaref27_Choose.l1 k st l ((i + 1 : Nat) : Int))) (fun k => ?_) (Ev.bind (cM_ref _ _ (hs _ (List.getElem_mem hp)) (hs _ (List.getElem_mem hlt))) ?_)
    · simp only [corporaref27_Choose.l1, ew]
      rw [if_pos (by omega), if_pos (by omega), if_pos (by omega), if_pos (by omega), rd38 l (i - 1) hp, rd38 l i hlt, wsucc (by omega)]
    · rw [ordR, e1, e2]
      by_cases c : cM l[i - 1] l[i] ≥ 0
      · rw [if_pos c]
        exact Ev.congr (fun k => if_pos c) (Ev.now _)
      · rw [if_neg c]
        exact Ev.congr (fun k => if_neg c) (ih (i + 1) (by omega) (by omega))

include hl in
theorem rc_l0 (st : Int) (r : List S38 × Int) (d : Nat) : ∀ i : Nat, i ≤ l.length → l.length - i = d → ((l.drop i).all vB = true → Ev (fun k => corporaref27_Choose.l1 k st l 1) r) →
    Ev (fun k => corporaref27_Choose.l0 k st l l (l.length : Int) (i : Int)) (if (l.drop i).all vB = true then r else ([], 8)) := by
  induction d with
  | zero =>
    intro i hi hd hr
    rw [List.drop_eq_nil_of_le (by omega)] at hr ⊢
    rw [if_pos (by rfl)]
    refine Ev.step (fun k => ?_) (hr rfl)
    simp only [corporaref27_Choose.l0]
    rw [if_neg (by omega)]
  | succ d ih =>
    intro i hi hd hr
    have hlt : i < l.length := by omega
    rw [List.drop_eq_getElem_cons hlt, List.all_cons] at hr ⊢
    by_cases c : vB l[i] = true
    · have c' : 0 ≤ l[i].f0 ∧ l[i].f0 < l[i].f1 := by simpa [vB] using c
      rw [c, Bool.true_and] at hr ⊢
      refine Ev.step (fun k => ?_) (ih (i + 1) (by omega) (by omega) hr)
      simp only [corporaref27_Choose.l0]
      rw [if_pos (by omega), if_pos (by omega), if_pos (by omega), rd38 l i hlt, if_neg (by omega), if_neg (by omega), wsucc (by omega)]
    · have c' : ¬ (0 ≤ l[i].f0 ∧ l[i].f0 < l[i].f1) := by simpa [vB] using c
      rw [if_neg (by simp [c])]
      refine Ev.step (f := fun _ => some (([] : List S38), 8)) (fun k => ?_) (Ev.now _)
      simp only [corporaref27_Choose.l0]
      rw [if_pos (by omega), if_pos (by omega), if_pos (by omega), rd38 l i hlt]
      by_cases q : l[i].f0 < 0
      · rw [if_pos q]
      · rw [if_neg q, if_pos (by omega)]

include hl hs in
theorem rchoose_ev (st : Int) : Ev (fun k => corporaref27_Choose.f k st l) (chooseR l st) := by
  unfold chooseR
  have bad : st < 0 ∨ 3 < st → Ev (fun k => corporaref27_Choose.f k st l) ([], 1) := by
    intro h
    refine ⟨1, fun k hk => ?_⟩
    obtain ⟨k, rfl⟩ : ∃ m, k = m + 1 := ⟨k - 1, by omega⟩
    simp only [corporaref27_Choose.f, corporaref27_Choose.j0]
    by_cases c : st < 0
    · rw [if_pos c]; simp
    · rw [if_neg c, decide_eq_true (by omega)]; simp
  by_cases c : st < 0 ∨ 3 < st
  · rw [if_pos c]; exact bad c
  · rw [if_neg c]
    refine Ev.congr (f := fun k => corporaref27_Choose.j0 k st l false) (fun k => ?_) (Ev.step (f := fun k => corporaref27_Choose.l0 k st l l (l.length : Int) ((0 : Nat) : Int)) (fun k => ?_) ?_)
    · simp only [corporaref27_Choose.f]
      rw [if_neg (by omega), decide_eq_false (by omega)]
    · simp only [corporaref27_Choose.j0]
      rw [if_neg (by simp)]
      rfl
    · have := rc_l0 l hl st (if ordR l (l.length - 1) 1 = true then (sel (pickL st (nrm (l.map sp))) l, 0) else ([], 6)) _ 0 (by omega) rfl (fun hv => ?_)
      · simpa only [List.drop_zero] using this
      · rw [List.drop_zero] at hv
        refine rc_l1 l hl hs st _ ?_ _ 1 (by omega) rfl
        refine Ev.bind (rspans_ev l hl) (Ev.bind (chosen_ev st _ (asc_nrm _) (nrm_len l hl) (nrm_valid l hv)) ?_)
        have h2 := rc_l2 l hl _ (pickL_asc (st := st) (asc_nrm (l.map sp))) (pick_len l hl st) _ 0 [] (by omega) rfl (by simp)
        simp only [List.drop_zero, List.nil_append] at h2
        exact h2
end
end Go.Proofs.Ytmmdlkeemafanaa.Q
