import Derived.Test.YtmmdlkeemafanaaMb
import Derived.Test.YtmmdlkeemafanaaQl
namespace Go.Proofs.Ytmmdlkeemafanaa.Q
open Go.RowKit Go.Proofs.YtmmdlkeemafanaaW Go.Proofs.YtmmdlkeemafanaaW.PrintWords
/-! ### the reference's list: insertion from behind -/
theorem ins_at (l : List S40) (h : Asc l) (s : S40) (i : Nat) (h1 : ∀ x ∈ l.take i, lt40 x s) (h2 : ∀ x ∈ l.drop i, lt40 s x) : l.take i ++ s :: l.drop i = ins l s := by
  refine asc_unique ?_ (asc_ins h s) fun x => ?_
  · unfold Asc at *
    have hp := h
    rw [← List.take_append_drop i l, List.pairwise_append] at hp
    rw [List.pairwise_append]
    refine ⟨hp.1, List.pairwise_cons.2 ⟨h2, hp.2.1⟩, fun a ha b hb => ?_⟩
    rcases List.mem_cons.1 hb with rfl | hb
    · exact h1 a ha
    · exact lt40_trans (h1 a ha) (h2 b hb)
  · rw [mem_ins, List.mem_append, List.mem_cons]
    have : x ∈ l ↔ x ∈ l.take i ∨ x ∈ l.drop i := by rw [← List.mem_append, List.take_append_drop]
    rw [this]
    constructor
    · rintro (h | h | h) <;> simp [h]
    · rintro (h | h | h) <;> simp [h]
theorem ins_mem (l : List S40) (h : Asc l) (s : S40) (hs : s ∈ l) : l = ins l s := by
  refine asc_unique h (asc_ins h s) fun x => ?_
  rw [mem_ins]
  constructor
  · exact .inr
  · rintro (rfl | h)
    · exact hs
    · exact h
theorem insert_l0 (l : List S40) (hA : Asc l) (s : S40) (hl : l.length < 1000) : ∀ i : Nat, i ≤ l.length → (∀ x ∈ l.drop i, lt40 s x) →
    Ev (fun k => corporaref27_Insert.l0 k l (i : Int) s.f0 s.f1) (ins l s) := by
  intro i
  induction i with
  | zero =>
    intro hi h2
    have e := ins_at l hA s 0 (by simp) h2
    refine ⟨1, fun k hk => ?_⟩
    obtain ⟨k, rfl⟩ : ∃ m, k = m + 1 := ⟨k - 1, by omega⟩
    simp only [corporaref27_Insert.l0, Option.bind_some]
    rw [if_neg (by omega), if_pos (by omega), if_pos (by omega), if_pos (by simp), if_pos (by simp), if_pos (by simp; omega), ← e]
    simp
  | succ i ih =>
    intro hi h2
    have hlt : i < l.length := by omega
    have hw := wpred (j := i) (by omega)
    by_cases c1 : lt40 s l[i]
    · refine Ev.step (f := fun k => corporaref27_Insert.l0 k l (i : Int) s.f0 s.f1) (fun k => ?_) (ih (by omega) fun x hx => ?_)
      · simp only [corporaref27_Insert.l0, hw]
        rw [if_pos (by omega), if_pos (by omega), if_pos (by omega), rd40 l i hlt]
        rcases c1 with c | ⟨c, c'⟩
        · rw [if_pos c]
        · rw [if_neg (by omega), if_pos c, if_pos c']
      · rw [List.drop_eq_getElem_cons hlt] at hx
        rcases List.mem_cons.1 hx with rfl | hx
        · exact c1
        · exact h2 x hx
    · by_cases c2 : s = l[i]
      · refine ⟨1, fun k hk => ?_⟩
        obtain ⟨k, rfl⟩ : ∃ m, k = m + 1 := ⟨k - 1, by omega⟩
        have e := ins_mem l hA s (by rw [c2]; exact List.getElem_mem hlt)
        simp only [corporaref27_Insert.l0, hw]
        rw [if_pos (by omega), if_pos (by omega), if_pos (by omega), rd40 l i hlt, ← c2, if_neg (by omega), if_pos rfl, if_neg (by omega), if_pos (by simp), ← e]
      · have c3 : lt40 l[i] s := by
          by_cases c4 : lt40 l[i] s
          · exact c4
          · exact absurd (lt40_total c1 c4) c2
        have e := ins_at l hA s (i + 1) (fun x hx => by
          obtain ⟨j, hj, rfl⟩ := List.mem_iff_getElem.1 hx
          simp only [List.length_take] at hj
          rw [List.getElem_take]
          by_cases hji : j = i
          · subst hji; exact c3
          · exact lt40_trans (asc_get hA (by omega) hlt) c3) h2
        refine ⟨1, fun k hk => ?_⟩
        obtain ⟨k, rfl⟩ : ∃ m, k = m + 1 := ⟨k - 1, by omega⟩
        have c5 : ¬ (l[i].f0 == s.f0 && l[i].f1 == s.f1) = true := by
          intro h
          simp only [Bool.and_eq_true, beq_iff_eq] at h
          exact c2 (S40_ext h.1.symm h.2.symm)
        have fin : (if ((0 : Int) ≤ ((i + 1 : Nat) : Int)) then (if (((i + 1 : Nat) : Int) ≤ (l.length : Int)) then (if ([] : List S40).length + (l.take (((i + 1 : Nat) : Int)).toNat).length < 8796093022208 then (if (([] : List S40) ++ l.take (((i + 1 : Nat) : Int)).toNat).length + [(⟨s.f0, s.f1⟩ : S40)].length < 8796093022208 then (if (([] : List S40) ++ l.take (((i + 1 : Nat) : Int)).toNat ++ [(⟨s.f0, s.f1⟩ : S40)]).length + (l.drop (((i + 1 : Nat) : Int)).toNat).length < 8796093022208 then some (([] : List S40) ++ l.take (((i + 1 : Nat) : Int)).toNat ++ [(⟨s.f0, s.f1⟩ : S40)] ++ l.drop (((i + 1 : Nat) : Int)).toNat) else none) else none) else none) else none) else none) = some (ins l s) := by
          rw [if_pos (by omega), if_pos (by omega), if_pos (by simp; omega), if_pos (by simp; omega), if_pos (by simp; omega), ← e]
          simp
        simp only [corporaref27_Insert.l0, hw, Option.bind_some]
        rw [if_pos (by omega), if_pos (by omega), if_pos (by omega), rd40 l i hlt]
        unfold lt40 at c1 c3
        rw [if_neg (by omega)]
        by_cases c6 : s.f0 = l[i].f0
        · rw [if_pos c6, if_neg (by omega), if_neg c5]; exact fin
        · rw [if_neg c6, if_neg c5]; exact fin
theorem insert_ev (l : List S40) (hA : Asc l) (s : S40) (hl : l.length < 1000) : Ev (fun k => corporaref27_Insert.f k l s.f0 s.f1) (ins l s) :=
  insert_l0 l hA s hl l.length (by omega) (by simp)

theorem rspans_l0 (x : List S38) (hx : x.length < 999) (d : Nat) : ∀ (i : Nat) (o : List S40), i ≤ x.length → x.length - i = d → Asc o → o.length ≤ i →
    Ev (fun k => corporaref27_Spans.l0 k o x (x.length : Int) (i : Int)) (((x.drop i).map sp).foldl ins o) := by
  induction d with
  | zero =>
    intro i o hi hd hA ho
    refine ⟨1, fun k hk => ?_⟩
    obtain ⟨k, rfl⟩ : ∃ m, k = m + 1 := ⟨k - 1, by omega⟩
    simp only [corporaref27_Spans.l0]
    rw [if_neg (by omega), List.drop_eq_nil_of_le (by omega)]
    simp
  | succ d ih =>
    intro i o hi hd hA ho
    have hlt : i < x.length := by omega
    rw [List.drop_eq_getElem_cons hlt]
    refine Ev.step (f := fun k => (corporaref27_Insert.f k o (sp x[i]).f0 (sp x[i]).f1).bind fun t220 => corporaref27_Spans.l0 k t220 x (x.length : Int) ((i + 1 : Nat) : Int)) (fun k => ?_) ?_
    · simp only [corporaref27_Spans.l0]
      rw [if_pos (by omega), if_pos (by omega), if_pos (by omega), rd38 x i hlt, wsucc (by omega)]
      rfl
    · refine Ev.bind (insert_ev o hA (sp x[i]) (by omega)) ?_
      have := length_ins o (sp x[i])
      exact ih (i + 1) (ins o (sp x[i])) (by omega) (by omega) (asc_ins hA _) (by omega)
theorem rspans_ev (x : List S38) (hx : x.length < 999) : Ev (fun k => corporaref27_Spans.f k x) (nrm (x.map sp)) := by
  have h := rspans_l0 x hx _ 0 [] (by omega) rfl List.Pairwise.nil (by simp)
  simp only [List.drop_zero] at h
  exact h

end Go.Proofs.Ytmmdlkeemafanaa.Q
