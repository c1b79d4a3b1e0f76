import Derived.Test.YtmmdlkeemafanaaMd
import Derived.Test.YtmmdlkeemafanaaQj
namespace Go.Proofs.Ytmmdlkeemafanaa.Q
open Go.RowKit Go.Proofs.YtmmdlkeemafanaaW Go.Proofs.YtmmdlkeemafanaaW.PrintWords

/-! ### what is chosen -/
def pickL (st : Int) (L : List S40) : List S40 := if st = 3 then trad L 0 else L.filter (keepS st L)
theorem keep0 (L : List S40) (s : S40) : keepS 0 L s = true := by
  rw [keep_iff]; intro t _ _; exact ⟨fun h => by omega, fun h => by omega⟩
theorem pick_ev (st : Int) (h0 : 0 ≤ st) (h3 : st ≤ 3) (L : List S40) (hA : Asc L) (hL : L.length < 1000) (hV : ∀ x ∈ L, Vl x) : Ev (fun k => pick k st L) (pickL st L) := by
  unfold pick pickL
  by_cases c0 : st = 0
  · subst c0
    have e : L.filter (keepS 0 L) = L := List.filter_eq_self.2 fun s _ => keep0 L s
    rw [if_neg (by omega), e]
    exact Ev.now _
  · by_cases c1 : st = 1
    · subst c1; exact shortest_ev L hA hL hV
    · by_cases c2 : st = 2
      · subst c2; exact longest_ev L hA hL hV
      · obtain rfl : st = 3 := by omega
        exact trad_ev L hL
theorem trad_sub : ∀ (L : List S40) (p : Int), List.Sublist (trad L p) L
  | [], _ => by rw [trad]; exact List.Sublist.refl _
  | [s], p => by rw [trad]; split <;> simp
  | s :: t :: u, p => by
    rw [trad]
    split
    · exact (trad_sub (t :: u) p).cons _
    · split
      · exact (trad_sub (t :: u) p).cons _
      · exact (trad_sub (t :: u) s.f1).cons_cons _
theorem pickL_sub (st : Int) (L : List S40) : List.Sublist (pickL st L) L := by
  unfold pickL
  split
  · exact trad_sub L 0
  · exact List.filter_sublist
theorem pickL_asc {st : Int} {L : List S40} (h : Asc L) : Asc (pickL st L) := List.Pairwise.sublist (pickL_sub st L) h

/-! ### the checks -/
def vB (m : S38) : Bool := decide (0 ≤ m.f0 ∧ m.f0 < m.f1)
def ordR (l : List S38) : Nat → Nat → Bool
  | 0, _ => true
  | d + 1, i => if cM (l.getD (i - 1) z38) (l.getD i z38) ≥ 0 then false else ordR l d (i + 1)
/-- The matches whose spans are among the chosen ones. -/
def sel (ch : List S40) (l : List S38) : List S38 := l.filter fun m => decide (sp m ∈ ch)

theorem rd38g (l : List S38) (j : Nat) : rd_T38 l (j : Int) = l.getD j z38 := rfl

section
variable (l : List S38) (hl : l.length < 999) (hs : ∀ m ∈ l, short m)

include hl hs in
theorem ch_l2 (ch : List S40) (hA : Asc ch) (hc : ch.length < 1000) (d : Nat) : ∀ (i : Nat) (o : List S38), i ≤ l.length → l.length - i = d → o.length ≤ i →
    Ev (fun k => strategy_Choose.l2 k ch o l (l.length : Int) (i : Int)) (o ++ sel ch (l.drop i), 0) := by
  induction d with
  | zero =>
    intro i o hi hd ho
    refine ⟨1, fun k hk => ?_⟩
    obtain ⟨k, rfl⟩ : ∃ m, k = m + 1 := ⟨k - 1, by omega⟩
    simp only [strategy_Choose.l2]
    rw [if_neg (by omega), List.drop_eq_nil_of_le (by omega)]
    simp [sel]
  | succ d ih =>
    intro i o hi hd ho
    have hlt : i < l.length := by omega
    have hm := hs l[i] (List.getElem_mem hlt)
    unfold short at hm
    rw [List.drop_eq_getElem_cons hlt]
    obtain ⟨p, hp⟩ := search_ev ch hA (sp l[i]) hc
    refine Ev.step (f := fun k => (api_Span_28.f k ch (sp l[i]).f0 (sp l[i]).f1).bind fun bt204 => (if bt204.2 = true then strategy_Choose.l2 k ch (o ++ [l[i]]) l (l.length : Int) ((i + 1 : Nat) : Int) else strategy_Choose.l2 k ch o l (l.length : Int) ((i + 1 : Nat) : Int))) (fun k => ?_) (Ev.bind hp ?_)
    · simp only [strategy_Choose.l2, strategy_span.f, Option.bind_some, slices_Clone_int_int.f]
      rw [if_pos (by omega), if_pos (by omega), if_pos (by omega), rd38 l i hlt, wsucc (by omega), if_pos (by omega), Option.bind_some, if_pos (by omega)]
      rfl
    · by_cases c : sp l[i] ∈ ch
      · have := ih (i + 1) (o ++ [l[i]]) (by omega) (by omega) (by simp; omega)
        have e : sel ch (l[i] :: l.drop (i + 1)) = l[i] :: sel ch (l.drop (i + 1)) := List.filter_cons_of_pos (by simpa using c)
        rw [e]
        rw [List.append_assoc, List.singleton_append] at this
        refine Ev.congr (fun k => ?_) this
        rw [if_pos (by simpa using c)]
      · have := ih (i + 1) o (by omega) (by omega) (by omega)
        have e : sel ch (l[i] :: l.drop (i + 1)) = sel ch (l.drop (i + 1)) := List.filter_cons_of_neg (by simpa using c)
        rw [e]
        refine Ev.congr (fun k => ?_) this
        rw [if_neg (by simpa using c)]

include hl hs in
theorem ch_l1 (st : Int) (r : List S38 × Int) (hr : Ev (fun k => (strategy_Spans.f k l).bind fun t194 => (pick k st t194).bind fun t197 => strategy_Choose.l2 k t197 [] l (l.length : Int) 0) r) (d : Nat) : ∀ i : Nat, 1 ≤ i → (l.length - i = d) →
    Ev (fun k => strategy_Choose.l1 st k l (i : Int)) (if ordR l d i = true then r else ([], 6)) := by
  induction d with
  | zero =>
    intro i hi hd
    rw [ordR, if_pos rfl]
    refine Ev.step (fun k => ?_) hr
    simp only [strategy_Choose.l1]
    rw [if_neg (by omega)]
  | succ d ih =>
    intro i hi hd
    have hlt : i < l.length := by omega
    have hp : i - 1 < l.length := by omega
    have ew : wrap64 ((i : Int) - 1) = ((i - 1 : Nat) : Int) := by unfold wrap64; omega
    have e1 : l.getD (i - 1) z38 = l[i - 1] := by simp [List.getD_eq_getElem?_getD, hp]
    have e2 : l.getD i z38 = l[i] := by simp [List.getD_eq_getElem?_getD, hlt]
    refine Ev.step (f := fun k => (match_Compare.f k l[i - 1].f0 l[i - 1].f1 l[i - 1].f2 l[i].f0 l[i].f1 l[i].f2).bind fun t => (if t ≥ 0 then some (([] : List S38), 6) else strategy_Choose.l1 st k l ((i + 1 : Nat) : Int))) (fun k => ?_) (Ev.bind (cM_match _ _ (hs _ (List.getElem_mem hp))) ?_)
    · simp only [strategy_Choose.l1, ew]
      rw [if_pos (by omega), if_pos (by omega), if_pos (by omega), if_pos (by omega), rd38 l (i - 1) hp, rd38 l i hlt, wsucc (by omega)]
    · rw [ordR, e1, e2]
      by_cases c : cM l[i - 1] l[i] ≥ 0
      · rw [if_pos c]
        exact Ev.congr (fun k => if_pos c) (Ev.now _)
      · rw [if_neg c]
        exact Ev.congr (fun k => if_neg c) (ih (i + 1) (by omega) (by omega))

include hl in
theorem ch_l0 (st : Int) (r : List S38 × Int) (d : Nat) : ∀ i : Nat, i ≤ l.length → l.length - i = d → ((l.drop i).all vB = true → Ev (fun k => strategy_Choose.l1 st k l 1) r) →
    Ev (fun k => strategy_Choose.l0 st k l l (l.length : Int) (i : Int)) (if (l.drop i).all vB = true then r else ([], 8)) := by
  induction d with
  | zero =>
    intro i hi hd hr
    rw [List.drop_eq_nil_of_le (by omega)] at hr ⊢
    rw [if_pos (by rfl)]
    refine Ev.step (fun k => ?_) (hr rfl)
    simp only [strategy_Choose.l0]
    rw [if_neg (by omega)]
  | succ d ih =>
    intro i hi hd hr
    have hlt : i < l.length := by omega
    rw [List.drop_eq_getElem_cons hlt, List.all_cons] at hr ⊢
    by_cases c : vB l[i] = true
    · have c' : 0 ≤ l[i].f0 ∧ l[i].f0 < l[i].f1 := by simpa [vB] using c
      rw [c, Bool.true_and] at hr ⊢
      refine Ev.step (fun k => ?_) (ih (i + 1) (by omega) (by omega) hr)
      simp only [strategy_Choose.l0]
      rw [if_pos (by omega), if_pos (by omega), if_pos (by omega), rd38 l i hlt, if_neg (by omega), if_neg (by omega), wsucc (by omega)]
    · have c' : ¬ (0 ≤ l[i].f0 ∧ l[i].f0 < l[i].f1) := by simpa [vB] using c
      rw [if_neg (by simp [c])]
      refine Ev.step (f := fun _ => some (([] : List S38), 8)) (fun k => ?_) (Ev.now _)
      simp only [strategy_Choose.l0]
      rw [if_pos (by omega), if_pos (by omega), if_pos (by omega), rd38 l i hlt]
      by_cases q : l[i].f0 ≥ l[i].f1
      · rw [if_pos q]
      · rw [if_neg q, if_pos (by omega)]

/-- What both answer. -/
def chooseR (st : Int) : List S38 × Int :=
  if st < 0 ∨ 3 < st then ([], 1) else if l.all vB = true then (if ordR l (l.length - 1) 1 = true then (sel (pickL st (nrm (l.map sp))) l, 0) else ([], 6)) else ([], 8)

omit hl hs in
theorem nrm_valid (hv : l.all vB = true) : ∀ x ∈ nrm (l.map sp), Vl x := by
  intro x hx
  rw [mem_nrm, List.mem_map] at hx
  obtain ⟨m, hm, rfl⟩ := hx
  have := List.all_eq_true.1 hv m hm
  simpa [vB, Vl, sp] using this
omit hs in
include hl in
theorem nrm_len : (nrm (l.map sp)).length < 1000 := by
  have := length_nrm (l.map sp)
  simp only [List.length_map] at this
  omega
omit hs in
include hl in
theorem pick_len (st : Int) : (pickL st (nrm (l.map sp))).length < 1000 := by
  have := (pickL_sub st (nrm (l.map sp))).length_le
  have := nrm_len l hl
  omega

include hl hs in
theorem choose_ev (st : Int) : Ev (fun k => strategy_Choose.f k st l) (chooseR l st) := by
  unfold chooseR
  have bad : st < 0 ∨ 3 < st → Ev (fun k => strategy_Choose.f k st l) ([], 1) := by
    intro h
    refine ⟨1, fun k hk => ?_⟩
    obtain ⟨k, rfl⟩ : ∃ m, k = m + 1 := ⟨k - 1, by omega⟩
    simp only [strategy_Choose.f, strategy_Choose.j0]
    by_cases c : st < 0
    · rw [if_pos c]; simp
    · rw [if_neg c, decide_eq_true (by omega)]; simp
  by_cases c : st < 0 ∨ 3 < st
  · rw [if_pos c]; exact bad c
  · rw [if_neg c]
    refine Ev.congr (f := fun k => strategy_Choose.j0 st k l false) (fun k => ?_) (Ev.step (f := fun k => strategy_Choose.l0 st k l l (l.length : Int) ((0 : Nat) : Int)) (fun k => ?_) ?_)
    · simp only [strategy_Choose.f]
      rw [if_neg (by omega), decide_eq_false (by omega)]
    · simp only [strategy_Choose.j0]
      rw [if_neg (by simp)]
      rfl
    · have := ch_l0 l hl st (if ordR l (l.length - 1) 1 = true then (sel (pickL st (nrm (l.map sp))) l, 0) else ([], 6)) _ 0 (by omega) rfl (fun hv => ?_)
      · simpa only [List.drop_zero] using this
      · rw [List.drop_zero] at hv
        refine ch_l1 l hl hs st _ ?_ _ 1 (by omega) rfl
        refine Ev.bind (spans_ev l (by omega)) (Ev.bind (pick_ev st (by omega) (by omega) _ (asc_nrm _) (nrm_len l hl) (nrm_valid l hv)) ?_)
        have h2 := ch_l2 l hl hs _ (pickL_asc (st := st) (asc_nrm (l.map sp))) (pick_len l hl st) _ 0 [] (by omega) rfl (by simp)
        simp only [List.drop_zero, List.nil_append] at h2
        exact h2

end
theorem sel_sub (ch : List S40) (l : List S38) : List.Sublist (sel ch l) l := List.filter_sublist
theorem chooseR_sub (l : List S38) (st : Int) : List.Sublist (chooseR l st).1 l := by
  unfold chooseR
  repeat' split
  all_goals first | exact List.nil_sublist _ | exact sel_sub _ _
end Go.Proofs.Ytmmdlkeemafanaa.Q
