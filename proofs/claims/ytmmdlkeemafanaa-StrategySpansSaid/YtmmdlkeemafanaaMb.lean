import Derived.Test.YtmmdlkeemafanaaMa
import Derived.Test.YtmmdlkeemafanaaQb
import Derived.Test.YtmmdlkeemafanaaQp
import Derived.Test.YtmmdlkeemafanaaQh
namespace Go.Proofs.Ytmmdlkeemafanaa.Q
open Go.RowKit Go.Proofs.YtmmdlkeemafanaaW Go.Proofs.YtmmdlkeemafanaaW.PrintWords

theorem rd40 (l : List S40) (j : Nat) (h : j < l.length) : rd_T40 l (j : Int) = l[j] := by
  show l.getD j z40 = _
  simp [List.getD_eq_getElem?_getD, h]
theorem rd38 (l : List S38) (j : Nat) (h : j < l.length) : rd_T38 l (j : Int) = l[j] := by
  show l.getD j z38 = _
  simp [List.getD_eq_getElem?_getD, h]
instance : DecidableEq S40 := fun x y => decidable_of_iff (x.f0 = y.f0 ∧ x.f1 = y.f1) ⟨fun h => S40_ext h.1 h.2, fun h => by subst h; simp⟩
/-- The span of a match. -/
def sp (m : S38) : S40 := ⟨m.f0, m.f1⟩

/-! ### the list of spans -/
theorem spans_l0 (x : List S38) (hx : x.length < 1000) (d : Nat) : ∀ (i : Nat) (o : List S40), i ≤ x.length → x.length - i = d → o.length ≤ i →
    Ev (fun k => strategy_Spans.l0 k o x (x.length : Int) (i : Int)) (o ++ (x.drop i).map sp) := by
  induction d with
  | zero =>
    intro i o hi hd ho
    refine ⟨1, fun k hk => ?_⟩
    obtain ⟨k, rfl⟩ : ∃ m, k = m + 1 := ⟨k - 1, by omega⟩
    simp only [strategy_Spans.l0]
    rw [if_neg (by omega), List.drop_eq_nil_of_le (by omega)]
    simp
  | succ d ih =>
    intro i o hi hd ho
    have hlt : i < x.length := by omega
    rw [List.drop_eq_getElem_cons hlt]
    refine Ev.step (f := fun k => strategy_Spans.l0 k (o ++ [sp x[i]]) x (x.length : Int) ((i + 1 : Nat) : Int)) (fun k => ?_) ?_
    · simp only [strategy_Spans.l0, strategy_span.f, Option.bind_some]
      rw [if_pos (by omega), if_pos (by omega), if_pos (by omega), if_pos (by omega), rd38 x i hlt, wsucc (by omega)]
      rfl
    · have := ih (i + 1) (o ++ [sp x[i]]) (by omega) (by omega) (by simp; omega)
      simpa only [List.map_cons, List.append_assoc, List.singleton_append] using this
theorem spans_ev (x : List S38) (hx : x.length < 1000) : Ev (fun k => strategy_Spans.f k x) (nrm (x.map sp)) := by
  have h := spans_l0 x hx _ 0 [] (by omega) rfl (by simp)
  simp only [List.drop_zero, List.nil_append] at h
  exact Ev.bind h (Ev.now _)

theorem asc_get {l : List S40} (h : Asc l) {i j : Nat} (hij : i < j) (hj : j < l.length) : lt40 (l[i]'(by omega)) l[j] := List.pairwise_iff_getElem.1 h i j (by omega) hj hij

/-! ### equality -/
theorem same27 (x : List S40) (hx : x.length < 1000) (d : Nat) : ∀ i : Nat, i ≤ x.length → x.length - i = d → Ev (fun k => corporaref27_Same.l0 k x x (x.length : Int) (i : Int)) true := by
  induction d with
  | zero =>
    intro i hi hd
    refine ⟨1, fun k hk => ?_⟩
    obtain ⟨k, rfl⟩ : ∃ m, k = m + 1 := ⟨k - 1, by omega⟩
    simp only [corporaref27_Same.l0]
    rw [if_neg (by omega)]
  | succ d ih =>
    intro i hi hd
    refine Ev.step (f := fun k => corporaref27_Same.l0 k x x (x.length : Int) ((i + 1 : Nat) : Int)) (fun k => ?_) (ih (i + 1) (by omega) (by omega))
    simp only [corporaref27_Same.l0]
    rw [if_pos (by omega), if_pos (by omega), if_pos (by omega), if_pos (by omega), if_neg (by simp), wsucc (by omega)]
theorem same27_ev (x : List S40) (hx : x.length < 1000) : Ev (fun k => corporaref27_Same.f k x x) true := by
  refine Ev.congr (f := fun k => corporaref27_Same.l0 k x x (x.length : Int) 0) (fun k => by simp [corporaref27_Same.f]) ?_
  exact same27 x hx _ 0 (by omega) rfl

def short (m : S38) : Prop := m.f2.length < 17592186044414
theorem same24 (x : List S38) (hx : x.length < 1000) (hs : ∀ m ∈ x, short m) (d : Nat) : ∀ i : Nat, i ≤ x.length → x.length - i = d → Ev (fun k => corporaref24_Same.l0 k x x (x.length : Int) (i : Int)) true := by
  induction d with
  | zero =>
    intro i hi hd
    refine ⟨1, fun k hk => ?_⟩
    obtain ⟨k, rfl⟩ : ∃ m, k = m + 1 := ⟨k - 1, by omega⟩
    simp only [corporaref24_Same.l0]
    rw [if_neg (by omega)]
  | succ d ih =>
    intro i hi hd
    have hlt : i < x.length := by omega
    have hm := hs x[i] (List.getElem_mem hlt)
    refine Ev.step (f := fun k => (corporaref24_Compare.f k x[i].f0 x[i].f1 x[i].f2 x[i].f0 x[i].f1 x[i].f2).bind fun t => if t = 0 then corporaref24_Same.l0 k x x (x.length : Int) ((i + 1 : Nat) : Int) else some false) (fun k => ?_) ?_
    · simp only [corporaref24_Same.l0]
      rw [if_pos (by omega), if_pos (by omega), if_pos (by omega), if_pos (by omega), rd38 x i hlt, wsucc (by omega)]
    · refine Ev.bind (cM_ref x[i] x[i] hm hm) ?_
      rw [cM_self]
      exact Ev.congr (fun k => if_pos rfl) (ih (i + 1) (by omega) (by omega))
theorem same24_ev (x : List S38) (hx : x.length < 1000) (hs : ∀ m ∈ x, short m) : Ev (fun k => corporaref24_Same.f k x x) true := by
  refine Ev.congr (f := fun k => corporaref24_Same.l0 k x x (x.length : Int) 0) (fun k => by simp [corporaref24_Same.f]) ?_
  exact same24 x hx hs _ 0 (by omega) rfl

/-! ### the binary search -/
theorem mid_wrap (i j : Nat) (h : i + j < 4000) : wrap64 ((IntKind.u64.wrap (wrap64 ((i : Int) + (j : Int)))) / 2) = (((i + j) / 2 : Nat) : Int) := by
  have e1 : wrap64 ((i : Int) + (j : Int)) = ((i + j : Nat) : Int) := by unfold wrap64; omega
  have e2 : IntKind.u64.wrap ((i + j : Nat) : Int) = ((i + j : Nat) : Int) := by
    have e3 : (2 : Int) ^ IntKind.u64.bits = 18446744073709551616 := by decide
    show ((i + j : Nat) : Int) % (2 : Int) ^ IntKind.u64.bits = _
    rw [e3]
    omega
  rw [e1, e2]
  unfold wrap64
  omega
theorem search_l0 (l : List S40) (hA : Asc l) (s : S40) (hl : l.length < 1000) (d : Nat) : ∀ i j : Nat, i ≤ j → j ≤ l.length → j - i = d → (∀ q, q < i → (h : q < l.length) → lt40 l[q] s) → (∀ q, j ≤ q → (h : q < l.length) → ¬ lt40 l[q] s) →
    ∃ p : Int, Ev (fun k => api_Span_28.l0 k l (l.length : Int) (i : Int) (j : Int) s.f0 s.f1) (p, decide (s ∈ l)) := by
  induction d using Nat.strongRecOn with
  | ind d ih =>
    intro i j hij hj hd h1 h2
    by_cases hlt : i < j
    · obtain ⟨m, hm⟩ : ∃ m, m = (i + j) / 2 := ⟨_, rfl⟩
      have hw := mid_wrap i j (by omega)
      rw [← hm] at hw
      have hml : m < l.length := by omega
      by_cases c : lt40 l[m] s
      · obtain ⟨p, hp⟩ := ih (j - (m + 1)) (by omega) (m + 1) j (by omega) hj rfl (fun q hq hql => by
          by_cases e : q = m
          · subst e; exact c
          · exact lt40_trans (asc_get hA (by omega) hml) c) h2
        refine ⟨p, Ev.step (f := fun k => (strategy_compare.f k l[m].f0 l[m].f1 s.f0 s.f1).bind fun t => if t < 0 then api_Span_28.l0 k l (l.length : Int) ((m + 1 : Nat) : Int) (j : Int) s.f0 s.f1 else api_Span_28.l0 k l (l.length : Int) (i : Int) (m : Int) s.f0 s.f1) (fun k => ?_) ?_⟩
        · simp only [api_Span_28.l0, hw]
          rw [if_pos (by omega), if_pos (by omega), if_pos (by omega), rd40 l m hml, wsucc (by omega)]
        · exact Ev.bind (cS_f _ _ _ _) (Ev.congr (fun k => if_pos (cS_neg.2 c)) hp)
      · obtain ⟨p, hp⟩ := ih (m - i) (by omega) i m (by omega) (by omega) rfl h1 (fun q hq hql => by
          by_cases e : q = m
          · subst e; exact c
          · exact fun h => c (lt40_trans (asc_get hA (by omega) hql) h))
        refine ⟨p, Ev.step (f := fun k => (strategy_compare.f k l[m].f0 l[m].f1 s.f0 s.f1).bind fun t => if t < 0 then api_Span_28.l0 k l (l.length : Int) ((m + 1 : Nat) : Int) (j : Int) s.f0 s.f1 else api_Span_28.l0 k l (l.length : Int) (i : Int) (m : Int) s.f0 s.f1) (fun k => ?_) ?_⟩
        · simp only [api_Span_28.l0, hw]
          rw [if_pos (by omega), if_pos (by omega), if_pos (by omega), rd40 l m hml, wsucc (by omega)]
        · exact Ev.bind (cS_f _ _ _ _) (Ev.congr (fun k => if_neg (fun h => c (cS_neg.1 h))) hp)
    · obtain rfl : i = j := by omega
      by_cases hil : i < l.length
      · have hmem : decide (s ∈ l) = (cS l[i] s == 0) := by
          by_cases e : l[i] = s
          · rw [decide_eq_true (by rw [← e]; exact List.getElem_mem hil), cS_zero.2 e]; rfl
          · rw [decide_eq_false, eq_comm, beq_eq_false_iff_ne]
            · exact fun h => e (cS_zero.1 h)
            · intro hs
              obtain ⟨q, hq, hqs⟩ := List.mem_iff_getElem.1 hs
              rcases Nat.lt_trichotomy q i with h | h | h
              · have := h1 q h hq; rw [hqs] at this; exact lt40_irrefl _ this
              · subst h; exact e hqs
              · have h3 := asc_get hA h hq
                rw [hqs] at h3
                exact h2 i (Nat.le_refl _) hil h3
        refine ⟨(i : Int), Ev.step (f := fun k => (strategy_compare.f k l[i].f0 l[i].f1 s.f0 s.f1).bind fun t => some ((i : Int), t == 0)) (fun k => ?_) ?_⟩
        · simp only [api_Span_28.l0]
          rw [if_neg (by omega), if_pos (by omega), if_pos (by omega), if_pos (by omega), rd40 l i hil]
        · rw [hmem]
          exact Ev.bind (cS_f _ _ _ _) (Ev.now _)
      · refine ⟨(i : Int), 1, fun k hk => ?_⟩
        obtain ⟨k, rfl⟩ : ∃ m, k = m + 1 := ⟨k - 1, by omega⟩
        simp only [api_Span_28.l0]
        rw [if_neg (by omega), if_neg (by omega), decide_eq_false]
        intro hs
        obtain ⟨q, hq, hqs⟩ := List.mem_iff_getElem.1 hs
        have := h1 q (by omega) hq
        rw [hqs] at this
        exact lt40_irrefl _ this
theorem search_ev (l : List S40) (hA : Asc l) (s : S40) (hl : l.length < 1000) : ∃ p : Int, Ev (fun k => api_Span_28.f k l s.f0 s.f1) (p, decide (s ∈ l)) :=
  search_l0 l hA s hl _ 0 l.length (by omega) (by omega) rfl (fun q hq => by omega) (fun q hq h => by omega)
end Go.Proofs.Ytmmdlkeemafanaa.Q
