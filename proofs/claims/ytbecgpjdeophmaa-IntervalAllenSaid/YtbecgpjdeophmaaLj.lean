import Derived.Test.YtbecgpjdeophmaaLh
import Derived.Test.YtbecgpjdeophmaaLf4
import Derived.Test.YtbecgpjdeophmaaQt
namespace Go.Proofs.Ytbecgpjdeophmaa.Q
set_option linter.unusedVariables false
open Go.RowKit Go.Proofs.YtbecgpjdeophmaaW Go.Proofs.YtbecgpjdeophmaaW.PrintWords Go.Proofs.YtbecgpjdeophmaaW.PrintMore

/-- A span that overlaps some span of a list. -/
def toB (b : List S23) (s : S23) : Bool := b.any fun t => decide (s.f0 < t.f1 ∧ t.f0 < s.f1)
/-- A token of a list's spans. -/
def Tok (b : List S23) (x : Int) : Prop := ∃ t ∈ b, t.f0 ≤ x ∧ x < t.f1
/-- Spans that lie apart. -/
def Apart (l : List S23) : Prop := l.Pairwise fun p q => p.f1 < q.f0

theorem tok_cons (t : S23) (b : List S23) (x : Int) : Tok (t :: b) x ↔ (t.f0 ≤ x ∧ x < t.f1) ∨ Tok b x := by
  unfold Tok; simp only [List.mem_cons, exists_eq_or_imp]
theorem mx_lt {a b c : Int} : c < mx a b ↔ c < a ∨ c < b := by unfold mx; split <;> omega

theorem covR_facts (l : List S23) : ∀ c : S23, Asc l → (∀ s ∈ l, Vld s) → Vld c → (∀ s ∈ l, c.f0 ≤ s.f0) →
    Apart (covR c l) ∧ (∀ p ∈ covR c l, Vld p ∧ c.f0 ≤ p.f0) ∧ ∀ x, Tok (covR c l) x ↔ (c.f0 ≤ x ∧ x < c.f1) ∨ Tok l x := by
  induction l with
  | nil =>
    intro c _ _ hc _
    refine ⟨by simp [covR, Apart], ?_, fun x => ?_⟩
    · intro p hp
      simp only [covR, List.mem_singleton] at hp
      subst hp; exact ⟨hc, Int.le_refl _⟩
    · rw [covR, tok_cons]
  | cons s t ih =>
    intro c ha hv hc hf
    have ha' : Asc t := (List.pairwise_cons.1 ha).2
    have hst : ∀ u ∈ t, s.f0 ≤ u.f0 := fun u hu => lt23_le ((List.pairwise_cons.1 ha).1 u hu)
    have hvt : ∀ u ∈ t, Vld u := fun u hu => hv u (List.mem_cons_of_mem _ hu)
    have hvs : Vld s := hv s List.mem_cons_self
    have hcs : c.f0 ≤ s.f0 := hf s List.mem_cons_self
    rw [covR]
    by_cases h : s.f0 ≤ c.f1
    · rw [if_pos h]
      have hm : ∀ x : Int, x < mx c.f1 s.f1 ↔ x < c.f1 ∨ x < s.f1 := fun x => mx_lt
      have hc2 : Vld ⟨c.f0, mx c.f1 s.f1⟩ := ⟨hc.1, (hm _).2 (.inl hc.2)⟩
      obtain ⟨h1, h2, h3⟩ := ih ⟨c.f0, mx c.f1 s.f1⟩ ha' hvt hc2 (fun u hu => hf u (List.mem_cons_of_mem _ hu))
      refine ⟨h1, h2, fun x => ?_⟩
      rw [h3, tok_cons, ← or_assoc]
      show (c.f0 ≤ x ∧ x < mx c.f1 s.f1) ∨ Tok t x ↔ _
      rw [hm]
      refine or_congr ?_ Iff.rfl
      omega
    · rw [if_neg h]
      obtain ⟨h1, h2, h3⟩ := ih s ha' hvt hvs hst
      refine ⟨?_, ?_, fun x => ?_⟩
      · refine List.pairwise_cons.2 ⟨fun p hp => ?_, h1⟩
        have := (h2 p hp).2; omega
      · intro p hp
        rcases List.mem_cons.1 hp with hp | hp
        · subst hp; exact ⟨hc, Int.le_refl _⟩
        · have := h2 p hp; exact ⟨this.1, by have := this.2; omega⟩
      · rw [tok_cons, h3, tok_cons]
theorem cov_facts {l : List S23} (ha : Asc l) (hv : ∀ s ∈ l, Vld s) : Apart (cov l) ∧ (∀ p ∈ cov l, Vld p) ∧ ∀ x, Tok (cov l) x ↔ Tok l x := by
  cases l with
  | nil => simp [cov, Apart]
  | cons s t =>
    obtain ⟨h1, h2, h3⟩ := covR_facts t s (List.pairwise_cons.1 ha).2 (fun u hu => hv u (List.mem_cons_of_mem _ hu)) (hv s List.mem_cons_self) (fun u hu => lt23_le ((List.pairwise_cons.1 ha).1 u hu))
    exact ⟨h1, fun p hp => (h2 p hp).1, fun x => by rw [tok_cons]; exact h3 x⟩

theorem to_tok {b : List S23} (hb : ∀ t ∈ b, Vld t) {s : S23} (hs : Vld s) : toB b s = true ↔ ∃ x, s.f0 ≤ x ∧ x < s.f1 ∧ Tok b x := by
  unfold toB
  rw [List.any_eq_true]
  constructor
  · rintro ⟨t, ht, hd⟩
    have hd := of_decide_eq_true hd
    have hv := hb t ht
    unfold Vld at hv hs
    refine ⟨mx s.f0 t.f0, mx_le.2 (.inl (Int.le_refl _)), ?_, t, ht, mx_le.2 (.inr (Int.le_refl _)), ?_⟩ <;> (unfold mx; split <;> omega)
  · rintro ⟨x, h1, h2, t, ht, h3, h4⟩
    exact ⟨t, ht, decide_eq_true ⟨by omega, by omega⟩⟩
theorem to_cov {b : List S23} (ha : Asc b) (hv : ∀ t ∈ b, Vld t) {s : S23} (hs : Vld s) : toB (cov b) s = toB b s := by
  obtain ⟨_, h2, h3⟩ := cov_facts ha hv
  rw [Bool.eq_iff_iff, to_tok h2 hs, to_tok hv hs]
  simp only [h3]

theorem apart_drop {l : List S23} (h : Apart l) {i : Nat} (hi : i < l.length) {x : S23} (hx : x ∈ l.drop (i + 1)) : l[i].f1 < x.f0 := by
  have h1 : Apart (l.drop i) := List.Pairwise.sublist (List.drop_sublist i l) h
  rw [drop_at l i hi] at h1
  exact (List.pairwise_cons.1 h1).1 x hx

theorem to_end {o : List S23} (ho : Apart o) (hv : ∀ t ∈ o, Vld t) {k : Nat} {s : S23} (h1 : ∀ t ∈ o.take k, t.f1 ≤ s.f0) (hlt : k < o.length) (h2 : s.f0 < o[k].f1) : toB o s = decide (o[k].f0 < s.f1) := by
  unfold toB
  rw [Bool.eq_iff_iff, List.any_eq_true, decide_eq_true_iff]
  constructor
  · rintro ⟨t, ht, hd⟩
    have hd := of_decide_eq_true hd
    rcases (mem_split o k t).1 ht with h | h
    · have := h1 t h; omega
    · rw [drop_at o k hlt] at h
      rcases List.mem_cons.1 h with h | h
      · subst h; omega
      · have := apart_drop ho hlt h
        have hv' := hv _ (List.getElem_mem hlt)
        unfold Vld at hv'; omega
  · intro h
    exact ⟨o[k], List.getElem_mem hlt, decide_eq_true ⟨h2, h⟩⟩
theorem to_none {o : List S23} {s : S23} (h1 : ∀ t ∈ o, t.f1 ≤ s.f0) : toB o s = false := by
  unfold toB
  rw [List.any_eq_false]
  intro t ht hd
  have hd := of_decide_eq_true hd
  have := h1 t ht; omega

theorem over_l1 (o m : List S23) (ho : Apart o) (hv : ∀ t ∈ o, Vld t) (hol : o.length ≤ 4096) (out : List S23) (i : Nat) (s : S23) (hout : out.length ≤ 4096) (R : List S23 × Int) (hi : (i : Int) < 5000)
    (hr : ∀ k : Nat, k ≤ o.length → (∀ t ∈ o.take k, t.f1 ≤ s.f0) → Ev (fun n => interval_Overlapping.l0 n o (if toB o s = true then out ++ [s] else out) (k : Int) m (m.length : Int) ((i + 1 : Nat) : Int)) R) (d : Nat) :
    ∀ k : Nat, k ≤ o.length → o.length - k = d → (∀ t ∈ o.take k, t.f1 ≤ s.f0) → Ev (fun n => interval_Overlapping.l1 n o out (k : Int) m (m.length : Int) (i : Int) s.f0 s.f1) R := by
  induction d with
  | zero =>
    intro k hk hd h1
    have hke : k = o.length := by omega
    have h3 := hr k hk h1
    rw [to_none (fun t ht => h1 t (by rw [hke, List.take_length]; exact ht)), if_neg (by simp)] at h3
    refine Ev.step (fun n => ?_) h3
    simp only [interval_Overlapping.l1]
    rw [if_neg (by omega), wrap_succ (by omega)]
  | succ d ih =>
    intro k hk hd h1
    have hlt : k < o.length := by omega
    by_cases c : o[k].f1 ≤ s.f0
    · have h2 : ∀ t ∈ o.take (k + 1), t.f1 ≤ s.f0 := by
        intro t ht
        rw [take_succ_at o k hlt, List.mem_append] at ht
        rcases ht with ht | ht
        · exact h1 t ht
        · rw [List.mem_singleton] at ht; subst ht; exact c
      have := ih (k + 1) (by omega) (by omega) h2
      refine Ev.step (fun n => ?_) this
      simp only [interval_Overlapping.l1]
      rw [if_pos (by omega), if_pos (by omega), rd_at o k hlt, if_pos c, wrap_succ (by omega)]
    · have h3 := hr k hk h1
      rw [to_end ho hv h1 hlt (by omega)] at h3
      refine Ev.step (fun n => ?_) h3
      simp only [interval_Overlapping.l1]
      rw [if_pos (by omega), if_pos (by omega), rd_at o k hlt, if_neg c, wrap_succ (by omega), if_pos (show out.length < 8796093022208 by omega)]
      by_cases c : o[k].f0 < s.f1
      · rw [if_pos c, if_pos (decide_eq_true c)]
      · rw [if_neg c, if_neg (by simpa using c)]

theorem over_l0 (o m : List S23) (ho : Apart o) (hv : ∀ t ∈ o, Vld t) (hol : o.length ≤ 4096) (hm : Asc m) (hml : m.length ≤ 4096) (d : Nat) :
    ∀ (i k : Nat) (out : List S23), i ≤ m.length → m.length - i = d → k ≤ o.length → out.length ≤ i → (∀ t ∈ o.take k, ∀ s ∈ m.drop i, t.f1 ≤ s.f0) → Ev (fun n => interval_Overlapping.l0 n o out (k : Int) m (m.length : Int) (i : Int)) (out ++ (m.drop i).filter (toB o), 0) := by
  induction d with
  | zero =>
    intro i k out hi hd hk hout h1
    have e : m.drop i = [] := List.drop_eq_nil_of_le (by omega)
    rw [e, List.filter_nil, List.append_nil]
    refine Ev.step (f := fun _ => some (out, 0)) (fun n => ?_) (Ev.now _)
    simp only [interval_Overlapping.l0]
    rw [if_neg (by omega)]
  | succ d ih =>
    intro i k out hi hd hk hout h1
    have hlt : i < m.length := by omega
    have em := drop_at m i hlt
    rw [em] at h1
    refine Ev.step (f := fun n => interval_Overlapping.l1 n o out (k : Int) m (m.length : Int) (i : Int) m[i].f0 m[i].f1) (fun n => ?_) ?_
    · simp only [interval_Overlapping.l0]
      rw [if_pos (by omega), if_pos (by omega), if_pos (by omega), rd_at m i hlt]
    · refine over_l1 o m ho hv hol out i m[i] (by omega) _ (by omega) (fun k' hk' h2 => ?_) _ k hk rfl (fun t ht => h1 t ht _ List.mem_cons_self)
      have h3 : ∀ t ∈ o.take k', ∀ s ∈ m.drop (i + 1), t.f1 ≤ s.f0 := fun t ht s hs => by
        have := h2 t ht; have := lt23_le (asc_drop hm hlt hs); omega
      rw [em, List.filter_cons]
      by_cases c : toB o m[i] = true
      · rw [if_pos c, if_pos c]
        have := ih (i + 1) k' (out ++ [m[i]]) (by omega) (by omega) hk' (by simp; omega) h3
        rwa [List.append_assoc, List.singleton_append] at this
      · rw [if_neg c, if_neg c]
        exact ih (i + 1) k' out (by omega) (by omega) hk' (by omega) h3

theorem Overlapping_ev (a b : List S23) : Ev (fun k => interval_Overlapping.f k a b) (res ((nrm a).filter (toB (nrm b))) (chk [a, b])) := by
  unfold interval_Overlapping.f res
  refine Ev.bind (check_ev [a, b] (by simp)) ?_
  by_cases h : chk [a, b] = 0
  · rw [if_pos h]
    obtain ⟨la, lb, va, vb⟩ := chk2 h
    refine Ev.congr (fun k => by rw [if_pos h]) ?_
    refine Ev.bind (cover_ev b lb) ?_
    refine Ev.bind (normal_ev a la) ?_
    have na := length_nrm a
    have nb := length_nrm b
    have nc := length_cov (nrm b)
    have va' : ∀ s ∈ nrm a, Vld s := fun s hs => va s ((mem_nrm a s).1 hs)
    have vb' : ∀ s ∈ nrm b, Vld s := fun s hs => vb s ((mem_nrm b s).1 hs)
    obtain ⟨h1, h2, _⟩ := cov_facts (asc_nrm b) vb'
    have e : (nrm a).filter (toB (nrm b)) = (nrm a).filter (toB (cov (nrm b))) := List.filter_congr fun s hs => (to_cov (asc_nrm b) vb' (va' s hs)).symm
    rw [e]
    exact over_l0 (cov (nrm b)) (nrm a) h1 h2 (by omega) (asc_nrm a) (by omega) _ 0 0 [] (Nat.zero_le _) rfl (Nat.zero_le _) (by simp) (by simp)
  · rw [if_neg h]
    exact Ev.congr (f := fun k => some ([], chk [a, b])) (fun k => by rw [if_neg h]) (Ev.now _)
end Go.Proofs.Ytbecgpjdeophmaa.Q
