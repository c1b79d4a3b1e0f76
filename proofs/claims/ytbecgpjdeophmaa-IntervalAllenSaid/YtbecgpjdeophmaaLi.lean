import Derived.Test.YtbecgpjdeophmaaLh
import Derived.Test.YtbecgpjdeophmaaQr
namespace Go.Proofs.Ytbecgpjdeophmaa.Q
set_option linter.unusedVariables false
open Go.RowKit Go.Proofs.YtbecgpjdeophmaaW Go.Proofs.YtbecgpjdeophmaaW.PrintWords Go.Proofs.YtbecgpjdeophmaaW.PrintMore

/-- A span that contains some span of a list. -/
def ovB (b : List S23) (s : S23) : Bool := b.any fun t => decide (s.f0 ≤ t.f0 ∧ t.f1 ≤ s.f1)
def minE : List S23 → Int
  | [] => 9223372036854775807
  | t :: r => mn (minE r) t.f1
theorem mn_le {a b c : Int} : mn a b ≤ c ↔ a ≤ c ∨ b ≤ c := by unfold mn; split <;> omega
/-- The end of a span is a word of the machine. -/
def Wrd (x : S23) : Prop := x.f1 ≤ 9223372036854775807
theorem minE_go (b : List S23) (c : Int) : minE b ≤ c ↔ 9223372036854775807 ≤ c ∨ ∃ t ∈ b, t.f1 ≤ c := by
  induction b with
  | nil => simp [minE]
  | cons x r ih =>
    rw [minE, mn_le, ih]
    simp only [List.mem_cons, exists_eq_or_imp, or_assoc]
    constructor
    · rintro (h | h | h)
      · exact .inl h
      · exact .inr (.inr h)
      · exact .inr (.inl h)
    · rintro (h | h | h)
      · exact .inl h
      · exact .inr (.inr h)
      · exact .inr (.inl h)
theorem minE_le {b : List S23} (hb : b ≠ []) (hw : ∀ t ∈ b, Wrd t) {c : Int} : minE b ≤ c ↔ ∃ t ∈ b, t.f1 ≤ c := by
  rw [minE_go]
  constructor
  · rintro (h | h)
    · match b, hb with
      | t :: r, _ => exact ⟨t, List.mem_cons_self, Int.le_trans (hw t List.mem_cons_self) h⟩
    · exact h
  · exact .inr

/-- The array of the least ends. -/
def Least (o : List S23) (y : List Int) (j : Nat) : Prop := y.length = o.length + 1 ∧ ∀ i, j ≤ i → i ≤ o.length → y.getD i 0 = minE (o.drop i)

theorem rd_int (y : List Int) (i : Nat) : rd y (i : Int) = y.getD i 0 := rfl

theorem ov_end {o : List S23} (ho : Asc o) (hw : ∀ t ∈ o, Wrd t) {k : Nat} {s : S23} (h1 : ∀ t ∈ o.take k, t.f0 < s.f0) (hlt : k < o.length) (h2 : s.f0 ≤ o[k].f0) : ovB o s = decide (minE (o.drop k) ≤ s.f1) := by
  unfold ovB
  rw [Bool.eq_iff_iff, List.any_eq_true, decide_eq_true_iff, minE_le (by rw [drop_at o k hlt]; exact List.cons_ne_nil _ _) (fun t ht => hw t (List.mem_of_mem_drop ht))]
  constructor
  · rintro ⟨t, ht, hd⟩
    have hd := of_decide_eq_true hd
    rcases (mem_split o k t).1 ht with h | h
    · have := h1 t h; omega
    · exact ⟨t, h, hd.2⟩
  · rintro ⟨t, ht, hd⟩
    refine ⟨t, List.mem_of_mem_drop ht, decide_eq_true ⟨?_, hd⟩⟩
    rw [drop_at o k hlt] at ht
    rcases List.mem_cons.1 ht with h | h
    · subst h; omega
    · have := lt23_le (asc_drop ho hlt h); omega
theorem ov_none {o : List S23} {s : S23} (h1 : ∀ t ∈ o, t.f0 < s.f0) : ovB o s = false := by
  unfold ovB
  rw [List.any_eq_false]
  intro t ht hd
  have hd := of_decide_eq_true hd
  have := h1 t ht; omega

theorem cont_l2 (o m : List S23) (y : List Int) (ho : Asc o) (hw : ∀ t ∈ o, Wrd t) (hol : o.length ≤ 4096) (hy : Least o y 0) (out : List S23) (i : Nat) (s : S23) (hout : out.length ≤ 4096) (R : List S23 × Int) (hi : (i : Int) < 5000)
    (hr : ∀ k : Nat, k ≤ o.length → (∀ t ∈ o.take k, t.f0 < s.f0) → Ev (fun n => interval_Containing.l1 n o y (if ovB o s = true then out ++ [s] else out) (k : Int) m (m.length : Int) ((i + 1 : Nat) : Int)) R) (d : Nat) :
    ∀ k : Nat, k ≤ o.length → o.length - k = d → (∀ t ∈ o.take k, t.f0 < s.f0) → Ev (fun n => interval_Containing.l2 n o y out (k : Int) m (m.length : Int) (i : Int) s.f0 s.f1) R := by
  induction d with
  | zero =>
    intro k hk hd h1
    have hke : k = o.length := by omega
    have h3 := hr k hk h1
    rw [ov_none (fun t ht => h1 t (by rw [hke, List.take_length]; exact ht)), if_neg (by simp)] at h3
    refine Ev.step (fun n => ?_) h3
    simp only [interval_Containing.l2]
    rw [if_neg (by omega), wrap_succ (by omega)]
  | succ d ih =>
    intro k hk hd h1
    have hlt : k < o.length := by omega
    by_cases c : o[k].f0 < s.f0
    · have h2 : ∀ t ∈ o.take (k + 1), t.f0 < s.f0 := by
        intro t ht
        rw [take_succ_at o k hlt, List.mem_append] at ht
        rcases ht with ht | ht
        · exact h1 t ht
        · rw [List.mem_singleton] at ht; subst ht; exact c
      have := ih (k + 1) (by omega) (by omega) h2
      refine Ev.step (fun n => ?_) this
      simp only [interval_Containing.l2]
      rw [if_pos (by omega), if_pos (by omega), rd_at o k hlt, if_pos c, wrap_succ (by omega)]
    · have h3 := hr k hk h1
      rw [ov_end ho hw h1 hlt (by omega)] at h3
      refine Ev.step (fun n => ?_) h3
      simp only [interval_Containing.l2]
      rw [if_pos (by omega), if_pos (by omega), rd_at o k hlt, if_neg c, if_pos (by have := hy.1; omega), rd_int, hy.2 k (Nat.zero_le _) hk, wrap_succ (by omega), if_pos (show out.length < 8796093022208 by omega)]
      by_cases c : minE (o.drop k) ≤ s.f1
      · rw [if_pos c, if_pos (decide_eq_true c)]
      · rw [if_neg c, if_neg (by simpa using c)]

theorem cont_l1 (o m : List S23) (y : List Int) (ho : Asc o) (hw : ∀ t ∈ o, Wrd t) (hol : o.length ≤ 4096) (hy : Least o y 0) (hm : Asc m) (hml : m.length ≤ 4096) (d : Nat) :
    ∀ (i k : Nat) (out : List S23), i ≤ m.length → m.length - i = d → k ≤ o.length → out.length ≤ i → (∀ t ∈ o.take k, ∀ s ∈ m.drop i, t.f0 < s.f0) → Ev (fun n => interval_Containing.l1 n o y out (k : Int) m (m.length : Int) (i : Int)) (out ++ (m.drop i).filter (ovB o), 0) := by
  induction d with
  | zero =>
    intro i k out hi hd hk hout h1
    have e : m.drop i = [] := List.drop_eq_nil_of_le (by omega)
    rw [e, List.filter_nil, List.append_nil]
    refine Ev.step (f := fun _ => some (out, 0)) (fun n => ?_) (Ev.now _)
    simp only [interval_Containing.l1]
    rw [if_neg (by omega)]
  | succ d ih =>
    intro i k out hi hd hk hout h1
    have hlt : i < m.length := by omega
    have em := drop_at m i hlt
    rw [em] at h1
    refine Ev.step (f := fun n => interval_Containing.l2 n o y out (k : Int) m (m.length : Int) (i : Int) m[i].f0 m[i].f1) (fun n => ?_) ?_
    · simp only [interval_Containing.l1]
      rw [if_pos (by omega), if_pos (by omega), if_pos (by omega), rd_at m i hlt]
    · refine cont_l2 o m y ho hw hol hy out i m[i] (by omega) _ (by omega) (fun k' hk' h2 => ?_) _ k hk rfl (fun t ht => h1 t ht _ List.mem_cons_self)
      have h3 : ∀ t ∈ o.take k', ∀ s ∈ m.drop (i + 1), t.f0 < s.f0 := fun t ht s hs => by
        have := h2 t ht; have := lt23_le (asc_drop hm hlt hs); omega
      rw [em, List.filter_cons]
      by_cases c : ovB o m[i] = true
      · rw [if_pos c, if_pos c]
        have := ih (i + 1) k' (out ++ [m[i]]) (by omega) (by omega) hk' (by simp; omega) h3
        rwa [List.append_assoc, List.singleton_append] at this
      · rw [if_neg c, if_neg c]
        exact ih (i + 1) k' out (by omega) (by omega) hk' (by omega) h3

theorem least_set {o : List S23} {y : List Int} {j : Nat} (h : Least o y (j + 1)) (hj : j < o.length) : Least o (y.set j (mn (y.getD (j + 1) 0) o[j].f1)) j := by
  refine ⟨by rw [List.length_set]; exact h.1, fun i h1 h2 => ?_⟩
  by_cases e : i = j
  · subst e
    have hl : i < y.length := by have := h.1; omega
    rw [List.getD_eq_getElem?_getD, List.getElem?_set_self hl, Option.getD_some, drop_at o i hj, minE, h.2 (i + 1) (Nat.le_refl _) (by omega)]
  · rw [List.getD_eq_getElem?_getD, List.getElem?_set_ne (by omega), ← List.getD_eq_getElem?_getD]
    exact h.2 i (by omega) h2

theorem cont_l0 (a o : List S23) (ho : Asc o) (hw : ∀ t ∈ o, Wrd t) (hol : o.length ≤ 4096) (ha : a.length ≤ 4096) : ∀ (j : Nat) (y : List Int), j ≤ o.length → Least o y j →
    Ev (fun n => interval_Containing.l0 n a o y ((j : Int) - 1)) ((nrm a).filter (ovB o), 0) := by
  intro j
  induction j with
  | zero =>
    intro y hj hy
    have na := length_nrm a
    refine Ev.step (f := fun n => (interval_normal.f n a).bind fun t => interval_Containing.l1 n o y [] 0 t (t.length : Int) 0) (fun n => ?_) (Ev.bind (normal_ev a ha) (cont_l1 o (nrm a) y ho hw hol hy (asc_nrm a) (by omega) _ 0 0 [] (Nat.zero_le _) rfl (Nat.zero_le _) (by simp) (by simp)))
    simp only [interval_Containing.l0]
    rw [if_neg (by omega)]
  | succ j ih =>
    intro y hj hy
    have hlt : j < o.length := by omega
    have hyl := hy.1
    have e1 : ((j + 1 : Nat) : Int) - 1 = (j : Int) := by omega
    rw [e1]
    refine Ev.step (f := fun n => interval_Containing.l0 n a o (y.set j (mn (y.getD (j + 1) 0) o[j].f1)) ((j : Int) - 1)) (fun n => ?_) (ih _ (by omega) (least_set hy hlt))
    simp only [interval_Containing.l0]
    rw [wrap_succ (by omega), if_pos (by omega), if_pos (by omega), if_pos (by omega), if_pos (by omega), if_pos (by omega), if_pos (by omega), rd_int, rd_at o j hlt, wrap_pred (by omega)]
    rfl

theorem Containing_ev (a b : List S23) (hw : ∀ t ∈ b, Wrd t) : Ev (fun k => interval_Containing.f k a b) (res ((nrm a).filter (ovB (nrm b))) (chk [a, b])) := by
  unfold interval_Containing.f res
  refine Ev.bind (check_ev [a, b] (by simp)) ?_
  by_cases h : chk [a, b] = 0
  · rw [if_pos h]
    obtain ⟨la, lb, va, vb⟩ := chk2 h
    refine Ev.congr (fun k => by rw [if_pos h]) ?_
    refine Ev.bind (normal_ev b lb) ?_
    have nb := length_nrm b
    have e : wrap64 (((nrm b).length : Int) + 1) = (((nrm b).length + 1 : Nat) : Int) := wrap_succ (by omega)
    refine Ev.congr (f := fun k => interval_Containing.l0 k a (nrm b) ((List.replicate ((nrm b).length + 1) (0 : Int)).set (nrm b).length 9223372036854775807) (((nrm b).length : Int) - 1)) (fun k => ?_) (cont_l0 a (nrm b) (asc_nrm b) (fun t ht => hw t ((mem_nrm b t).1 ht)) (by omega) la (nrm b).length _ (Nat.le_refl _) ⟨by simp, fun i h1 h2 => ?_⟩)
    · rw [e, if_pos (by omega), if_pos (by omega), Option.bind_some, if_pos (by omega), if_pos (by rw [List.length_replicate]; omega), wrap_pred (by omega)]
      rfl
    · obtain rfl : i = (nrm b).length := by omega
      rw [List.drop_length, List.getD_eq_getElem?_getD, List.getElem?_set_self (by simp)]
      rfl
  · rw [if_neg h]
    exact Ev.congr (f := fun k => some ([], chk [a, b])) (fun k => by rw [if_neg h]) (Ev.now _)
end Go.Proofs.Ytbecgpjdeophmaa.Q
