import Derived.Test.YtbecgpjdeophmaaLf
import Derived.Test.YtbecgpjdeophmaaQp
namespace Go.Proofs.Ytbecgpjdeophmaa.Q
set_option linter.unusedVariables false
open Go.RowKit Go.Proofs.YtbecgpjdeophmaaW Go.Proofs.YtbecgpjdeophmaaW.PrintWords Go.Proofs.YtbecgpjdeophmaaW.PrintMore

/-- A span within some span of a list. -/
def inB (b : List S23) (s : S23) : Bool := b.any fun t => decide (t.f0 ≤ s.f0 ∧ s.f1 ≤ t.f1)
def maxE (b : List S23) : Int := b.foldl (fun a t => mx a t.f1) 0
theorem mx_le {a b c : Int} : c ≤ mx a b ↔ c ≤ a ∨ c ≤ b := by unfold mx; split <;> omega
theorem maxE_go (b : List S23) : ∀ (a c : Int), c ≤ b.foldl (fun a t => mx a t.f1) a ↔ c ≤ a ∨ ∃ t ∈ b, c ≤ t.f1 := by
  induction b with
  | nil => intro a c; simp
  | cons x r ih =>
    intro a c
    rw [List.foldl_cons, ih, mx_le]
    simp only [List.mem_cons, exists_eq_or_imp, or_assoc]
theorem maxE_snoc (b : List S23) (t : S23) : maxE (b ++ [t]) = mx (maxE b) t.f1 := by simp [maxE]
theorem le_maxE {b : List S23} {c : Int} (h : 0 < c) : c ≤ maxE b ↔ ∃ t ∈ b, c ≤ t.f1 := by
  unfold maxE
  rw [maxE_go]
  constructor
  · rintro (k | k)
    · omega
    · exact k
  · exact .inr
theorem take_succ_at (l : List S23) (i : Nat) (h : i < l.length) : l.take (i + 1) = l.take i ++ [l[i]] := by rw [List.take_add_one, List.getElem?_eq_getElem h]; rfl
theorem asc_drop {l : List S23} (h : Asc l) {i : Nat} (hi : i < l.length) {x : S23} (hx : x ∈ l.drop (i + 1)) : lt23 l[i] x := by
  have h1 : Asc (l.drop i) := List.Pairwise.sublist (List.drop_sublist i l) h
  rw [drop_at l i hi] at h1
  exact (List.pairwise_cons.1 h1).1 x hx
theorem lt23_le {x y : S23} (h : lt23 x y) : x.f0 ≤ y.f0 := by unfold lt23 at h; omega
theorem mem_split (l : List S23) (k : Nat) (t : S23) : t ∈ l ↔ t ∈ l.take k ∨ t ∈ l.drop k := by
  rw [← List.mem_append, List.take_append_drop]

theorem in_end {o : List S23} (ho : Asc o) {k : Nat} (hk : k ≤ o.length) {s : S23} (hs : Vld s) (h1 : ∀ t ∈ o.take k, t.f0 ≤ s.f0) (h2 : ∀ h : k < o.length, s.f0 < o[k].f0) : inB o s = decide (s.f1 ≤ maxE (o.take k)) := by
  have hp : 0 < s.f1 := by unfold Vld at hs; omega
  unfold inB
  rw [Bool.eq_iff_iff, List.any_eq_true, decide_eq_true_iff, le_maxE hp]
  constructor
  · rintro ⟨t, ht, hd⟩
    have hd := of_decide_eq_true hd
    rcases (mem_split o k t).1 ht with h | h
    · exact ⟨t, h, hd.2⟩
    · exfalso
      have hlt : k < o.length := by
        refine Nat.lt_of_not_le fun hle => ?_
        rw [List.drop_eq_nil_of_le hle] at h; simp at h
      have h3 := h2 hlt
      rw [drop_at o k hlt] at h
      rcases List.mem_cons.1 h with h | h
      · subst h; omega
      · have := lt23_le (asc_drop ho hlt h); omega
  · rintro ⟨t, ht, hd⟩
    exact ⟨t, List.mem_of_mem_take ht, decide_eq_true ⟨h1 t ht, hd⟩⟩

theorem within_l1 (o m : List S23) (ho : Asc o) (hol : o.length ≤ 4096) (out : List S23) (i : Nat) (s : S23) (hs : Vld s) (hout : out.length ≤ 4096) (R : List S23 × Int) (hi : (i : Int) < 5000)
    (hr : ∀ k : Nat, k ≤ o.length → (∀ t ∈ o.take k, t.f0 ≤ s.f0) → Ev (fun n => interval_Within.l0 n (if inB o s = true then out ++ [s] else out) o (k : Int) (maxE (o.take k)) m (m.length : Int) ((i + 1 : Nat) : Int)) R) (d : Nat) :
    ∀ k : Nat, k ≤ o.length → o.length - k = d → (∀ t ∈ o.take k, t.f0 ≤ s.f0) → Ev (fun n => interval_Within.l1 n out o (k : Int) (maxE (o.take k)) m (m.length : Int) (i : Int) s.f0 s.f1) R := by
  have fin : ∀ k : Nat, k ≤ o.length → (∀ t ∈ o.take k, t.f0 ≤ s.f0) → (∀ h : k < o.length, s.f0 < o[k].f0) → Ev (fun n => if s.f1 ≤ maxE (o.take k) then (if out.length < 8796093022208 then (interval_Within.l0 n (out ++ [(⟨s.f0, s.f1⟩ : S23)]) o (k : Int) (maxE (o.take k)) m (m.length : Int) (wrap64 ((i : Int) + 1))) else none) else (interval_Within.l0 n out o (k : Int) (maxE (o.take k)) m (m.length : Int) (wrap64 ((i : Int) + 1)))) R := by
    intro k hk h1 h2
    have e := in_end ho hk hs h1 h2
    have h3 := hr k hk h1
    rw [e] at h3
    refine Ev.congr (fun n => ?_) h3
    rw [wrap_succ (by omega), if_pos (show out.length < 8796093022208 by omega)]
    by_cases c : s.f1 ≤ maxE (o.take k)
    · rw [if_pos c, if_pos (decide_eq_true c)]
    · rw [if_neg c, if_neg (by simpa using c)]
  induction d with
  | zero =>
    intro k hk hd h1
    have hke : k = o.length := by omega
    refine Ev.step (fun n => ?_) (fin k hk h1 (fun h => by omega))
    simp only [interval_Within.l1]
    rw [if_neg (by omega)]
  | succ d ih =>
    intro k hk hd h1
    have hlt : k < o.length := by omega
    by_cases c : o[k].f0 ≤ s.f0
    · have h2 : ∀ t ∈ o.take (k + 1), t.f0 ≤ s.f0 := by
        intro t ht
        rw [take_succ_at o k hlt, List.mem_append] at ht
        rcases ht with ht | ht
        · exact h1 t ht
        · rw [List.mem_singleton] at ht; subst ht; exact c
      have := ih (k + 1) (by omega) (by omega) h2
      rw [take_succ_at o k hlt, maxE_snoc] at this
      refine Ev.step (fun n => ?_) this
      simp only [interval_Within.l1]
      rw [if_pos (by omega), if_pos (by omega), rd_at o k hlt, if_pos c, wrap_succ (by omega)]
    · refine Ev.step (fun n => ?_) (fin k hk h1 (fun _ => by omega))
      simp only [interval_Within.l1]
      rw [if_pos (by omega), if_pos (by omega), rd_at o k hlt, if_neg c]

theorem within_l0 (o m : List S23) (ho : Asc o) (hol : o.length ≤ 4096) (hm : Asc m) (hml : m.length ≤ 4096) (hv : ∀ s ∈ m, Vld s) (d : Nat) :
    ∀ (i k : Nat) (out : List S23), i ≤ m.length → m.length - i = d → k ≤ o.length → out.length ≤ i → (∀ t ∈ o.take k, ∀ s ∈ m.drop i, t.f0 ≤ s.f0) → Ev (fun n => interval_Within.l0 n out o (k : Int) (maxE (o.take k)) m (m.length : Int) (i : Int)) (out ++ (m.drop i).filter (inB o), 0) := by
  induction d with
  | zero =>
    intro i k out hi hd hk hout h1
    have e : m.drop i = [] := List.drop_eq_nil_of_le (by omega)
    rw [e, List.filter_nil, List.append_nil]
    refine Ev.step (f := fun _ => some (out, 0)) (fun n => ?_) (Ev.now _)
    simp only [interval_Within.l0]
    rw [if_neg (by omega)]
  | succ d ih =>
    intro i k out hi hd hk hout h1
    have hlt : i < m.length := by omega
    have em := drop_at m i hlt
    rw [em] at h1
    refine Ev.step (f := fun n => interval_Within.l1 n out o (k : Int) (maxE (o.take k)) m (m.length : Int) (i : Int) m[i].f0 m[i].f1) (fun n => ?_) ?_
    · simp only [interval_Within.l0]
      rw [if_pos (by omega), if_pos (by omega), if_pos (by omega), rd_at m i hlt]
    · refine within_l1 o m ho hol out i m[i] (hv _ (List.getElem_mem hlt)) (by omega) _ (by omega) (fun k' hk' h2 => ?_) _ k hk rfl (fun t ht => h1 t ht _ List.mem_cons_self)
      have h3 : ∀ t ∈ o.take k', ∀ s ∈ m.drop (i + 1), t.f0 ≤ s.f0 := fun t ht s hs => Int.le_trans (h2 t ht) (lt23_le (asc_drop hm hlt hs))
      rw [em, List.filter_cons]
      by_cases c : inB o m[i] = true
      · rw [if_pos c, if_pos c]
        have := ih (i + 1) k' (out ++ [m[i]]) (by omega) (by omega) hk' (by simp; omega) h3
        rwa [List.append_assoc, List.singleton_append] at this
      · rw [if_neg c, if_neg c]
        exact ih (i + 1) k' out (by omega) (by omega) hk' (by omega) h3

theorem chk2 {a b : List S23} (h : chk [a, b] = 0) : a.length ≤ 4096 ∧ b.length ≤ 4096 ∧ (∀ x ∈ a, Vld x) ∧ (∀ x ∈ b, Vld x) := by
  have h1 := chk_len h
  have h2 := chk_len h1.2.2
  exact ⟨h1.1, h2.1, h1.2.1, h2.2.1⟩

theorem Within_ev (a b : List S23) : Ev (fun k => interval_Within.f k a b) (res ((nrm a).filter (inB (nrm b))) (chk [a, b])) := by
  unfold interval_Within.f res
  refine Ev.bind (check_ev [a, b] (by simp)) ?_
  by_cases h : chk [a, b] = 0
  · rw [if_pos h]
    obtain ⟨la, lb, va, vb⟩ := chk2 h
    refine Ev.congr (fun k => by rw [if_pos h]) ?_
    refine Ev.bind (normal_ev b lb) ?_
    refine Ev.bind (normal_ev a la) ?_
    have na := length_nrm a
    have nb := length_nrm b
    exact within_l0 (nrm b) (nrm a) (asc_nrm b) (by omega) (asc_nrm a) (by omega) (fun s hs => va s ((mem_nrm a s).1 hs)) _ 0 0 [] (Nat.zero_le _) rfl (Nat.zero_le _) (by simp) (by simp)
  · rw [if_neg h]
    exact Ev.congr (f := fun k => some ([], chk [a, b])) (fun k => by rw [if_neg h]) (Ev.now _)
theorem len_res (a b : List S23) (p : S23 → Bool) : (res ((nrm a).filter p) (chk [a, b])).1.length ≤ 1000000 := res_len fun h => by
  have := length_nrm a; have := (chk2 h).1; have := List.length_filter_le p (nrm a); omega
end Go.Proofs.Ytbecgpjdeophmaa.Q
