import Derived.Test.YtbecgpjdeophmaaLd
import Derived.Test.YtbecgpjdeophmaaLi
import Derived.Test.YtbecgpjdeophmaaLj
import Derived.Test.YtbecgpjdeophmaaQ11
namespace Go.Proofs.Ytbecgpjdeophmaa.Q
set_option linter.unusedVariables false
open Go.RowKit Go.Proofs.YtbecgpjdeophmaaW Go.Proofs.YtbecgpjdeophmaaW.PrintWords Go.Proofs.YtbecgpjdeophmaaW.PrintMore

def hasB (l : List S23) (s : S23) : Bool := l.any fun t => t.f0 == s.f0 && t.f1 == s.f1
theorem hasB_iff (l : List S23) (s : S23) : hasB l s = true ↔ s ∈ l := by
  unfold hasB
  rw [List.any_eq_true]
  constructor
  · rintro ⟨t, ht, h⟩
    rw [Bool.and_eq_true, beq_iff_eq, beq_iff_eq] at h
    rw [← S23_ext h.1 h.2]; exact ht
  · intro h
    exact ⟨s, h, by simp⟩
theorem has_l0 (l : List S23) (hl : l.length ≤ 4096) (s : S23) (d : Nat) : ∀ j : Nat, j ≤ l.length → l.length - j = d → Ev (fun k => corporalaw11_has.l0 k l (l.length : Int) (j : Int) s.f0 s.f1) (hasB (l.drop j) s) := by
  induction d with
  | zero =>
    intro j hj hd
    have e : l.drop j = [] := List.drop_eq_nil_of_le (by omega)
    rw [e]
    refine Ev.step (f := fun _ => some false) (fun k => ?_) (Ev.now _)
    simp only [corporalaw11_has.l0]
    rw [if_neg (by omega)]
  | succ d ih =>
    intro j hj hd
    have hlt : j < l.length := by omega
    have ed : hasB (l.drop j) s = ((l[j].f0 == s.f0 && l[j].f1 == s.f1) || hasB (l.drop (j + 1)) s) := by
      rw [drop_at l j hlt]; rfl
    rw [ed]
    cases hc : (l[j].f0 == s.f0 && l[j].f1 == s.f1) with
    | true =>
      rw [Bool.true_or]
      refine Ev.step (f := fun _ => some true) (fun k => ?_) (Ev.now _)
      simp only [corporalaw11_has.l0]
      rw [if_pos (by omega), if_pos (by omega), if_pos (by omega), rd_at l j hlt, if_pos hc]
    | false =>
      rw [Bool.false_or]
      refine Ev.step (fun k => ?_) (ih (j + 1) (by omega) (by omega))
      simp only [corporalaw11_has.l0]
      rw [if_pos (by omega), if_pos (by omega), if_pos (by omega), rd_at l j hlt, if_neg (by rw [hc]; simp), wrap_succ (by omega)]
theorem has_ev (l : List S23) (hl : l.length ≤ 4096) (s : S23) : Ev (fun k => corporalaw11_has.f k l s.f0 s.f1) (hasB l s) := has_l0 l hl s _ 0 (Nat.zero_le _) rfl

def rel (s t : S23) : Int := relV s.f0 s.f1 t.f0 t.f1
def fX (s t : S23) : Bool := rel s t == 6 || (rel s t == 7 || (rel s t == 9 || rel s t == 10))
def fY (s t : S23) : Bool := rel s t == 4 || (rel s t == 5 || (rel s t == 7 || rel s t == 8))
def fZ (s t : S23) : Bool := decide (3 ≤ rel s t) && decide (rel s t ≤ 11)

theorem rel_facts {s t : S23} (hs : Vld s) (ht : Vld t) : fX s t = decide (t.f0 ≤ s.f0 ∧ s.f1 ≤ t.f1) ∧ fY s t = decide (s.f0 ≤ t.f0 ∧ t.f1 ≤ s.f1) ∧ fZ s t = decide (s.f0 < t.f1 ∧ t.f0 < s.f1) := by
  have e : rel s t = relW s.f0 s.f1 t.f0 t.f1 := by unfold rel relV; rw [if_pos ⟨hs, ht⟩]
  have r := relW_range s.f0 s.f1 t.f0 t.f1
  unfold Vld at hs ht
  obtain ⟨q1, q2, q3, q4, q5, q6, q7, q8, q9, q10, q11, q12, q13⟩ := relW_iff hs.2 ht.2
  unfold fX fY fZ
  rw [e]
  generalize relW s.f0 s.f1 t.f0 t.f1 = n at *
  refine ⟨?_, ?_, ?_⟩
  · rw [Bool.eq_iff_iff, decide_eq_true_iff]
    simp only [Bool.or_eq_true, beq_iff_eq]
    omega
  · rw [Bool.eq_iff_iff, decide_eq_true_iff]
    simp only [Bool.or_eq_true, beq_iff_eq]
    omega
  · rw [Bool.eq_iff_iff, decide_eq_true_iff]
    simp only [Bool.and_eq_true, decide_eq_true_eq]
    omega

theorem allen_l1 (a b P Q T : List S23) (hb : b.length ≤ 12) (hP : P.length ≤ 4096) (hQ : Q.length ≤ 4096) (hT : T.length ≤ 4096) (i : Nat) (hi : (i : Int) < 5000) (s : S23) (R : Bool)
    (hr : Ev (fun k => corporalaw11_IntervalAllen.l0 k a b P Q T a (a.length : Int) ((i + 1 : Nat) : Int)) R) (d : Nat) :
    ∀ (j : Nat) (x y z : Bool), j ≤ b.length → b.length - j = d → (x || (b.drop j).any (fX s)) = hasB P s → (y || (b.drop j).any (fY s)) = hasB Q s → (z || (b.drop j).any (fZ s)) = hasB T s →
    Ev (fun k => corporalaw11_IntervalAllen.l1 k a b P Q T x y z a (a.length : Int) (i : Int) b (b.length : Int) (j : Int) s.f0 s.f1) R := by
  induction d with
  | zero =>
    intro j x y z hj hd hx hy hz
    have e : b.drop j = [] := List.drop_eq_nil_of_le (by omega)
    rw [e, List.any_nil, Bool.or_false] at hx hy hz
    subst hx hy hz
    refine Ev.step (f := fun k => (corporalaw11_has.f k P s.f0 s.f1).bind fun t467 => (if (hasB P s != t467) = true then (some false) else ((corporalaw11_has.f k Q s.f0 s.f1).bind fun t468 => (if (hasB Q s != t468) = true then (some false) else ((corporalaw11_has.f k T s.f0 s.f1).bind fun t469 => (if (hasB T s != t469) = true then (some false) else (corporalaw11_IntervalAllen.l0 k a b P Q T a (a.length : Int) (wrap64 ((i : Int) + 1))))))))) (fun k => ?_) ?_
    · simp only [corporalaw11_IntervalAllen.l1]
      rw [if_neg (by omega)]
    · refine Ev.bind (has_ev P hP s) ?_
      refine Ev.congr (fun k => by rw [bne_self_eq_false, if_neg (by simp)]) ?_
      refine Ev.bind (has_ev Q hQ s) ?_
      refine Ev.congr (fun k => by rw [bne_self_eq_false, if_neg (by simp)]) ?_
      refine Ev.bind (has_ev T hT s) ?_
      exact Ev.congr (fun k => by rw [bne_self_eq_false, if_neg (by simp), wrap_succ (by omega)]) hr
  | succ d ih =>
    intro j x y z hj hd hx hy hz
    have hlt : j < b.length := by omega
    rw [drop_at b j hlt, List.any_cons, ← Bool.or_assoc] at hx hy hz
    have h := ih (j + 1) _ _ _ (by omega) (by omega) hx hy hz
    refine Ev.step (f := fun k => (interval_Relation.f k s.f0 s.f1 b[j].f0 b[j].f1).bind fun t => corporalaw11_IntervalAllen.l1 k a b P Q T (x || (t == 6 || (t == 7 || (t == 9 || t == 10)))) (y || (t == 4 || (t == 5 || (t == 7 || t == 8)))) (z || (decide (3 ≤ t) && decide (t ≤ 11))) a (a.length : Int) (i : Int) b (b.length : Int) ((j + 1 : Nat) : Int) s.f0 s.f1) (fun k => ?_) (Ev.bind (rel_ev s.f0 s.f1 b[j].f0 b[j].f1) h)
    simp only [corporalaw11_IntervalAllen.l1]
    rw [if_pos (by omega), if_pos (by omega), if_pos (by omega), rd_at b j hlt, wrap_succ (by omega)]
    congr 1
    funext t
    exact (allen_eq (fun u v w => corporalaw11_IntervalAllen.l1 k a b P Q T u v w a (a.length : Int) (i : Int) b (b.length : Int) ((j + 1 : Nat) : Int) s.f0 s.f1) x y z t).symm

theorem mem_filt (a : List S23) (p : S23 → Bool) {s : S23} (hs : s ∈ a) : hasB ((nrm a).filter p) s = p s := by
  rw [Bool.eq_iff_iff, hasB_iff, List.mem_filter, mem_nrm]
  exact ⟨fun h => h.2, fun h => ⟨hs, h⟩⟩
theorem any_nrm (b : List S23) (p : S23 → Bool) : (nrm b).any p = b.any p := by
  rw [Bool.eq_iff_iff, List.any_eq_true, List.any_eq_true]
  simp only [mem_nrm]
theorem any_same {b : List S23} {p q : S23 → Bool} (h : ∀ t ∈ b, p t = q t) : b.any p = b.any q := by
  rw [Bool.eq_iff_iff, List.any_eq_true, List.any_eq_true]
  constructor
  · rintro ⟨t, ht, k⟩; exact ⟨t, ht, by rw [← h t ht]; exact k⟩
  · rintro ⟨t, ht, k⟩; exact ⟨t, ht, by rw [h t ht]; exact k⟩

theorem allen_l0 (a b P Q T : List S23) (ha : a.length ≤ 12) (hb : b.length ≤ 12) (hP : P.length ≤ a.length) (hQ : Q.length ≤ a.length) (hT : T.length ≤ a.length)
    (hx : ∀ s ∈ a, b.any (fX s) = hasB P s) (hy : ∀ s ∈ a, b.any (fY s) = hasB Q s) (hz : ∀ s ∈ a, b.any (fZ s) = hasB T s) (d : Nat) :
    ∀ i : Nat, i ≤ a.length → a.length - i = d → Ev (fun k => corporalaw11_IntervalAllen.l0 k a b P Q T a (a.length : Int) (i : Int)) true := by
  induction d with
  | zero =>
    intro i hi hd
    refine Ev.step (f := fun k => (corporalaw11_awake.f k).bind fun t => some t) (fun k => ?_) (Ev.bind awake_ev (Ev.now _))
    simp only [corporalaw11_IntervalAllen.l0]
    rw [if_neg (by omega), if_pos (by omega), if_pos (by omega), if_pos (by omega)]
  | succ d ih =>
    intro i hi hd
    have hlt : i < a.length := by omega
    have hm := List.getElem_mem hlt
    refine Ev.step (f := fun k => corporalaw11_IntervalAllen.l1 k a b P Q T false false false a (a.length : Int) (i : Int) b (b.length : Int) ((0 : Nat) : Int) a[i].f0 a[i].f1) (fun k => ?_) ?_
    · simp only [corporalaw11_IntervalAllen.l0]
      rw [if_pos (by omega), if_pos (by omega), if_pos (by omega), rd_at a i hlt]
      rfl
    · exact allen_l1 a b P Q T hb (by omega) (by omega) (by omega) i (by omega) a[i] true (ih (i + 1) (by omega) (by omega)) _ 0 false false false (Nat.zero_le _) rfl (by rw [Bool.false_or]; exact hx _ hm) (by rw [Bool.false_or]; exact hy _ hm) (by rw [Bool.false_or]; exact hz _ hm)

theorem allen_ev (a b : List S23) (hw : ∀ t ∈ b, Wrd t) : Ev (fun k => corporalaw11_IntervalAllen.f k a b) true := by
  have hj : Ev (fun k => corporalaw11_IntervalAllen.j0 k a b true) true :=
    Ev.step (f := fun _ => some true) (fun k => by simp only [corporalaw11_IntervalAllen.j0]; rw [if_pos trivial]) (Ev.now _)
  unfold corporalaw11_IntervalAllen.f
  by_cases ha : (a.length : Int) > 12
  · exact Ev.congr (fun k => by rw [if_pos ha]) hj
  · refine Ev.congr (fun k => by rw [if_neg ha]) ?_
    by_cases hb : (b.length : Int) > 12
    · exact Ev.congr (fun k => by rw [decide_eq_true hb]) hj
    · refine Ev.congr (fun k => by rw [decide_eq_false hb]) ?_
      refine Ev.step (fun k => by simp only [corporalaw11_IntervalAllen.j0]; rw [if_neg (by simp)]) ?_
      refine Ev.bind (Within_ev a b) ?_
      refine Ev.bind (Containing_ev a b hw) ?_
      refine Ev.bind (Overlapping_ev a b) ?_
      by_cases h : chk [a, b] = 0
      · obtain ⟨la, lb, va, vb⟩ := chk2 h
        have na := length_nrm a
        have f1 := List.length_filter_le (inB (nrm b)) (nrm a)
        have f2 := List.length_filter_le (ovB (nrm b)) (nrm a)
        have f3 := List.length_filter_le (toB (nrm b)) (nrm a)
        unfold res
        rw [if_pos h, if_pos h, if_pos h]
        refine Ev.congr (f := fun k => corporalaw11_IntervalAllen.j1 k a b ((nrm a).filter (inB (nrm b))) 0 ((nrm a).filter (ovB (nrm b))) 0 ((nrm a).filter (toB (nrm b))) 0 false) (fun k => by rw [if_pos rfl, if_pos rfl]; rfl) ?_
        refine Ev.step (f := fun k => corporalaw11_IntervalAllen.l0 k a b ((nrm a).filter (inB (nrm b))) ((nrm a).filter (ovB (nrm b))) ((nrm a).filter (toB (nrm b))) a (a.length : Int) ((0 : Nat) : Int)) (fun k => by simp only [corporalaw11_IntervalAllen.j1]; rw [if_neg (by simp)]; rfl) ?_
        refine allen_l0 a b _ _ _ (by omega) (by omega) (by omega) (by omega) (by omega) (fun s hs => ?_) (fun s hs => ?_) (fun s hs => ?_) _ 0 (Nat.zero_le _) rfl
        · rw [mem_filt a _ hs]; unfold inB; rw [any_nrm]
          exact any_same fun t ht => (rel_facts (va s hs) (vb t ht)).1
        · rw [mem_filt a _ hs]; unfold ovB; rw [any_nrm]
          exact any_same fun t ht => (rel_facts (va s hs) (vb t ht)).2.1
        · rw [mem_filt a _ hs]; unfold toB; rw [any_nrm]
          exact any_same fun t ht => (rel_facts (va s hs) (vb t ht)).2.2
      · unfold res
        rw [if_neg h, if_neg h, if_neg h]
        refine Ev.congr (f := fun k => corporalaw11_IntervalAllen.j1 k a b [] (chk [a, b]) [] (chk [a, b]) [] (chk [a, b]) true) (fun k => by rw [if_neg h]) ?_
        refine Ev.step (f := fun k => (corporalaw11_awake.f k).bind fun t => some t) (fun k => ?_) (Ev.bind awake_ev (Ev.now _))
        simp only [corporalaw11_IntervalAllen.j1]
        rw [if_pos trivial, if_pos trivial, if_pos trivial]

theorem allen_walk (W : World) (a : Option Addr) (c : Nat) (l : List S23) (hr : Kd.C k23 W a l.length l) (hc : l.length ≤ c) (_ : ∀ x ∈ l, Wrd x) (a1 : Option Addr) (c1 : Nat) (l1 : List S23) (hr1 : Kd.C k23 W a1 l1.length l1) (hc1 : l1.length ≤ c1) (hw : ∀ x ∈ l1, Wrd x) :
    Calls Try.prog 10 #[.slice a l.length c, .slice a1 l1.length c1] W fun e w' => e = .returned (.bool true) ∧ Below W.heap.size W w' := by
  obtain ⟨k, h⟩ := (allen_ev l l1 hw).rounds
  exact corporalaw11_IntervalAllen.calls k a c l a1 c1 l1 true W hr hc hr1 hc1 h
end Go.Proofs.Ytbecgpjdeophmaa.Q
