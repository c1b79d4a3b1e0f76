import Derived.Test.YtbecgpjdeophmaaLj
import Derived.Test.YtbecgpjdeophmaaQ7
namespace Go.Proofs.Ytbecgpjdeophmaa.Q
set_option linter.unusedVariables false
open Go.RowKit Go.Proofs.YtbecgpjdeophmaaW Go.Proofs.YtbecgpjdeophmaaW.PrintWords Go.Proofs.YtbecgpjdeophmaaW.PrintMore

def stp (at_ : Int) (t : S23) : Int := if t.f0 ≤ at_ ∧ at_ < t.f1 then t.f1 else at_
def rnd (l : List S23) (at_ : Int) : Int := l.foldl stp at_
def itr (l : List S23) : Nat → Int → Int
  | 0, at_ => at_
  | n + 1, at_ => itr l n (rnd l at_)

theorem stp_ge (a : Int) (t : S23) : a ≤ stp a t := by unfold stp; split <;> omega
theorem rnd_ge (l : List S23) : ∀ a, a ≤ rnd l a := by
  induction l with
  | nil => intro a; exact Int.le_refl _
  | cons t r ih => intro a; exact Int.le_trans (stp_ge a t) (ih _)
theorem rnd_gt (l : List S23) : ∀ a, (∃ t ∈ l, t.f0 ≤ a ∧ a < t.f1) → a < rnd l a := by
  induction l with
  | nil => intro a h; obtain ⟨t, ht, _⟩ := h; simp at ht
  | cons t r ih =>
    intro a h
    show a < rnd r (stp a t)
    have h1 := stp_ge a t
    have h2 := rnd_ge r (stp a t)
    by_cases c : a < stp a t
    · omega
    · have e : stp a t = a := by omega
      rw [e]
      obtain ⟨u, hu, h3, h4⟩ := h
      rcases List.mem_cons.1 hu with hu | hu
      · subst hu
        exfalso
        unfold stp at e
        rw [if_pos ⟨h3, h4⟩] at e; omega
      · exact ih a ⟨u, hu, h3, h4⟩
theorem rnd_of (l : List S23) : ∀ a, rnd l a = a ∨ ∃ t ∈ l, rnd l a = t.f1 := by
  induction l with
  | nil => intro a; exact .inl rfl
  | cons t r ih =>
    intro a
    have e : rnd (t :: r) a = rnd r (stp a t) := rfl
    rcases ih (stp a t) with h | ⟨u, hu, h⟩
    · rw [e, h]
      unfold stp
      split
      · exact .inr ⟨t, List.mem_cons_self, rfl⟩
      · exact .inl rfl
    · exact .inr ⟨u, List.mem_cons_of_mem _ hu, by rw [e, h]⟩
theorem rnd_le (l : List S23) (b : Int) (hb : ∀ t ∈ l, t.f0 ≤ b → t.f1 ≤ b) : ∀ a, a ≤ b → rnd l a ≤ b := by
  induction l with
  | nil => intro a h; exact h
  | cons t r ih =>
    intro a h
    refine ih (fun u hu => hb u (List.mem_cons_of_mem _ hu)) (stp a t) ?_
    unfold stp
    split
    · rename_i k; exact hb t List.mem_cons_self (by omega)
    · exact h

def cnt (l : List S23) (a : Int) : Nat := l.countP fun t => decide (a < t.f1)
theorem cnt_le (l : List S23) {a b : Int} (h : a ≤ b) : cnt l b ≤ cnt l a := by
  unfold cnt
  refine List.countP_mono_left fun x _ hx => ?_
  have := of_decide_eq_true hx
  exact decide_eq_true (by omega)
theorem cnt_lt (l : List S23) {a b : Int} (h : a ≤ b) : (∃ t ∈ l, a < t.f1 ∧ t.f1 ≤ b) → cnt l b < cnt l a := by
  induction l with
  | nil => rintro ⟨t, ht, _⟩; simp at ht
  | cons x r ih =>
    rintro ⟨t, ht, h1, h2⟩
    have hle := cnt_le r h
    unfold cnt at *
    rw [List.countP_cons, List.countP_cons]
    rcases List.mem_cons.1 ht with ht | ht
    · subst ht
      rw [if_neg (by simpa using h2), if_pos (decide_eq_true h1)]
      omega
    · have := ih ⟨t, ht, h1, h2⟩
      by_cases c : b < x.f1
      · rw [if_pos (decide_eq_true c), if_pos (decide_eq_true (show a < x.f1 by omega))]; omega
      · rw [if_neg (by simpa using c)]
        split <;> omega

theorem itr_fix (l : List S23) (p1 : Int) (hb : ∀ t ∈ l, t.f0 ≤ p1 → t.f1 ≤ p1) : ∀ n, itr l n p1 = p1 := by
  intro n
  induction n with
  | zero => rfl
  | succ n ih =>
    have e : rnd l p1 = p1 := Int.le_antisymm (rnd_le l p1 hb p1 (Int.le_refl _)) (rnd_ge l p1)
    show itr l n (rnd l p1) = p1
    rw [e]; exact ih
theorem itr_end (l : List S23) (p0 p1 : Int) (hb : ∀ t ∈ l, t.f0 ≤ p1 → t.f1 ≤ p1) (hc : ∀ x, p0 ≤ x → x < p1 → ∃ t ∈ l, t.f0 ≤ x ∧ x < t.f1) : ∀ (n : Nat) (a : Int), p0 ≤ a → a ≤ p1 → cnt l a ≤ n → itr l n a = p1 := by
  intro n
  induction n with
  | zero =>
    intro a h0 h1 h2
    show a = p1
    by_cases c : a < p1
    · exfalso
      obtain ⟨t, ht, _, h4⟩ := hc a h0 c
      have : cnt l t.f1 < cnt l a := cnt_lt l (by omega) ⟨t, ht, h4, Int.le_refl _⟩
      omega
    · omega
  | succ n ih =>
    intro a h0 h1 h2
    show itr l n (rnd l a) = p1
    have hg := rnd_ge l a
    have hl := rnd_le l p1 hb a h1
    by_cases c : a < p1
    · have hgt := rnd_gt l a (hc a h0 c)
      refine ih _ (by omega) hl ?_
      rcases rnd_of l a with h | ⟨t, ht, h⟩
      · omega
      · have : cnt l (rnd l a) < cnt l a := cnt_lt l hg ⟨t, ht, by omega, by omega⟩
        omega
    · have e : a = p1 := by omega
      rw [e]; exact itr_fix l p1 hb (n + 1)

theorem cov_bound {m : List S23} (ha : Asc m) (hv : ∀ s ∈ m, Vld s) {p : S23} (hp : p ∈ cov m) : (∀ t ∈ m, t.f0 ≤ p.f1 → t.f1 ≤ p.f1) ∧ ∀ x, p.f0 ≤ x → x < p.f1 → ∃ t ∈ m, t.f0 ≤ x ∧ x < t.f1 := by
  obtain ⟨h1, h2, h3⟩ := cov_facts ha hv
  refine ⟨fun t ht h => ?_, fun x hx hy => ?_⟩
  · refine Int.le_of_not_gt fun hlt => ?_
    obtain ⟨q, hq, h4, h5⟩ := (h3 p.f1).2 ⟨t, ht, h, hlt⟩
    have vp := h2 p hp
    unfold Vld at vp
    have key : ∀ l : List S23, Apart l → p ∈ l → q ∈ l → p = q ∨ p.f1 < q.f0 ∨ q.f1 < p.f0 := by
      intro l
      induction l with
      | nil => intro _ h; simp at h
      | cons z r ih =>
        intro hz hp' hq'
        obtain ⟨hz1, hz2⟩ := List.pairwise_cons.1 hz
        rcases List.mem_cons.1 hp' with e1 | hp2
        · rcases List.mem_cons.1 hq' with e2 | hq2
          · exact .inl (e1.trans e2.symm)
          · exact .inr (.inl (e1 ▸ hz1 q hq2))
        · rcases List.mem_cons.1 hq' with e2 | hq2
          · exact .inr (.inr (e2 ▸ hz1 p hp2))
          · exact ih hz2 hp2 hq2
    rcases key _ h1 hp hq with rfl | h | h
    · omega
    · omega
    · omega
  · obtain ⟨t, ht, h⟩ := (h3 x).1 ⟨p, hp, hx, hy⟩
    exact ⟨t, ht, h⟩

theorem cov_in {m : List S23} (ha : Asc m) (hv : ∀ s ∈ m, Vld s) {t : S23} (ht : t ∈ m) : inB (cov m) t = true := by
  obtain ⟨h1, h2, h3⟩ := cov_facts ha hv
  have vt := hv t ht
  unfold Vld at vt
  obtain ⟨q, hq, h4, h5⟩ := (h3 t.f0).2 ⟨t, ht, Int.le_refl _, vt.2⟩
  exact List.any_eq_true.2 ⟨q, hq, decide_eq_true ⟨h4, (cov_bound ha hv hq).1 t ht (by omega)⟩⟩

/-! ### the loops -/
theorem covers_l2 (l c x26 : List S23) (i n : Nat) (hl : l.length ≤ 60) (s : S23) (R : Bool) (h2 : (n : Int) < 100) (d : Nat) : ∀ (j : Nat) (a b : Int), j ≤ l.length → l.length - j = d → (l.drop j).foldl stp a = b →
    Ev (fun k => corporalaw11_IntervalCovers.l1 k l c b x26 (x26.length : Int) (i : Int) (l.length : Int) ((n + 1 : Nat) : Int) s.f0 s.f1) R →
    Ev (fun k => corporalaw11_IntervalCovers.l2 k l c a x26 (x26.length : Int) (i : Int) (l.length : Int) (n : Int) l (l.length : Int) (j : Int) s.f0 s.f1) R := by
  induction d with
  | zero =>
    intro j a b hj hd he hr
    have e : l.drop j = [] := List.drop_eq_nil_of_le (by omega)
    rw [e] at he
    have he : a = b := he
    subst he
    refine Ev.step (fun k => ?_) hr
    simp only [corporalaw11_IntervalCovers.l2]
    rw [if_neg (by omega), wrap_succ (by omega)]
  | succ d ih =>
    intro j a b hj hd he hr
    have hlt : j < l.length := by omega
    rw [drop_at l j hlt, List.foldl_cons] at he
    refine Ev.step (fun k => ?_) (ih (j + 1) (stp a l[j]) b (by omega) (by omega) he hr)
    simp only [corporalaw11_IntervalCovers.l2]
    rw [if_pos (by omega), if_pos (by omega), if_pos (by omega), rd_at l j hlt, wrap_succ (by omega)]
    unfold stp
    by_cases h1 : l[j].f0 ≤ a
    · by_cases h3 : a < l[j].f1
      · rw [if_pos h1, if_pos h3, if_pos ⟨h1, h3⟩]
      · rw [if_pos h1, if_neg h3, if_neg (fun h => h3 h.2)]
    · rw [if_neg h1, if_neg (fun h => h1 h.1)]

theorem covers_l1 (l c x26 : List S23) (i : Nat) (hi : (i : Int) < 5000) (hl : l.length ≤ 60) (s : S23) (R : Bool) (hr : Ev (fun k => corporalaw11_IntervalCovers.l0 k l c x26 (x26.length : Int) ((i + 1 : Nat) : Int)) R) (d : Nat) :
    ∀ (n : Nat) (a : Int), n ≤ l.length → l.length - n = d → itr l d a = s.f1 → Ev (fun k => corporalaw11_IntervalCovers.l1 k l c a x26 (x26.length : Int) (i : Int) (l.length : Int) (n : Int) s.f0 s.f1) R := by
  induction d with
  | zero =>
    intro n a hn hd he
    have he : a = s.f1 := he
    refine Ev.step (fun k => ?_) hr
    simp only [corporalaw11_IntervalCovers.l1]
    rw [if_neg (by omega), if_pos he, wrap_succ (by omega)]
  | succ d ih =>
    intro n a hn hd he
    refine Ev.step (f := fun k => corporalaw11_IntervalCovers.l2 k l c a x26 (x26.length : Int) (i : Int) (l.length : Int) (n : Int) l (l.length : Int) ((0 : Nat) : Int) s.f0 s.f1) (fun k => ?_) ?_
    · simp only [corporalaw11_IntervalCovers.l1]
      rw [if_pos (by omega)]
      rfl
    · exact covers_l2 l c x26 i n hl s R (by omega) _ 0 a (rnd l a) (Nat.zero_le _) rfl rfl (ih (n + 1) (rnd l a) (by omega) (by omega) he)

theorem covers_l0 (l c : List S23) (hl : l.length ≤ 60) (hc : c.length ≤ 60) (hap : Apart c) (hv : ∀ p ∈ c, Vld p) (hb : ∀ p ∈ c, itr l l.length p.f0 = p.f1) (R : Bool)
    (hr : Ev (fun k => (interval_Within.f k l c).bind fun bt218 => ((interval_Normalize.f k l).bind fun bt222 => (if bt218.2 = 0 then (if bt222.2 = 0 then ((corporaref11_Same.f k bt218.1 bt222.1).bind fun t226 => (if t226 = true then ((corporalaw11_awake.f k).bind fun t227 => (some t227)) else (some false))) else (some false)) else (some false)))) R) (d : Nat) :
    ∀ i : Nat, i ≤ c.length → c.length - i = d → Ev (fun k => corporalaw11_IntervalCovers.l0 k l c c (c.length : Int) (i : Int)) R := by
  induction d with
  | zero =>
    intro i hi hd
    refine Ev.step (fun k => ?_) hr
    simp only [corporalaw11_IntervalCovers.l0]
    rw [if_neg (by omega)]
  | succ d ih =>
    intro i hi hd
    have hlt : i < c.length := by omega
    have vp := hv _ (List.getElem_mem hlt)
    unfold Vld at vp
    have hj : Ev (fun k => corporalaw11_IntervalCovers.j2 k l c c (c.length : Int) (i : Int) false c[i].f0 c[i].f1) R := by
      refine Ev.step (f := fun k => corporalaw11_IntervalCovers.l1 k l c c[i].f0 c (c.length : Int) (i : Int) (l.length : Int) ((0 : Nat) : Int) c[i].f0 c[i].f1) (fun k => ?_) ?_
      · simp only [corporalaw11_IntervalCovers.j2]
        rw [if_neg (by simp)]
        rfl
      · exact covers_l1 l c c i (by omega) hl c[i] R (ih (i + 1) (by omega) (by omega)) _ 0 c[i].f0 (Nat.zero_le _) rfl (hb _ (List.getElem_mem hlt))
    refine Ev.step (fun k => ?_) hj
    simp only [corporalaw11_IntervalCovers.l0]
    rw [if_pos (by omega), if_pos (by omega), if_pos (by omega), rd_at c i hlt, if_neg (by omega), if_neg (by omega)]
    by_cases h0 : (i : Int) > 0
    · have hi1 : i - 1 < c.length := by omega
      have ew : wrap64 ((i : Int) - 1) = ((i - 1 : Nat) : Int) := by unfold wrap64; omega
      have hp : c[i - 1].f1 < c[i].f0 := by
        refine apart_drop hap hi1 ?_
        rw [show i - 1 + 1 = i by omega, drop_at c i hlt]
        exact List.mem_cons_self
      rw [if_pos h0, ew, if_pos (by omega), if_pos (by omega), rd_at c (i - 1) hi1, decide_eq_false (by omega)]
    · rw [if_neg h0]

theorem covers_ev (l : List S23) : Ev (fun k => corporalaw11_IntervalCovers.f k l) true := by
  have hj : ∀ c, Ev (fun k => corporalaw11_IntervalCovers.j0 k l c true) true := fun c =>
    Ev.step (f := fun _ => some true) (fun k => by simp only [corporalaw11_IntervalCovers.j0]; rw [if_pos trivial]) (Ev.now _)
  unfold corporalaw11_IntervalCovers.f
  refine Ev.bind (Cover_ev l) ?_
  refine Ev.bind (long_ev [l] (by simp)) ?_
  rw [long1]
  by_cases hl : 60 < l.length
  · rw [decide_eq_true hl]
    exact Ev.congr (fun k => by rw [if_pos rfl]) (hj _)
  · rw [decide_eq_false hl]
    refine Ev.congr (fun k => by rw [if_neg (show ¬ (false = true) by simp)]) ?_
    by_cases h : chk [l] = 0
    · rw [if_pos h]
      have hv := (chk_len h).2.1
      have nl := length_nrm l
      have nc := length_cov (nrm l)
      have hv' : ∀ s ∈ nrm l, Vld s := fun s hs => hv s ((mem_nrm l s).1 hs)
      obtain ⟨h1, h2, h3⟩ := cov_facts (asc_nrm l) hv'
      have hcB : ∀ p ∈ cov (nrm l), itr l l.length p.f0 = p.f1 := by
        intro p hp
        obtain ⟨b1, b2⟩ := cov_bound (asc_nrm l) hv' hp
        have vp := h2 p hp
        unfold Vld at vp
        refine itr_end l p.f0 p.f1 (fun t ht => b1 t ((mem_nrm l t).2 ht)) (fun x hx hy => ?_) l.length p.f0 (Int.le_refl _) (by omega) (List.countP_le_length ..)
        obtain ⟨t, ht, h⟩ := b2 x hx hy
        exact ⟨t, (mem_nrm l t).1 ht, h⟩
      have hck : chk [l, cov (nrm l)] = 0 := by
        have e1 : l.all vldB = true := List.all_eq_true.2 fun x hx => decide_eq_true (hv x hx)
        have e2 : (cov (nrm l)).all vldB = true := List.all_eq_true.2 fun x hx => decide_eq_true (h2 x hx)
        rw [chk, if_neg (by omega), if_pos e1, chk, if_neg (by omega), if_pos e2, chk]
      have hW := Within_ev l (cov (nrm l))
      have hN := Normalize_ev l
      have ef : (nrm l).filter (inB (nrm (cov (nrm l)))) = nrm l := by
        refine List.filter_eq_self.2 fun s hs => ?_
        have e : inB (nrm (cov (nrm l))) s = inB (cov (nrm l)) s := by
          unfold inB
          rw [Bool.eq_iff_iff, List.any_eq_true, List.any_eq_true]
          simp only [mem_nrm]
        rw [e]; exact cov_in (asc_nrm l) hv' hs
      unfold res at hW
      rw [if_pos hck, ef] at hW
      rw [if_pos h] at hN
      refine Ev.congr (f := fun k => corporalaw11_IntervalCovers.j0 k l (cov (nrm l)) false) (fun k => rfl) ?_
      refine Ev.step (f := fun k => corporalaw11_IntervalCovers.l0 k l (cov (nrm l)) (cov (nrm l)) ((cov (nrm l)).length : Int) ((0 : Nat) : Int)) (fun k => by simp only [corporalaw11_IntervalCovers.j0]; rw [if_neg (by simp)]; rfl) ?_
      refine covers_l0 l (cov (nrm l)) (by omega) (by omega) h1 h2 hcB true ?_ _ 0 (Nat.zero_le _) rfl
      refine Ev.bind hW ?_
      refine Ev.bind hN ?_
      refine Ev.congr (fun k => by rw [if_pos rfl, if_pos rfl]) ?_
      refine Ev.bind (Same_ev (nrm l) (by omega)) ?_
      refine Ev.congr (fun k => by rw [if_pos rfl]) ?_
      exact Ev.bind awake_ev (Ev.now _)
    · rw [if_neg h]
      refine Ev.congr (f := fun k => corporalaw11_IntervalCovers.j0 k l [] true) (fun k => ?_) (hj _)
      show corporalaw11_IntervalCovers.j0 k l [] (chk [l] != 0) = _
      rw [show (chk [l] != 0) = true from bne_iff_ne.2 h]

theorem covers_walk (W : World) (a : Option Addr) (c : Nat) (l : List S23) (hr : Kd.C k23 W a l.length l) (hc : l.length ≤ c) : Calls Try.prog 7 #[.slice a l.length c] W fun e w' => e = .returned (.bool true) ∧ Below W.heap.size W w' := by
  obtain ⟨k, h⟩ := (covers_ev l).rounds
  exact corporalaw11_IntervalCovers.calls k _ a c l true W (V23 hr hc) h
end Go.Proofs.Ytbecgpjdeophmaa.Q
