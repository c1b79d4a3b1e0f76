import Derived.Test.YtmmdlkeemafanaaMb
import Derived.Test.YtmmdlkeemafanaaTf
namespace Go.Proofs.Ytmmdlkeemafanaa.Q
open Go.RowKit Go.Proofs.YtmmdlkeemafanaaW Go.Proofs.YtmmdlkeemafanaaW.PrintWords

/-! ### the order of matches -/
theorem cL_cases : ∀ a b : List Int, cL a b = -1 ∨ cL a b = 0 ∨ cL a b = 1
  | [], [] => by simp [cL]
  | [], _ :: _ => by simp [cL]
  | _ :: _, [] => by simp [cL]
  | a :: s, b :: t => by
    simp only [cL]
    split
    · exact cL_cases s t
    · split <;> simp
theorem cL_turn : ∀ a b : List Int, cL a b > 0 → cL b a < 0
  | [], [], h => by simp [cL] at h
  | [], _ :: _, h => by simp [cL] at h
  | _ :: _, [], _ => by simp [cL]
  | a :: s, b :: t, h => by
    simp only [cL] at h ⊢
    by_cases e : a = b
    · rw [if_pos e] at h
      rw [if_pos e.symm]
      exact cL_turn s t h
    · rw [if_neg e] at h
      rw [if_neg (fun x => e x.symm)]
      split at h
      · omega
      · rw [if_pos (by omega)]; omega
theorem cL_trans : ∀ a b c : List Int, cL a b < 0 → cL b c < 0 → cL a c < 0
  | [], [], _, h, _ => by simp [cL] at h
  | [], _ :: _, [], _, k => by simp [cL] at k
  | [], _ :: _, _ :: _, _, _ => by simp [cL]
  | _ :: _, [], _, h, _ => by simp [cL] at h
  | _ :: _, _ :: _, [], _, k => by simp [cL] at k
  | a :: s, b :: t, c :: u, h, k => by
    simp only [cL] at h k ⊢
    by_cases e : a = b
    · subst e
      rw [if_pos rfl] at h
      by_cases e2 : a = c
      · subst e2
        rw [if_pos rfl] at k ⊢
        exact cL_trans s t u h k
      · rw [if_neg e2] at k ⊢
        exact k
    · rw [if_neg e] at h
      have h1 : a < b := by
        split at h
        · assumption
        · omega
      by_cases e2 : b = c
      · subst e2
        rw [if_neg e, if_pos h1]; omega
      · rw [if_neg e2] at k
        have h2 : b < c := by
          split at k
          · assumption
          · omega
        rw [if_neg (by omega), if_pos (by omega)]; omega

/-- Strictly ascending matches. -/
def AscM (l : List S38) : Prop := l.Pairwise fun a b => cM a b < 0
def GoodM (m : S38) : Prop := (0 ≤ m.f0 ∧ m.f0 < m.f1) ∧ m.f2.length ≤ 2
theorem GoodM.short {m : S38} (h : GoodM m) : Q.short m := by have := h.2; unfold Q.short; omega

/-- What 'list' makes ends early. -/
def GoodL (m : S38) : Prop := GoodM m ∧ m.f1 ≤ 20
theorem GoodL.short {m : S38} (h : GoodL m) : Q.short m := h.1.short

/-! ### the tape -/
theorem mod_f (a n : Int) (h1 : 1 ≤ n) (h2 : n ≤ 100) : ∃ v, corporamade_Mod.f a n = some v ∧ 0 ≤ v ∧ v < n := by
  unfold corporamade_Mod.f
  rw [if_neg (by omega), if_neg (by omega)]
  have e1 : Int.tmod a n < n := Int.tmod_lt_of_pos a (by omega)
  have e2 : -n < Int.tmod a n := Int.lt_tmod_of_pos a (by omega)
  by_cases c : Int.tmod a n < 0
  · rw [if_pos c]
    refine ⟨_, rfl, ?_, ?_⟩ <;> unfold wrap64 <;> omega
  · rw [if_neg c]
    exact ⟨_, rfl, by omega, e1⟩
theorem next_f (s : List Int) (hs : s.length ≤ 120) (i n : Int) (h0 : 0 ≤ i) (h3 : i ≤ 120) (h1 : 1 ≤ n) (h2 : n ≤ 100) : ∃ v i', corporamade_Tape_Next.f s i n = some (v, i') ∧ 0 ≤ v ∧ v < n ∧ 0 ≤ i' ∧ i' ≤ 120 := by
  unfold corporamade_Tape_Next.f
  by_cases c : i ≥ (s.length : Int)
  · rw [if_pos c]
    exact ⟨0, i, rfl, by omega, by omega, h0, h3⟩
  · have e1 : wrap64 (i + 1) = i + 1 := by unfold wrap64; omega
    have e2 : wrap64 (i + 1 - 1) = i := by unfold wrap64; omega
    obtain ⟨v, hv, h4, h5⟩ := mod_f (rd s i) n h1 h2
    rw [if_neg c, e1, e2, if_pos h0, if_pos (by omega), hv]
    exact ⟨v, i + 1, rfl, h4, h5, by omega, by omega⟩

/-! ### the list -/
section
variable (s : List Int) (hs : s.length ≤ 120)

/-- What the insertion leaves. -/
theorem put_asc {o : List S38} {m : S38} {i : Nat} (hA : AscM o) (h1 : ∀ x ∈ o.take i, cM x m < 0) (h2 : ∀ x ∈ o.drop i, cM m x < 0) : AscM (o.take i ++ m :: o.drop i) := by
  unfold AscM at *
  have hp := hA
  rw [← List.take_append_drop i o, List.pairwise_append] at hp
  rw [List.pairwise_append]
  refine ⟨hp.1, List.pairwise_cons.2 ⟨h2, hp.2.1⟩, fun a ha b hb => ?_⟩
  rcases List.mem_cons.1 hb with rfl | hb
  · exact h1 a ha
  · exact hp.2.2 a ha b hb

theorem list_l2 (lab : Int) (o : List S38) (n i : Int) (m : S38) (hA : AscM o) (hG : ∀ x ∈ o, GoodL x) (hm : GoodL m) (ho : o.length < 900) (P : List S38 → Prop)
    (hP : ∀ o', AscM o' → (∀ x ∈ o', GoodL x) → o'.length ≤ o.length + 1 → ∃ r, P r ∧ Ev (fun k => corporalaw27_list.l0 k lab o' (wrap64 (n - 1)) s i) r) : ∀ q : Nat, q ≤ o.length → (∀ x ∈ o.drop q, cM m x < 0) →
    ∃ r, P r ∧ Ev (fun k => corporalaw27_list.l2 k lab o n (q : Int) s i m.f0 m.f1 m.f2) r := by
  have hmS : short m := hm.short
  have fin : ∀ q : Nat, q ≤ o.length → ∀ k, (if (0 : Int) ≤ (q : Int) then (if (q : Int) ≤ (o.length : Int) then (if ([] : List S38).length + (o.take (q : Int).toNat).length < 3518437208883 then (if (([] : List S38) ++ o.take (q : Int).toNat).length + ([(⟨m.f0, m.f1, m.f2⟩ : S38)] : List S38).length < 3518437208883 then (if (([] : List S38) ++ o.take (q : Int).toNat ++ [(⟨m.f0, m.f1, m.f2⟩ : S38)]).length + (o.drop (q : Int).toNat).length < 3518437208883 then corporalaw27_list.l0 k lab (([] : List S38) ++ o.take (q : Int).toNat ++ [(⟨m.f0, m.f1, m.f2⟩ : S38)] ++ o.drop (q : Int).toNat) (wrap64 (n - 1)) s i else none) else none) else none) else none) else none) = corporalaw27_list.l0 k lab (o.take q ++ m :: o.drop q) (wrap64 (n - 1)) s i := by
    intro q hq k
    rw [if_pos (by omega), if_pos (by omega), if_pos (by simp; omega), if_pos (by simp; omega), if_pos (by simp; omega)]
    simp
  have putP : ∀ q : Nat, q ≤ o.length → (∀ x ∈ o.take q, cM x m < 0) → (∀ x ∈ o.drop q, cM m x < 0) → ∃ r, P r ∧ Ev (fun k => corporalaw27_list.l0 k lab (o.take q ++ m :: o.drop q) (wrap64 (n - 1)) s i) r := by
    intro q hq h1 h2
    refine hP _ (put_asc hA h1 h2) (fun x hx => ?_) (by simp; omega)
    rcases List.mem_append.1 hx with hx | hx
    · exact hG x (List.mem_of_mem_take hx)
    · rcases List.mem_cons.1 hx with rfl | hx
      · exact hm
      · exact hG x (List.mem_of_mem_drop hx)
  intro q
  induction q with
  | zero =>
    intro hq h2
    obtain ⟨r, hr, he⟩ := putP 0 hq (by simp) h2
    refine ⟨r, hr, Ev.step (fun k => ?_) he⟩
    simp only [corporalaw27_list.l2, Option.bind_some]
    rw [if_neg (by omega), if_pos (by omega)]
    exact fin 0 hq k
  | succ q ih =>
    intro hq h2
    have hlt : q < o.length := by omega
    have hw := wpred (j := q) (by omega)
    have hcmp := cM_ref m o[q] hmS (hG _ (List.getElem_mem hlt)).short
    by_cases c1 : cM m o[q] < 0
    · obtain ⟨r, hr, he⟩ := ih (by omega) (fun x hx => by
        rw [List.drop_eq_getElem_cons hlt] at hx
        rcases List.mem_cons.1 hx with rfl | hx
        · exact c1
        · exact h2 x hx)
      obtain ⟨K1, e1⟩ := hcmp
      obtain ⟨K2, e2⟩ := he
      refine ⟨r, hr, K1 + K2 + 1, fun k hk => ?_⟩
      obtain ⟨k, rfl⟩ : ∃ m, k = m + 1 := ⟨k - 1, by omega⟩
      have e3 : corporaref24_Compare.f k m.f0 m.f1 m.f2 o[q].f0 o[q].f1 o[q].f2 = some (cM m o[q]) := e1 k (by omega)
      simp only [corporalaw27_list.l2, hw]
      rw [if_pos (by omega), if_pos (by omega), if_pos (by omega), rd38 o q hlt, e3, Option.bind_some, if_pos c1]
      exact e2 k (by omega)
    · by_cases c2 : cM m o[q] = 0
      · obtain ⟨r, hr, he⟩ := hP o hA hG (by omega)
        obtain ⟨K1, e1⟩ := hcmp
        obtain ⟨K2, e2⟩ := he
        refine ⟨r, hr, K1 + K2 + 1, fun k hk => ?_⟩
        obtain ⟨k, rfl⟩ : ∃ m, k = m + 1 := ⟨k - 1, by omega⟩
        have e3 : corporaref24_Compare.f k m.f0 m.f1 m.f2 o[q].f0 o[q].f1 o[q].f2 = some (cM m o[q]) := e1 k (by omega)
        simp only [corporalaw27_list.l2, hw]
        rw [if_pos (by omega), if_pos (by omega), if_pos (by omega), rd38 o q hlt, e3, Option.bind_some, if_neg c1, if_neg (by omega), Option.bind_some, if_pos c2]
        exact e2 k (by omega)
      · have c3 : cM o[q] m < 0 := cL_turn _ _ (by unfold cM at c1 c2; have := cL_cases (m.f0 :: m.f1 :: m.f2) (o[q].f0 :: o[q].f1 :: o[q].f2); omega)
        obtain ⟨r, hr, he⟩ := putP (q + 1) hq (fun x hx => by
          obtain ⟨j, hj, rfl⟩ := List.mem_iff_getElem.1 hx
          simp only [List.length_take] at hj
          rw [List.getElem_take]
          by_cases hjq : j = q
          · subst hjq; exact c3
          · exact cL_trans _ _ _ (List.pairwise_iff_getElem.1 hA j q (by omega) hlt (by omega)) c3) h2
        obtain ⟨K1, e1⟩ := hcmp
        obtain ⟨K2, e2⟩ := he
        refine ⟨r, hr, K1 + K2 + 1, fun k hk => ?_⟩
        obtain ⟨k, rfl⟩ : ∃ m, k = m + 1 := ⟨k - 1, by omega⟩
        have e3 : corporaref24_Compare.f k m.f0 m.f1 m.f2 o[q].f0 o[q].f1 o[q].f2 = some (cM m o[q]) := e1 k (by omega)
        have e4 := (fin (q + 1) hq k).trans (e2 k (by omega))
        simp only [corporalaw27_list.l2, hw]
        rw [if_pos (by omega), if_pos (by omega), if_pos (by omega), rd38 o q hlt, e3, Option.bind_some, if_neg c1, if_neg (by omega), Option.bind_some, if_neg c2]
        exact e4

include hs in
theorem list_l1 (lab : Int) (o : List S38) (n : Int) (b e : Int) (hb : 0 ≤ b ∧ b < e) (he : e ≤ 20) (hA : AscM o) (hG : ∀ x ∈ o, GoodL x) (ho : o.length < 900) (hlab : 0 ≤ lab ∧ lab ≤ 1) (P : List S38 → Prop)
    (hP : ∀ o' i, 0 ≤ i → i ≤ 120 → AscM o' → (∀ x ∈ o', GoodL x) → o'.length ≤ o.length + 1 → ∃ r, P r ∧ Ev (fun k => corporalaw27_list.l0 k lab o' (wrap64 (n - 1)) s i) r) (d : Nat) :
    ∀ (j : Int) (i : Int) (lb : List Int), 0 ≤ j → lab - j = d → 0 ≤ i → i ≤ 120 → lb.length + d ≤ 2 → ∃ r, P r ∧ Ev (fun k => corporalaw27_list.l1 k lab o n j s i b e lb) r := by
  induction d with
  | zero =>
    intro j i lb hj hd h0 h1 hl
    obtain ⟨r, hr, he⟩ := list_l2 s lab o n i ⟨b, e, lb⟩ hA hG ⟨⟨hb, by simp only; omega⟩, he⟩ ho P (fun o' h3 h4 h5 => hP o' i h0 h1 h3 h4 h5) o.length (by omega) (by simp)
    refine ⟨r, hr, Ev.step (fun k => ?_) he⟩
    simp only [corporalaw27_list.l1]
    rw [if_neg (by omega)]
  | succ d ih =>
    intro j i lb hj hd h0 h1 hl
    obtain ⟨v, i', hn, hv0, hv1, hi0, hi1⟩ := next_f s hs i 5 h0 h1 (by omega) (by omega)
    obtain ⟨r, hr, he⟩ := ih (j + 1) i' (lb ++ [wrap64 (v - 1)]) (by omega) (by omega) hi0 hi1 (by simp; omega)
    refine ⟨r, hr, Ev.step (fun k => ?_) he⟩
    simp only [corporalaw27_list.l1, hn, Option.bind_some]
    rw [if_pos (by omega), if_pos (by simp; omega), show wrap64 (j + 1) = j + 1 by unfold wrap64; omega]

include hs in
theorem list_l0 (lab : Int) (hlab : 0 ≤ lab ∧ lab ≤ 1) (n : Nat) : n ≤ 20 → ∀ (o : List S38) (i : Int), AscM o → (∀ x ∈ o, GoodL x) → o.length + n ≤ 20 → 0 ≤ i → i ≤ 120 →
    ∃ r, (AscM r ∧ (∀ x ∈ r, GoodL x) ∧ r.length ≤ 20) ∧ Ev (fun k => corporalaw27_list.l0 k lab o (n : Int) s i) r := by
  induction n with
  | zero =>
    intro _ o i hA hG ho h0 h1
    refine ⟨o, ⟨hA, hG, by omega⟩, Ev.step (f := fun _ => some o) (fun k => ?_) (Ev.now _)⟩
    simp only [corporalaw27_list.l0]
    rw [if_neg (by omega)]
  | succ n ih =>
    intro hn o i hA hG ho h0 h1
    obtain ⟨v, i1, hn1, hv0, hv1, hi0, hi1⟩ := next_f s hs i 9 h0 h1 (by omega) (by omega)
    obtain ⟨u, i2, hn2, hu0, hu1, hj0, hj1⟩ := next_f s hs i1 5 hi0 hi1 (by omega) (by omega)
    have ew : wrap64 (wrap64 (v + 1) + u) = v + 1 + u := by unfold wrap64; omega
    obtain ⟨r, hr, he⟩ := list_l1 s hs lab o ((n + 1 : Nat) : Int) v (v + 1 + u) (by omega) (by omega) hA hG (by omega) hlab (fun r => AscM r ∧ (∀ x ∈ r, GoodL x) ∧ r.length ≤ 20)
      (fun o' i' h2 h3 h4 h5 h6 => by
        have := ih (by omega) o' i' h4 h5 (by omega) h2 h3
        rwa [wpred (by omega)]) lab.toNat 0 i2 [] (by omega) (by omega) hj0 hj1 (by simp; omega)
    refine ⟨r, hr, Ev.step (fun k => ?_) he⟩
    simp only [corporalaw27_list.l0, hn1, hn2, Option.bind_some]
    rw [if_pos (by omega), ew]
end

/-- What 'list' makes: a short list of valid matches, strictly ascending. -/
theorem list_evL (l : List Int) : ∃ x, (AscM x ∧ (∀ m ∈ x, GoodL m) ∧ x.length ≤ 20) ∧ Ev (fun k => corporalaw27_list.f k l) x := by
  obtain ⟨s, hs, hN⟩ : ∃ s : List Int, s.length ≤ 120 ∧ corporamade_New.f l = some (s, 0) := by
    unfold corporamade_New.f
    by_cases c : (l.length : Int) > 120
    · rw [if_pos c, if_pos (by omega)]
      exact ⟨l.take 120, by simp; omega, rfl⟩
    · rw [if_neg c]
      exact ⟨l, by omega, rfl⟩
  obtain ⟨v, i1, hn1, hv0, hv1, hi0, hi1⟩ := next_f s hs 0 2 (by omega) (by omega) (by omega) (by omega)
  obtain ⟨u, i2, hn2, hu0, hu1, hj0, hj1⟩ := next_f s hs i1 14 hi0 hi1 (by omega) (by omega)
  obtain ⟨r, hr, he⟩ := list_l0 s hs v (by omega) u.toNat (by omega) [] i2 List.Pairwise.nil (by simp) (by simp; omega) hj0 hj1
  refine ⟨r, hr, Ev.congr (fun k => ?_) he⟩
  simp only [corporalaw27_list.f, hN, hn1, hn2, Option.bind_some]
  rw [show ((u.toNat : Nat) : Int) = u by omega]
theorem list_ev (l : List Int) : ∃ x, (AscM x ∧ (∀ m ∈ x, GoodM m) ∧ x.length ≤ 20) ∧ Ev (fun k => corporalaw27_list.f k l) x := by
  obtain ⟨x, ⟨h1, h2, h3⟩, h⟩ := list_evL l
  exact ⟨x, ⟨h1, fun m hm => (h2 m hm).1, h3⟩, h⟩
end Go.Proofs.Ytmmdlkeemafanaa.Q
