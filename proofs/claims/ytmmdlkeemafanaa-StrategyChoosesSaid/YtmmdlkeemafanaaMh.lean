import Derived.Test.YtmmdlkeemafanaaMc
import Derived.Test.YtmmdlkeemafanaaMg
import Derived.Test.YtmmdlkeemafanaaQn
namespace Go.Proofs.Ytmmdlkeemafanaa.Q
open Go.RowKit Go.Proofs.YtmmdlkeemafanaaW Go.Proofs.YtmmdlkeemafanaaW.PrintWords
theorem chosen_l1 (st : Int) (L : List S40) (hA : Asc L) (hL : L.length < 1000) (o : List S40) (ho : o.length < 1000) (i : Nat) (hi : i < L.length) (r : List S40) (d : Nat) :
    ∀ (j : Nat) (kp : Bool), j ≤ L.length → L.length - j = d →
    Ev (fun k => corporaref27_Chosen.l0 k st L (if (kp && (L.drop j).all (good st L[i])) = true ∧ st ≠ 3 then o ++ [L[i]] else o) L (L.length : Int) ((i + 1 : Nat) : Int)) r →
    Ev (fun k => corporaref27_Chosen.l1 k st L o (i : Int) kp L (L.length : Int) (i : Int) L (L.length : Int) (j : Int) L[i].f0 L[i].f1) r := by
  induction d with
  | zero =>
    intro j kp hj hd h
    rw [List.drop_eq_nil_of_le (by omega)] at h
    simp only [List.all_nil, Bool.and_true] at h
    refine Ev.step (fun k => ?_) h
    simp only [corporaref27_Chosen.l1]
    rw [if_neg (by omega), wsucc (by omega)]
    by_cases hk : kp = true
    · rw [if_pos hk]
      by_cases h3 : st = 3
      · rw [if_pos h3, if_neg (by simp [h3])]
      · rw [if_neg h3, if_pos (by omega), if_pos ⟨hk, h3⟩]
    · rw [if_neg hk, if_neg (by simp [hk])]
  | succ d ih =>
    intro j kp hj hd h
    have hlt : j < L.length := by omega
    rw [List.drop_eq_getElem_cons hlt, List.all_cons, ← Bool.and_assoc] at h
    refine Ev.step (fun k => ?_) (ih (j + 1) (kp && good st L[i] L[j]) (by omega) (by omega) h)
    simp only [corporaref27_Chosen.l1, cont_f, Option.bind_some]
    rw [if_pos (by omega), if_pos (by omega), if_pos (by omega), rd40 L j hlt, wsucc (by omega)]
    by_cases e : i = j
    · subst e
      rw [if_pos rfl]
      simp [good]
    · have hne : ¬ L[j] = L[i] := fun h => e (get_inj hA hi hlt h.symm)
      rw [if_neg (by omega)]
      have g1 : contB ⟨L[i].f0, L[i].f1⟩ ⟨L[j].f0, L[j].f1⟩ = contB L[i] L[j] := rfl
      have g2 : contB ⟨L[j].f0, L[j].f1⟩ ⟨L[i].f0, L[i].f1⟩ = contB L[j] L[i] := rfl
      rw [g1, g2]
      by_cases h1 : st = 1
      · have h2 : ¬ st = 2 := by omega
        rw [if_pos h1]
        cases c : contB L[i] L[j] <;> simp [good, hne, h1, c]
      · rw [if_neg h1]
        by_cases h2 : st = 2
        · rw [if_pos h2]
          cases c : contB L[j] L[i] <;> simp [good, hne, h2, c]
        · rw [if_neg h2]
          simp [good, h1, h2]

theorem chosen_l0 (st : Int) (L : List S40) (hA : Asc L) (hL : L.length < 1000) (hst : st ≠ 3) (d : Nat) : ∀ (i : Nat) (o : List S40), i ≤ L.length → L.length - i = d → o.length ≤ i →
    Ev (fun k => corporaref27_Chosen.l0 k st L o L (L.length : Int) (i : Int)) (o ++ (L.drop i).filter (keepS st L)) := by
  induction d with
  | zero =>
    intro i o hi hd ho
    refine ⟨1, fun k hk => ?_⟩
    obtain ⟨k, rfl⟩ : ∃ m, k = m + 1 := ⟨k - 1, by omega⟩
    simp only [corporaref27_Chosen.l0]
    rw [if_neg (by omega), if_neg hst, List.drop_eq_nil_of_le (by omega)]
    simp
  | succ d ih =>
    intro i o hi hd ho
    have hlt : i < L.length := by omega
    rw [List.drop_eq_getElem_cons hlt]
    refine Ev.step (f := fun k => corporaref27_Chosen.l1 k st L o (i : Int) true L (L.length : Int) (i : Int) L (L.length : Int) 0 L[i].f0 L[i].f1) (fun k => ?_) ?_
    · simp only [corporaref27_Chosen.l0]
      rw [if_pos (by omega), if_pos (by omega), if_pos (by omega), rd40 L i hlt]
    · refine chosen_l1 st L hA hL o (by omega) i hlt _ _ 0 true (by omega) rfl ?_
      simp only [List.drop_zero, Bool.true_and]
      have hk : (L.all (good st L[i]) = true ∧ st ≠ 3) ↔ keepS st L L[i] = true := ⟨fun h => h.1, fun h => ⟨h, hst⟩⟩
      by_cases c : keepS st L L[i] = true
      · rw [if_pos (hk.2 c), List.filter_cons_of_pos c]
        have := ih (i + 1) (o ++ [L[i]]) (by omega) (by omega) (by simp; omega)
        simpa only [List.append_assoc, List.singleton_append] using this
      · rw [if_neg (fun h => c (hk.1 h)), List.filter_cons_of_neg c]
        exact ih (i + 1) o (by omega) (by omega) (by omega)

/-! ### traditional: the best span from a place on -/
/-- b is the best of the spans of M from p on. -/
def Best (M : List S40) (p : Int) (b : S40) : Prop := b ∈ M ∧ p ≤ b.f0 ∧ ∀ x ∈ M, p ≤ x.f0 → b.f0 < x.f0 ∨ (b.f0 = x.f0 ∧ x.f1 ≤ b.f1)
def NoBest (M : List S40) (p : Int) : Prop := ∀ x ∈ M, x.f0 < p
/-- What the loop has found. -/
def Found (M : List S40) (p : Int) (b : S40) : Prop := (b.f0 = -1 ∧ NoBest M p) ∨ (b.f0 ≠ -1 ∧ Best M p b)

theorem found_snoc {M : List S40} {p : Int} {b x : S40} (hp : 0 ≤ p) (h : Found M p b) :
    Found (M ++ [x]) p (if p ≤ x.f0 then (if b.f0 = -1 then x else if x.f0 < b.f0 then x else if x.f0 = b.f0 then (if x.f1 > b.f1 then x else b) else b) else b) := by
  have new : p ≤ x.f0 → (∀ y ∈ M, p ≤ y.f0 → x.f0 < y.f0 ∨ (x.f0 = y.f0 ∧ y.f1 ≤ x.f1)) → Found (M ++ [x]) p x := by
    intro h1 h2
    refine .inr ⟨by omega, by simp, h1, fun y hy hpy => ?_⟩
    rcases List.mem_append.1 hy with hy | hy
    · exact h2 y hy hpy
    · obtain rfl : y = x := by simpa using hy
      exact .inr ⟨rfl, Int.le_refl _⟩
  have old : (p ≤ x.f0 → b.f0 ≠ -1 ∧ (b.f0 < x.f0 ∨ (b.f0 = x.f0 ∧ x.f1 ≤ b.f1))) → Found (M ++ [x]) p b := by
    intro h2
    rcases h with ⟨h0, h1⟩ | ⟨h0, h1, h3, h4⟩
    · refine .inl ⟨h0, fun y hy => ?_⟩
      rcases List.mem_append.1 hy with hy | hy
      · exact h1 y hy
      · obtain rfl : y = x := by simpa using hy
        by_cases c : p ≤ y.f0
        · exact absurd h0 (h2 c).1
        · omega
    · refine .inr ⟨h0, List.mem_append_left _ h1, h3, fun y hy hpy => ?_⟩
      rcases List.mem_append.1 hy with hy | hy
      · exact h4 y hy hpy
      · obtain rfl : y = x := by simpa using hy
        exact (h2 hpy).2
  by_cases c : p ≤ x.f0
  · rw [if_pos c]
    by_cases c1 : b.f0 = -1
    · rw [if_pos c1]
      refine new c fun y hy hpy => ?_
      rcases h with ⟨_, h1⟩ | ⟨h0, _⟩
      · have := h1 y hy; omega
      · exact absurd c1 h0
    · rw [if_neg c1]
      rcases h with ⟨h0, _⟩ | ⟨h0, h1, h3, h4⟩
      · exact absurd h0 c1
      by_cases c2 : x.f0 < b.f0
      · rw [if_pos c2]
        exact new c fun y hy hpy => by have := h4 y hy hpy; omega
      · rw [if_neg c2]
        by_cases c3 : x.f0 = b.f0
        · rw [if_pos c3]
          by_cases c4 : x.f1 > b.f1
          · rw [if_pos c4]
            exact new c fun y hy hpy => by have := h4 y hy hpy; omega
          · rw [if_neg c4]
            exact Or.inr ⟨h0, List.mem_append_left _ h1, h3, fun y hy hpy => by
              rcases List.mem_append.1 hy with hy | hy
              · exact h4 y hy hpy
              · obtain rfl : y = x := by simpa using hy
                omega⟩
        · rw [if_neg c3]
          exact Or.inr ⟨h0, List.mem_append_left _ h1, h3, fun y hy hpy => by
            rcases List.mem_append.1 hy with hy | hy
            · exact h4 y hy hpy
            · obtain rfl : y = x := by simpa using hy
              omega⟩
  · rw [if_neg c]
    exact old fun h => absurd h c

theorem best_l3 (L : List S40) (hL : L.length < 1000) (o : List S40) (p : Int) (hp : 0 ≤ p) (r : List S40) (d : Nat) :
    ∀ (j : Nat) (b : S40), j ≤ L.length → L.length - j = d → Found (L.take j) p b →
    (∀ b', Found L p b' → Ev (fun k => if b'.f0 = -1 then some o else (if o.length < 8796093022208 then corporaref27_Chosen.l2 k L (o ++ [b']) b'.f1 else none)) r) →
    Ev (fun k => corporaref27_Chosen.l3 k L o p L (L.length : Int) (j : Int) b.f0 b.f1) r := by
  induction d with
  | zero =>
    intro j b hj hd hF hN
    rw [List.take_of_length_le (by omega)] at hF
    refine Ev.step (fun k => ?_) (hN b hF)
    simp only [corporaref27_Chosen.l3]
    rw [if_neg (by omega)]
  | succ d ih =>
    intro j b hj hd hF hN
    have hlt : j < L.length := by omega
    have hF2 := found_snoc (x := L[j]) hp hF
    rw [List.take_append_getElem hlt] at hF2
    refine Ev.step (fun k => ?_) (ih (j + 1) _ (by omega) (by omega) hF2 hN)
    simp only [corporaref27_Chosen.l3]
    rw [if_pos (by omega), if_pos (by omega), if_pos (by omega), rd40 L j hlt, wsucc (by omega)]
    by_cases c : p ≤ L[j].f0
    · rw [if_pos c, if_pos c]
      by_cases c1 : b.f0 = -1
      · rw [if_pos c1, if_pos c1]
      · rw [if_neg c1, if_neg c1]
        by_cases c2 : L[j].f0 < b.f0
        · rw [if_pos c2, if_pos c2]
        · rw [if_neg c2, if_neg c2]
          by_cases c3 : L[j].f0 = b.f0
          · rw [if_pos c3, if_pos c3]
            by_cases c4 : L[j].f1 > b.f1
            · rw [if_pos c4, if_pos c4]
            · rw [if_neg c4, if_neg c4]
          · rw [if_neg c3, if_neg c3]
    · rw [if_neg c, if_neg c]

theorem best_unique {M : List S40} {p : Int} {a b : S40} (ha : Best M p a) (hb : Best M p b) : a = b := by
  have h1 := ha.2.2 b hb.1 hb.2.1
  have h2 := hb.2.2 a ha.1 ha.2.1
  exact S40_ext (by omega) (by omega)

theorem trad_l2 (L : List S40) (hL : L.length < 1000) (hV : ∀ x ∈ L, Vl x) : ∀ (M pre : List S40) (p : Int) (o : List S40), L = pre ++ M → Asc M → 0 ≤ p → o.length ≤ pre.length →
    (∀ x ∈ pre, x.f0 < p ∨ ∃ y, y ∈ M.head? ∧ y.f0 = x.f0 ∧ x.f1 < y.f1) →
    Ev (fun k => corporaref27_Chosen.l2 k L o p) (o ++ trad M p) := by
  have start : ∀ (o : List S40) (p : Int) (r : List S40), 0 ≤ p → (∀ b', Found L p b' → Ev (fun k => if b'.f0 = -1 then some o else (if o.length < 8796093022208 then corporaref27_Chosen.l2 k L (o ++ [b']) b'.f1 else none)) r) → Ev (fun k => corporaref27_Chosen.l2 k L o p) r := by
    intro o p r hp h
    refine Ev.step (f := fun k => corporaref27_Chosen.l3 k L o p L (L.length : Int) ((0 : Nat) : Int) (⟨-1, 0⟩ : S40).f0 (⟨-1, 0⟩ : S40).f1) (fun k => rfl) ?_
    exact best_l3 L hL o p hp r _ 0 ⟨-1, 0⟩ (by omega) rfl (.inl ⟨rfl, fun x hx => by simp at hx⟩) h
  have done_ : ∀ (o : List S40) (p : Int), 0 ≤ p → NoBest L p → Ev (fun k => corporaref27_Chosen.l2 k L o p) o := by
    intro o p hp hn
    refine start o p o hp fun b hb => ?_
    rcases hb with ⟨h0, _⟩ | ⟨_, h1, h2, _⟩
    · exact Ev.congr (fun k => if_pos h0) (Ev.now _)
    · have := hn b h1; omega
  have one : ∀ (o : List S40) (p : Int) (s : S40) (r : List S40), 0 ≤ p → o.length < 1000 → Best L p s → Ev (fun k => corporaref27_Chosen.l2 k L (o ++ [s]) s.f1) r → Ev (fun k => corporaref27_Chosen.l2 k L o p) r := by
    intro o p s r hp ho hs hr
    refine start o p r hp fun b hb => ?_
    rcases hb with ⟨_, h1⟩ | ⟨h0, h1⟩
    · have := h1 s hs.1; have := hs.2.1; omega
    · obtain rfl := best_unique h1 hs
      refine Ev.congr (fun k => by rw [if_neg h0, if_pos (by omega)]) hr
  intro M
  induction M with
  | nil =>
    intro pre p o hLe hM hp ho hpre
    rw [trad, List.append_nil]
    refine done_ o p hp fun x hx => ?_
    rw [hLe, List.append_nil] at hx
    rcases hpre x hx with h | ⟨y, hy, _⟩
    · exact h
    · simp at hy
  | cons s t ih =>
    intro pre p o hLe hM hp ho hpre
    have hM' := List.pairwise_cons.1 hM
    have hlen : pre.length + (t.length + 1) = L.length := by rw [hLe]; simp
    have hsV : Vl s := hV s (by rw [hLe]; simp)
    have move : L = (pre ++ [s]) ++ t := by rw [hLe]; simp
    have hmem : ∀ x, x ∈ L → x ∈ pre ∨ x = s ∨ x ∈ t := by
      intro x hx; rw [hLe] at hx; simpa using hx
    have htge : ∀ x ∈ t, s.f0 ≤ x.f0 := by
      intro x hx; have := hM'.1 x hx; unfold lt40 at this; omega
    -- s is taken where the next one begins elsewhere
    have take_ : ¬ s.f0 < p → (∀ y, y ∈ t.head? → y.f0 ≠ s.f0) → Best L p s := by
      intro c hy
      have hgt : ∀ x ∈ t, s.f0 < x.f0 := by
        intro x hx
        cases t with
        | nil => simp at hx
        | cons y u =>
          have h1 := hM'.1 y (by simp)
          have h2 := hy y (by simp)
          have h3 : y.f0 ≤ x.f0 := by
            rcases List.mem_cons.1 hx with rfl | hx
            · exact Int.le_refl _
            · have := (List.pairwise_cons.1 hM'.2).1 x hx; unfold lt40 at this; omega
          unfold lt40 at h1
          omega
      refine ⟨by rw [hLe]; simp, by omega, fun x hx hpx => ?_⟩
      rcases hmem x hx with hx | rfl | hx
      · rcases hpre x hx with h | ⟨y, hy, h1, h2⟩
        · omega
        · obtain rfl : s = y := by simpa using hy
          right; constructor <;> omega
      · right; constructor <;> omega
      · left; exact hgt x hx
    have hpre3 : ¬ s.f0 < p → ∀ x ∈ pre ++ [s], x.f0 < s.f1 ∨ ∃ y, y ∈ t.head? ∧ y.f0 = x.f0 ∧ x.f1 < y.f1 := by
      intro c x hx
      left
      have hs2 := hsV.2
      rcases List.mem_append.1 hx with hx | hx
      · rcases hpre x hx with h | ⟨y, hy, h1, _⟩
        · omega
        · obtain rfl : s = y := by simpa using hy
          omega
      · obtain rfl : x = s := by simpa using hx
        exact hs2
    cases t with
    | nil =>
      by_cases c : s.f0 < p
      · rw [trad, if_pos c, List.append_nil]
        refine done_ o p hp fun x hx => ?_
        rcases hmem x hx with hx | rfl | hx
        · rcases hpre x hx with h | ⟨y, hy, h1, _⟩
          · exact h
          · obtain rfl : s = y := by simpa using hy
            omega
        · exact c
        · simp at hx
      · rw [trad, if_neg c]
        refine one o p s _ hp (by omega) (take_ c (by simp)) ?_
        have := ih (pre ++ [s]) s.f1 (o ++ [s]) move hM'.2 (by have := hsV; unfold Vl at this; omega) (by simp; omega) (hpre3 c)
        simpa [trad] using this
    | cons y u =>
      by_cases c : s.f0 < p
      · rw [trad, if_pos c]
        refine ih (pre ++ [s]) p o move hM'.2 hp (by simp; omega) fun x hx => ?_
        left
        rcases List.mem_append.1 hx with hx | hx
        · rcases hpre x hx with h | ⟨y, hy, h1, _⟩
          · exact h
          · obtain rfl : s = y := by simpa using hy
            omega
        · obtain rfl : x = s := by simpa using hx
          exact c
      · rw [trad, if_neg c]
        by_cases c2 : y.f0 = s.f0
        · rw [if_pos c2]
          have hsy := hM'.1 y (by simp)
          unfold lt40 at hsy
          refine ih (pre ++ [s]) p o move hM'.2 hp (by simp; omega) fun x hx => ?_
          rcases List.mem_append.1 hx with hx | hx
          · rcases hpre x hx with h | ⟨z, hz, h1, h2⟩
            · exact .inl h
            · obtain rfl : s = z := by simpa using hz
              exact .inr ⟨y, by simp, by omega, by omega⟩
          · obtain rfl : x = s := by simpa using hx
            exact .inr ⟨y, by simp, by omega, by omega⟩
        · rw [if_neg c2]
          refine one o p s _ hp (by omega) (take_ c (by intro z hz; have e : y = z := (by simpa using hz); rw [← e]; exact c2)) ?_
          have := ih (pre ++ [s]) s.f1 (o ++ [s]) move hM'.2 (by have := hsV; unfold Vl at this; omega) (by simp; omega) (hpre3 c)
          simpa only [List.append_assoc, List.singleton_append] using this
end Go.Proofs.Ytmmdlkeemafanaa.Q
