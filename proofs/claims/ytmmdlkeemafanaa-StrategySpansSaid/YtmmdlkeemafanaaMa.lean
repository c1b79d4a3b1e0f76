import Derived.Test.YtmmdlkeemafanaaQa
import Derived.Test.YtmmdlkeemafanaaQc
import Derived.Test.YtmmdlkeemafanaaQm
import Derived.Test.YtmmdlkeemafanaaNn
namespace Go.Proofs.Ytmmdlkeemafanaa.Q
open Go.RowKit Go.Proofs.YtmmdlkeemafanaaW Go.Proofs.YtmmdlkeemafanaaW.PrintWords

/-! ### comparisons -/
theorem wsucc {j : Nat} (h : (j : Int) < 9223372036854775807) : wrap64 ((j : Int) + 1) = ((j + 1 : Nat) : Int) := by unfold wrap64; omega
theorem wpred {j : Nat} (h : ((j + 1 : Nat) : Int) < 9223372036854775807) : wrap64 (((j + 1 : Nat) : Int) - 1) = (j : Int) := by unfold wrap64; omega

def c3 (a b : Int) : Int := if a < b then -1 else if b < a then 1 else 0
theorem c3_f (a b : Int) : cmp_Compare_int.f a b = some (c3 a b) := by
  simp only [cmp_Compare_int.f, cmp_isNaN_int.f, Option.bind_some, c3, bne_self_eq_false, Bool.false_eq_true, if_false]
  by_cases h : a < b
  · simp [h]
  · by_cases h2 : b < a <;> simp [h, h2]
theorem c3_zero {a b : Int} : c3 a b = 0 ↔ a = b := by
  unfold c3
  split
  · constructor <;> intro h <;> omega
  · split <;> constructor <;> intro h <;> omega
theorem or2_f (k : Nat) (a b : Int) : cmp_Or_int.f (k + 3) [a, b] = some (if a = 0 then b else a) := by
  by_cases h : a = 0
  · subst h
    by_cases h2 : b = 0
    · subst h2; simp [cmp_Or_int.f, cmp_Or_int.l0, rd, wrap64]
    · simp [cmp_Or_int.f, cmp_Or_int.l0, rd, wrap64, h2]
  · simp [cmp_Or_int.f, cmp_Or_int.l0, rd, h]
theorem or3_f (k : Nat) (a b c : Int) : cmp_Or_int.f (k + 4) [a, b, c] = some (if a = 0 then (if b = 0 then c else b) else a) := by
  by_cases h : a = 0
  · subst h
    by_cases h2 : b = 0
    · subst h2
      by_cases h3 : c = 0
      · subst h3; simp [cmp_Or_int.f, cmp_Or_int.l0, rd, wrap64]
      · simp [cmp_Or_int.f, cmp_Or_int.l0, rd, wrap64, h3]
    · simp [cmp_Or_int.f, cmp_Or_int.l0, rd, wrap64, h2]
  · simp [cmp_Or_int.f, cmp_Or_int.l0, rd, h]

/-- The order of spans, as a number. -/
def cS (x y : S40) : Int := if c3 x.f0 y.f0 = 0 then c3 x.f1 y.f1 else c3 x.f0 y.f0
theorem cS_f (a b c d : Int) : Ev (fun k => strategy_compare.f k a b c d) (cS ⟨a, b⟩ ⟨c, d⟩) := by
  refine ⟨3, fun k hk => ?_⟩
  obtain ⟨k, rfl⟩ : ∃ m, k = m + 3 := ⟨k - 3, by omega⟩
  simp only [strategy_compare.f, c3_f, Option.bind_some, or2_f]
  rfl
theorem cS_neg {x y : S40} : cS x y < 0 ↔ lt40 x y := by
  unfold cS c3 lt40
  repeat' split
  all_goals omega
theorem cS_zero {x y : S40} : cS x y = 0 ↔ x = y := by
  have : x = y ↔ x.f0 = y.f0 ∧ x.f1 = y.f1 := ⟨fun h => by subst h; simp, fun h => S40_ext h.1 h.2⟩
  rw [this]
  unfold cS c3
  repeat' split
  all_goals omega

/-- Lists, word by word. -/
def cL : List Int → List Int → Int
  | [], [] => 0
  | [], _ :: _ => -1
  | _ :: _, [] => 1
  | a :: s, b :: t => if a = b then cL s t else if a < b then -1 else 1
theorem cL_self : ∀ l : List Int, cL l l = 0
  | [] => rfl
  | a :: s => by simp [cL, cL_self s]
theorem cL_nil (y : List Int) : cL [] y = if (0 : Int) < (y.length : Int) then -1 else 0 := by
  cases y with
  | nil => simp [cL]
  | cons a t => simp only [cL, List.length_cons]; rw [if_pos (by omega)]

theorem rdn (l : List Int) (j : Nat) (h : j < l.length) : rd l (j : Int) = l[j] := by
  show l.getD j 0 = _
  simp [List.getD_eq_getElem?_getD, h]

theorem sc_l0 (x y : List Int) (hx : x.length < 9223372036854775807) (d : Nat) : ∀ i : Nat, i ≤ x.length → x.length - i = d → i ≤ y.length →
    Ev (fun k => slices_Compare_int_int.l0 k x y x (x.length : Int) (i : Int)) (cL (x.drop i) (y.drop i)) := by
  induction d with
  | zero =>
    intro i hi hd hy
    refine ⟨1, fun k hk => ?_⟩
    obtain ⟨k, rfl⟩ : ∃ m, k = m + 1 := ⟨k - 1, by omega⟩
    have e : i = x.length := by omega
    simp only [slices_Compare_int_int.l0]
    rw [if_neg (by omega), List.drop_eq_nil_of_le (by omega), cL_nil]
    simp only [List.length_drop]
    by_cases h : (x.length : Int) < (y.length : Int)
    · rw [if_pos h, if_pos (by omega)]
    · rw [if_neg h, if_neg (by omega)]
  | succ d ih =>
    intro i hi hd hy
    have hlt : i < x.length := by omega
    rw [List.drop_eq_getElem_cons hlt]
    by_cases h : i < y.length
    · rw [List.drop_eq_getElem_cons h]
      by_cases e : x[i] = y[i]
      · refine Ev.step (f := fun k => slices_Compare_int_int.l0 k x y x (x.length : Int) ((i + 1 : Nat) : Int)) (fun k => ?_) ?_
        · simp only [slices_Compare_int_int.l0, c3_f, Option.bind_some]
          rw [if_pos (by omega), if_pos (by omega), if_pos (by omega), if_neg (by omega), if_pos (by omega), rdn x i hlt, rdn y i h, if_pos (c3_zero.2 e), wsucc (by omega)]
        · have := ih (i + 1) (by omega) (by omega) (by omega)
          simpa [cL, e] using this
      · refine ⟨1, fun k hk => ?_⟩
        obtain ⟨k, rfl⟩ : ∃ m, k = m + 1 := ⟨k - 1, by omega⟩
        simp only [slices_Compare_int_int.l0, c3_f, Option.bind_some]
        rw [if_pos (by omega), if_pos (by omega), if_pos (by omega), if_neg (by omega), if_pos (by omega), rdn x i hlt, rdn y i h, if_neg (fun h => e (c3_zero.1 h))]
        simp only [cL, if_neg e, c3]
        congr 1
        split
        · rfl
        · rw [if_pos (by omega)]
    · refine ⟨1, fun k hk => ?_⟩
      obtain ⟨k, rfl⟩ : ∃ m, k = m + 1 := ⟨k - 1, by omega⟩
      rw [List.drop_eq_nil_of_le (show y.length ≤ i by omega)]
      simp only [slices_Compare_int_int.l0]
      rw [if_pos (by omega), if_pos (by omega), if_pos (by omega), if_pos (by omega)]
      rfl

/-- Two matches. -/
def cM (m n : S38) : Int := cL (m.f0 :: m.f1 :: m.f2) (n.f0 :: n.f1 :: n.f2)
theorem cM_self (m : S38) : cM m m = 0 := cL_self _
theorem cM_match (m n : S38) (hm : m.f2.length < 17592186044414) : Ev (fun k => match_Compare.f k m.f0 m.f1 m.f2 n.f0 n.f1 n.f2) (cM m n) := by
  have h := sc_l0 m.f2 n.f2 (by omega) m.f2.length 0 (by omega) (by omega) (by omega)
  simp only [List.drop_zero] at h
  refine Ev.congr (f := fun k => (slices_Compare_int_int.f k m.f2 n.f2).bind fun t144 => (cmp_Or_int.f k [c3 m.f0 n.f0, c3 m.f1 n.f1, t144]).bind fun t148 => some t148) (fun k => by simp only [match_Compare.f, c3_f, Option.bind_some]) ?_
  refine Ev.bind h ?_
  refine ⟨4, fun k hk => ?_⟩
  obtain ⟨k, rfl⟩ : ∃ m, k = m + 4 := ⟨k - 4, by omega⟩
  simp only [or3_f, Option.bind_some, cM, cL]
  congr 1
  by_cases e : m.f0 = n.f0
  · rw [if_pos (c3_zero.2 e), if_pos e]
    by_cases e2 : m.f1 = n.f1
    · rw [if_pos (c3_zero.2 e2), if_pos e2]
    · rw [if_neg (fun h => e2 (c3_zero.1 h)), if_neg e2]
      unfold c3
      split
      · rfl
      · rw [if_pos (by omega)]
  · rw [if_neg (fun h => e (c3_zero.1 h)), if_neg e]
    unfold c3
    split
    · rfl
    · rw [if_pos (by omega)]

theorem ref_l0 (x y : List Int) (hx : x.length < 9223372036854775807) (d : Nat) : ∀ i : Nat, i ≤ x.length → x.length - i = d → i ≤ y.length →
    Ev (fun k => corporaref24_Compare.l0 k x y (i : Int)) (cL (x.drop i) (y.drop i)) := by
  induction d with
  | zero =>
    intro i hi hd hy
    refine ⟨2, fun k hk => ?_⟩
    obtain ⟨k, rfl⟩ : ∃ m, k = m + 2 := ⟨k - 2, by omega⟩
    have e : i = x.length := by omega
    simp only [corporaref24_Compare.l0, corporaref24_Compare.j1]
    rw [if_neg (by omega), if_neg (by simp), List.drop_eq_nil_of_le (by omega), cL_nil]
    simp only [List.length_drop]
    by_cases h : (x.length : Int) = (y.length : Int)
    · rw [if_pos h, if_neg (by omega)]
    · rw [if_neg h, if_pos (by omega), if_pos (by omega)]
  | succ d ih =>
    intro i hi hd hy
    have hlt : i < x.length := by omega
    rw [List.drop_eq_getElem_cons hlt]
    by_cases h : i < y.length
    · rw [List.drop_eq_getElem_cons h]
      by_cases e : x[i] = y[i]
      · refine Ev.step (f := fun k => corporaref24_Compare.j1 k x y (i : Int) true) (fun k => ?_) (Ev.step (f := fun k => corporaref24_Compare.l0 k x y ((i + 1 : Nat) : Int)) (fun k => ?_) ?_)
        · simp only [corporaref24_Compare.l0]
          rw [if_pos (by omega), decide_eq_true (by omega)]
        · simp only [corporaref24_Compare.j1]
          rw [if_pos trivial, if_pos (by omega), if_pos (by omega), if_pos (by omega), rdn x i hlt, rdn y i h, if_pos e, wsucc (by omega)]
        · have := ih (i + 1) (by omega) (by omega) (by omega)
          simpa [cL, e] using this
      · refine ⟨2, fun k hk => ?_⟩
        obtain ⟨k, rfl⟩ : ∃ m, k = m + 2 := ⟨k - 2, by omega⟩
        simp only [corporaref24_Compare.l0, corporaref24_Compare.j1]
        rw [if_pos (by omega), decide_eq_true (show (i : Int) < (y.length : Int) by omega), if_pos rfl, if_pos (by omega), if_pos (by omega), if_pos (by omega), rdn x i hlt, rdn y i h, if_neg e]
        simp only [cL, if_neg e]
        split <;> rfl
    · refine ⟨2, fun k hk => ?_⟩
      obtain ⟨k, rfl⟩ : ∃ m, k = m + 2 := ⟨k - 2, by omega⟩
      rw [List.drop_eq_nil_of_le (show y.length ≤ i by omega)]
      simp only [corporaref24_Compare.l0, corporaref24_Compare.j1]
      rw [if_pos (by omega), decide_eq_false (by omega), if_neg (by simp), if_neg (by omega), if_neg (by omega)]
      rfl

theorem cM_ref (m n : S38) (hm : m.f2.length < 17592186044414) (hn : n.f2.length < 17592186044414) : Ev (fun k => corporaref24_Compare.f k m.f0 m.f1 m.f2 n.f0 n.f1 n.f2) (cM m n) := by
  have h := ref_l0 (m.f0 :: m.f1 :: m.f2) (n.f0 :: n.f1 :: n.f2) (by simp only [List.length_cons]; omega) _ 0 (by omega) rfl (by omega)
  simp only [List.drop_zero] at h
  refine Ev.congr (f := fun k => corporaref24_Compare.l0 k (m.f0 :: m.f1 :: m.f2) (n.f0 :: n.f1 :: n.f2) 0) (fun k => ?_) h
  simp only [corporaref24_Compare.f, Option.bind_some, List.length_cons, List.length_nil]
  rw [if_pos (by omega), if_pos (by omega)]
  rfl
end Go.Proofs.Ytmmdlkeemafanaa.Q
