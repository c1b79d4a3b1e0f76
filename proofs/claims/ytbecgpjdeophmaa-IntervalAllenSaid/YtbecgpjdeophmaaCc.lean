import Derived.Test.YtbecgpjdeophmaaCa
import Derived.Test.YtbecgpjdeophmaaCb
import Derived.Test.YtbecgpjdeophmaaQn
namespace Go.Proofs.Ytbecgpjdeophmaa.Q
open Go.RowKit Go.Lib Go.Sort Go.Proofs.YtbecgpjdeophmaaW Go.Proofs.YtbecgpjdeophmaaW.PrintWords

theorem ltN (x y : Int × Int) : ltOf cfN x y = decide (x.1 < y.1 ∨ (x.1 = y.1 ∧ y.2 < x.2)) := by
  unfold ltOf cfN Lib.compareInt
  by_cases h1 : x.1 < y.1
  · simp [h1]
  · by_cases h2 : y.1 < x.1
    · simp [h1, h2]; omega
    · have h3 : x.1 = y.1 := by omega
      by_cases h4 : y.2 < x.2
      · simp [h3, h4]
      · by_cases h5 : x.2 < y.2 <;> simp [h3, h4, h5]

theorem swoN : SWO (ltOf cfN) where
  irrefl x := by rw [ltN]; simp
  trans x y z h1 h2 := by rw [ltN] at *; simp at *; omega
  ntrans x y z h1 h2 := by rw [ltN] at *; simp at *; omega

theorem totN (x y : Int × Int) (h1 : ltOf cfN x y = false) (h2 : ltOf cfN y x = false) : x = y := by
  rw [ltN] at *
  simp at *
  exact Prod.ext (by omega) (by omega)

/-- The cells of a list of spans, one behind the other. -/
def flatS (l : List S23) : List Value := l.flatMap fun x => [.int .i64 x.f0, .int .i64 x.f1]
theorem flatS_length (l : List S23) : (flatS l).length = l.length * 2 := by
  induction l with
  | nil => rfl
  | cons a t ih => simp only [flatS, List.flatMap_cons, List.length_append, List.length_cons] at *; simp at *; omega
theorem flatS_get (l : List S23) : ∀ j, j < l.length → (flatS l)[j * 2]? = some (.int .i64 (l.getD j z23).f0) ∧ (flatS l)[j * 2 + 1]? = some (.int .i64 (l.getD j z23).f1) := by
  induction l with
  | nil => intro j hj; simp at hj
  | cons a t ih =>
    intro j hj
    match j with
    | 0 => exact ⟨rfl, rfl⟩
    | j + 1 =>
      have := ih j (by simpa using hj)
      have e : flatS (a :: t) = .int .i64 a.f0 :: .int .i64 a.f1 :: flatS t := rfl
      rw [e, show (j + 1) * 2 = j * 2 + 1 + 1 by omega]
      simpa using this
theorem flatS_one (l : List S23) : ∀ u ∈ flatS l, u.oneCell' = true := by
  intro u hu
  simp only [flatS, List.mem_flatMap] at hu
  obtain ⟨x, _, hu⟩ := hu
  simp at hu
  rcases hu with rfl | rfl <;> rfl
theorem reps_flatS (R : S23 → List Value → Prop) (hR : ∀ x, R x [.int .i64 x.f0, .int .i64 x.f1]) (l : List S23) : Reps R 2 l (flatS l) := by
  refine ⟨flatS_length l, fun j p hj => ?_⟩
  have hlt := (List.getElem?_eq_some_iff.1 hj).1
  have h := flatS_get l j hlt
  have hp : l.getD j z23 = p := by rw [List.getD_eq_getElem?_getD, hj]; rfl
  rw [hp] at h
  have e : (List.take 2 (List.drop (j * 2) (flatS l))) = [.int .i64 p.f0, .int .i64 p.f1] := by
    apply List.ext_getElem?
    intro i
    rw [List.getElem?_take]
    split
    · rw [List.getElem?_drop]
      rename_i hi
      obtain rfl | rfl : i = 0 ∨ i = 1 := by omega
      · exact h.1
      · exact h.2
    · rw [List.getElem?_eq_none]; simp; omega
  rw [e]
  exact hR p

theorem R_of_flat {W : World} {base : Nat} {v : Value} {l : List S23} (h : W.ownsRow base 23 2 v l.length (flatS l)) : Kd.R k23 23 W base (fun _ => True) v l :=
  ⟨fun _ _ => trivial, flatS l, h, reps_flatS _ (fun x => k23_mkM _ _ _ x) l⟩

/-- slices.Clone of spans. -/
theorem clone_any (ad : Addr) (n c : Nat) (news : List Value) (w : World) (hl : news.length = n * 2) (hn : n ≤ 4096)
    (hc : ∀ j u, news[j]? = some u → w.cell? (ad.add j) = some u) (h1 : ∀ u ∈ news, u.oneCell' = true) :
    Calls Try.prog 35 #[.slice (some ad) n c] w fun e w' => ∃ v', e = .returned v' ∧ w'.ownsRow w.heap.size 23 2 v' n news ∧ v' ≠ .slice none 0 0 ∧ Below w.heap.size w w' := by
  obtain ⟨i0, hi, hzz⟩ := Option.map_eq_some_iff.1 info23
  simp only [Prod.mk.injEq] at hzz
  obtain ⟨hz0, hz1, hz2⟩ := hzz
  have q28 : ∀ (w : World) (a : Option Addr) (n c n' c' : Nat), (binOp .eql 28 (.slice a n c) (.slice none n' c')).run Try.prog w = .ok (.bool a.isNone) w := fun w a n c n' c' => Lib.run_eql_slice_nil w _ _ a n c n' c' Try.underlying28
  have u28 : ∀ w, Sem.run Try.prog (underlying 28) w = .ok (TypeDesc.slice 23) w := run_underlying Try.underlying28
  have A := Aside0.mk hc
  clear hc
  have Z0 := Aside0.mk (And.intro hi (And.intro hz0 (And.intro hz1 hz2)))
  clear hi hz0 hz1 hz2
  go_enter Try.func35, Try.ntmps35
  go_wp2_with (at_builtin; refine wpList_append_own _ rfl _ _ 28 rfl w.heap.size 23 i0 _ 2 16 Try.underlying28 Z0.out.1 Z0.out.2.1 Z0.out.2.2.1 Z0.out.2.2.2 (by rfl) (by decide) _ _ _ rfl (World.ownsRow_made w #[] 0 (Nat.le_refl _) (Nat.zero_le _) (by simp)) ad n c news rfl ?qc1 ?qc2 ?qc3 ?qc4 ?qc5 ?qc6 ?_)
  case qc1 => exact hl
  case qc2 =>
    intro j u hj
    exact Lib.cell?_alloc_some _ (A.out j u hj)
  case qc3 => exact h1
  case qc4 => rw [Nat.zero_add]; simp only [maxLen]; omega
  case qc5 => omega
  case qc6 => simp
  intro v' w1 hown hgrow hnil
  go_wp2
  go_ret
  refine ⟨v', rfl, by simpa using hown, ?_, ?_⟩
  · exact hnil
  · exact ((Below.refl _ w).alloc (Nat.le_refl _) _).grown hgrow (by simp) (by intro k hk; simp [Value.ownBlock] at hk; omega)
end Go.Proofs.Ytbecgpjdeophmaa.Q
