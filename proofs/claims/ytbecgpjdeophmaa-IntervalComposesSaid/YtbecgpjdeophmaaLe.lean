import Derived.Test.YtbecgpjdeophmaaLd
import Derived.Test.YtbecgpjdeophmaaQi
namespace Go.Proofs.Ytbecgpjdeophmaa.Q
open Go.RowKit Go.Proofs.YtbecgpjdeophmaaW Go.Proofs.YtbecgpjdeophmaaW.PrintWords

theorem comp_facts {a0 a1 b0 b1 c0 c1 : Int} :
    let x := relV a0 a1 b0 b1; let y := relV b0 b1 c0 c1; let z := relV a0 a1 c0 c1
    (x ≠ 0 → y ≠ 0 → z ≠ 0) ∧ (x = y → (x = 1 ∨ x = 4 ∨ x = 5 ∨ x = 6 ∨ x = 7) → z = x) ∧ (x = 1 → (y = 5 ∨ y = 6 ∨ y = 8 ∨ y = 7 ∨ y = 2) → z = 1) ∧ (x = 7 → z = y) ∧ (y = 7 → z = x) := by
  intro x y z
  by_cases ha : 0 ≤ a0 ∧ a0 < a1
  · by_cases hb : 0 ≤ b0 ∧ b0 < b1
    · have ex : x = relW a0 a1 b0 b1 := if_pos ⟨ha, hb⟩
      by_cases hc : 0 ≤ c0 ∧ c0 < c1
      · have ey : y = relW b0 b1 c0 c1 := if_pos ⟨hb, hc⟩
        have ez : z = relW a0 a1 c0 c1 := if_pos ⟨ha, hc⟩
        obtain ⟨x1, x2, x3, x4, x5, x6, x7, x8, x9, x10, x11, x12, x13⟩ := relW_iff ha.2 hb.2
        obtain ⟨y1, y2, y3, y4, y5, y6, y7, y8, y9, y10, y11, y12, y13⟩ := relW_iff hb.2 hc.2
        obtain ⟨z1, z2, z3, z4, z5, z6, z7, z8, z9, z10, z11, z12, z13⟩ := relW_iff ha.2 hc.2
        have hz := relW_range a0 a1 c0 c1
        rw [← ex] at x1 x2 x3 x4 x5 x6 x7 x8 x9 x10 x11 x12 x13
        rw [← ey] at y1 y2 y3 y4 y5 y6 y7 y8 y9 y10 y11 y12 y13
        rw [← ez] at z1 z2 z3 z4 z5 z6 z7 z8 z9 z10 z11 z12 z13 hz
        refine ⟨fun _ _ => by omega, fun e h => ?_, fun e h => ?_, fun e => ?_, fun e => ?_⟩
        · rcases h with h | h | h | h | h
          · have p := x1.1 h; have q := y1.1 (e ▸ h); rw [h]; exact z1.2 (by omega)
          · have p := x4.1 h; have q := y4.1 (e ▸ h); rw [h]; exact z4.2 (by omega)
          · have p := x5.1 h; have q := y5.1 (e ▸ h); rw [h]; exact z5.2 (by omega)
          · have p := x6.1 h; have q := y6.1 (e ▸ h); rw [h]; exact z6.2 (by omega)
          · have p := x7.1 h; have q := y7.1 (e ▸ h); rw [h]; exact z7.2 (by omega)
        · have p := x1.1 e
          rcases h with h | h | h | h | h
          · have q := y5.1 h; exact z1.2 (by omega)
          · have q := y6.1 h; exact z1.2 (by omega)
          · have q := y8.1 h; exact z1.2 (by omega)
          · have q := y7.1 h; exact z1.2 (by omega)
          · have q := y2.1 h; exact z1.2 (by omega)
        · obtain ⟨p, q⟩ := x7.1 e
          rw [ez, ey, p, q]
        · obtain ⟨p, q⟩ := y7.1 e
          rw [ez, ex, p, q]
      · have ey : y = 0 := if_neg fun h => hc h.2
        have ez : z = 0 := if_neg fun h => hc h.2
        have rx := relW_range a0 a1 b0 b1
        refine ⟨fun _ h => absurd ey h, fun e h => by omega, fun _ h => by omega, fun _ => by omega, fun h => by omega⟩
    · have ex : x = 0 := if_neg fun h => hb h.2
      have ey : y = 0 := if_neg fun h => hb h.1
      refine ⟨fun h => absurd ex h, fun e h => by omega, fun h => by omega, fun h => by omega, fun h => by omega⟩
  · have ex : x = 0 := if_neg fun h => ha h.1
    have ez : z = 0 := if_neg fun h => ha h.1
    refine ⟨fun h => absurd ex h, fun e h => by omega, fun h => by omega, fun h => by omega, fun h => by omega⟩

theorem comp_j2 (x y z : Int) (h4 : x = 7 → z = y) (h5 : y = 7 → z = x) : Ev (fun k => corporalaw11_IntervalComposes.j2 k x y z false) true := by
  have fin : Ev (fun k => (corporalaw11_awake.f k).bind fun t => some t) true := Ev.bind awake_ev (Ev.now _)
  refine Ev.step (fun k => ?_) fin
  simp only [corporalaw11_IntervalComposes.j2, Bool.false_eq_true, if_false]
  by_cases e : x = 7
  · rw [if_pos e, if_pos (h4 e)]
    by_cases f : y = 7
    · rw [if_pos f, if_pos (h5 f)]
    · rw [if_neg f]
  · rw [if_neg e]
    by_cases f : y = 7
    · rw [if_pos f, if_pos (h5 f)]
    · rw [if_neg f]

theorem comp_j1 (x y z : Int) (h3 : x = 1 → (y = 5 ∨ y = 6 ∨ y = 8 ∨ y = 7 ∨ y = 2) → z = 1) (h4 : x = 7 → z = y) (h5 : y = 7 → z = x) : Ev (fun k => corporalaw11_IntervalComposes.j1 k x y z false) true := by
  refine Ev.step (fun k => ?_) (comp_j2 x y z h4 h5)
  simp only [corporalaw11_IntervalComposes.j1, Bool.false_eq_true, if_false]
  have hb : z = 1 → (z != 1) = false := fun e => bne_eq_false_iff_eq.2 e
  by_cases e : x = 1
  · rw [if_pos e]
    by_cases f1 : y = 5
    · rw [if_pos f1, hb (h3 e (by omega))]
    · rw [if_neg f1]
      by_cases f2 : y = 6
      · rw [if_pos f2, hb (h3 e (by omega))]
      · rw [if_neg f2]
        by_cases f3 : y = 8
        · rw [if_pos f3, hb (h3 e (by omega))]
        · rw [if_neg f3]
          by_cases f4 : y = 7
          · rw [if_pos f4, hb (h3 e (by omega))]
          · rw [if_neg f4]
            by_cases f5 : y = 2
            · rw [if_pos f5, hb (h3 e (by omega))]
            · rw [if_neg f5]
  · rw [if_neg e]

theorem comp_j0 (x y z : Int) (h2 : x = y → (x = 1 ∨ x = 4 ∨ x = 5 ∨ x = 6 ∨ x = 7) → z = x) (h3 : x = 1 → (y = 5 ∨ y = 6 ∨ y = 8 ∨ y = 7 ∨ y = 2) → z = 1) (h4 : x = 7 → z = y) (h5 : y = 7 → z = x) :
    Ev (fun k => corporalaw11_IntervalComposes.j0 k x y z false) true := by
  refine Ev.step (fun k => ?_) (comp_j1 x y z h3 h4 h5)
  simp only [corporalaw11_IntervalComposes.j0, Bool.false_eq_true, if_false]
  have hb : z = x → (z != x) = false := fun e => bne_eq_false_iff_eq.2 e
  by_cases e : x = y
  · rw [if_pos e]
    by_cases f1 : x = 1
    · rw [if_pos f1, hb (h2 e (by omega))]
    · rw [if_neg f1]
      by_cases f2 : x = 4
      · rw [if_pos f2, hb (h2 e (by omega))]
      · rw [if_neg f2]
        by_cases f3 : x = 5
        · rw [if_pos f3, hb (h2 e (by omega))]
        · rw [if_neg f3]
          by_cases f4 : x = 6
          · rw [if_pos f4, hb (h2 e (by omega))]
          · rw [if_neg f4]
            by_cases f5 : x = 7
            · rw [if_pos f5, hb (h2 e (by omega))]
            · rw [if_neg f5]
  · rw [if_neg e]

theorem composes_ev (a0 a1 b0 b1 c0 c1 : Int) : Ev (fun k => corporalaw11_IntervalComposes.f k a0 a1 b0 b1 c0 c1) true := by
  unfold corporalaw11_IntervalComposes.f
  refine Ev.bind (rel_ev _ _ _ _) ?_
  refine Ev.bind (rel_ev _ _ _ _) ?_
  refine Ev.bind (rel_ev _ _ _ _) ?_
  obtain ⟨h1, h2, h3, h4, h5⟩ := @comp_facts a0 a1 b0 b1 c0 c1
  refine Ev.congr (fun k => ?_) (comp_j0 _ _ _ h2 h3 h4 h5)
  by_cases e : relV a0 a1 b0 b1 = 0
  · rw [if_pos e]
  · rw [if_neg e]
    by_cases f : relV b0 b1 c0 c1 = 0
    · rw [if_pos f]
    · rw [if_neg f, show (relV a0 a1 c0 c1 == 0) = false from beq_eq_false_iff_ne.2 (h1 e f)]

theorem composes_walk (a0 a1 b0 b1 c0 c1 : Int) (w : World) : Calls Try.prog 4 #[.agg #[.int .i64 a0, .int .i64 a1], .agg #[.int .i64 b0, .int .i64 b1], .agg #[.int .i64 c0, .int .i64 c1]] w fun e w' => e = .returned (.bool true) ∧ Below w.heap.size w w' := by
  obtain ⟨k, h⟩ := (composes_ev a0 a1 b0 b1 c0 c1).rounds
  exact corporalaw11_IntervalComposes.calls k a0 a1 b0 b1 c0 c1 true w h
end Go.Proofs.Ytbecgpjdeophmaa.Q
