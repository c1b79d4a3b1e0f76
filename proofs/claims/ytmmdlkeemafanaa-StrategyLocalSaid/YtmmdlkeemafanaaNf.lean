/- The plain law of StrategyLocal. -/
import Derived.Test.YtmmdlkeemafanaaNb
import Derived.Test.YtmmdlkeemafanaaTg
namespace Go.Proofs.Ytmmdlkeemafanaa.Q
open Go.RowKit Go.Proofs.YtmmdlkeemafanaaW Go.Proofs.YtmmdlkeemafanaaW.PrintWords

/-! ### matches moved by 30 -/
def mv (m : S38) : S38 := ⟨m.f0 + 30, m.f1 + 30, m.f2⟩
theorem cM_mv (a b : S38) : cM (mv a) (mv b) = cM a b := by
  unfold cM mv
  simp only [cL]
  have e (p q : Int) : (p + 30 = q + 30) = (p = q) := by apply propext; omega
  have f (p q : Int) : (p + 30 < q + 30) = (p < q) := by apply propext; omega
  simp only [e, f]
theorem mv_asc {y : List S38} (h : AscM y) : AscM (y.map mv) := by
  unfold AscM at *
  rw [List.pairwise_map]
  exact h.imp fun {a b} hab => by rw [cM_mv]; exact hab
theorem mv_good {m : S38} (h : GoodM m) : GoodM (mv m) := by
  obtain ⟨⟨h1, h2⟩, h3⟩ := h
  refine ⟨⟨?_, ?_⟩, h3⟩
  · show 0 ≤ m.f0 + 30; omega
  · show m.f0 + 30 < m.f1 + 30; omega
theorem both_asc {x y : List S38} (hx : AscM x) (hy : AscM y) (h1 : ∀ m ∈ x, m.f0 < 30) (h2 : ∀ m ∈ y, 30 ≤ m.f0) : AscM (x ++ y) := by
  unfold AscM at *
  refine List.pairwise_append.2 ⟨hx, hy, fun a ha b hb => ?_⟩
  have e1 := h1 a ha
  have e2 := h2 b hb
  unfold cM
  rw [cL, if_neg (by omega), if_pos (by omega)]
  omega

/-! ### choosing out of two lists that lie apart -/
theorem trad_low : ∀ (B : List S40) (p q : Int), (∀ b ∈ B, p ≤ b.f0) → (∀ b ∈ B, q ≤ b.f0) → trad B p = trad B q
  | [], p, q, _, _ => by rw [trad, trad]
  | [s], p, q, h, g => by
    have := h s (by simp)
    have := g s (by simp)
    rw [trad, trad, if_neg (by omega), if_neg (by omega)]
  | s :: t :: u, p, q, h, g => by
    have := h s (by simp)
    have := g s (by simp)
    have e := trad_low (t :: u) p q (fun b hb => h b (List.mem_cons_of_mem _ hb)) (fun b hb => g b (List.mem_cons_of_mem _ hb))
    rw [trad, if_neg (by omega), e]
    conv => rhs; rw [trad]
    rw [if_neg (by omega : ¬ s.f0 < q)]
theorem trad_app (B : List S40) (hB : ∀ b ∈ B, 30 ≤ b.f0) : ∀ (A : List S40) (p : Int), p ≤ 30 → (∀ a ∈ A, a.f0 < 30 ∧ a.f1 ≤ 30) → trad (A ++ B) p = trad A p ++ trad B 0
  | [], p, hp, _ => by
    rw [List.nil_append, trad, List.nil_append]
    exact trad_low B p 0 (fun b hb => by have := hB b hb; omega) (fun b hb => by have := hB b hb; omega)
  | [s], p, hp, hA => by
    have hs := hA s (by simp)
    cases B with
    | nil => simp [trad]
    | cons b u =>
      have hb := hB b (by simp)
      have low : ∀ q, q ≤ 30 → trad (b :: u) q = trad (b :: u) 0 := fun q hq => trad_low _ q 0 (fun c hc => by have := hB c hc; omega) (fun c hc => by have := hB c hc; omega)
      rw [List.singleton_append, trad, trad]
      by_cases c : s.f0 < p
      · rw [if_pos c, if_pos c, List.nil_append]
        exact low p hp
      · rw [if_neg c, if_neg c, if_neg (by omega), low _ hs.2, List.singleton_append]
  | s :: t :: u, p, hp, hA => by
    have hs := hA s (by simp)
    have hA' : ∀ a ∈ t :: u, a.f0 < 30 ∧ a.f1 ≤ 30 := fun a ha => hA a (List.mem_cons_of_mem _ ha)
    have e1 := trad_app B hB (t :: u) p hp hA'
    have e2 := trad_app B hB (t :: u) s.f1 hs.2 hA'
    rw [List.cons_append] at e1 e2
    rw [List.cons_append, List.cons_append, trad, e1, e2, trad]
    split
    · rfl
    · split <;> rfl
theorem pick_app {st : Int} {A B : List S40} (hB : ∀ b ∈ B, 30 ≤ b.f0 ∧ b.f0 < b.f1) (hA : ∀ a ∈ A, a.f0 < a.f1 ∧ a.f1 ≤ 30) : pickL st (A ++ B) = pickL st A ++ pickL st B := by
  unfold pickL
  by_cases c : st = 3
  · rw [if_pos c, if_pos c, if_pos c]
    exact trad_app B (fun b hb => (hB b hb).1) A 0 (by omega) (fun a ha => by have := hA a ha; omega)
  · rw [if_neg c, if_neg c, if_neg c, List.filter_append]
    congr 1
    · refine List.filter_congr fun s hs => ?_
      have e1 := hA s hs
      rw [Bool.eq_iff_iff, keep_iff, keep_iff]
      refine ⟨fun h t ht => h t (List.mem_append_left _ ht), fun h t ht hne => ?_⟩
      rcases List.mem_append.1 ht with ht | ht
      · exact h t ht hne
      · have e2 := hB t ht
        refine ⟨fun h4 => ?_, fun h4 => ?_⟩
        · have := contB_iff.1 h4.2; omega
        · have := contB_iff.1 h4.2; omega
    · refine List.filter_congr fun s hs => ?_
      have e1 := hB s hs
      rw [Bool.eq_iff_iff, keep_iff, keep_iff]
      refine ⟨fun h t ht => h t (List.mem_append_right _ ht), fun h t ht hne => ?_⟩
      rcases List.mem_append.1 ht with ht | ht
      · have e2 := hA t ht
        refine ⟨fun h4 => ?_, fun h4 => ?_⟩
        · have := contB_iff.1 h4.2; omega
        · have := contB_iff.1 h4.2; omega
      · exact h t ht hne
theorem nrm_app {A B : List S40} (hA : ∀ a ∈ A, a.f0 < 30) (hB : ∀ b ∈ B, 30 ≤ b.f0) : nrm (A ++ B) = nrm A ++ nrm B := by
  refine (nrm_unique (List.pairwise_append.2 ⟨asc_nrm A, asc_nrm B, fun a ha b hb => ?_⟩) fun s => ?_).symm
  · have e1 := hA a ((mem_nrm _ _).1 ha)
    have e2 := hB b ((mem_nrm _ _).1 hb)
    unfold lt40; omega
  · rw [List.mem_append, List.mem_append, mem_nrm, mem_nrm]
theorem sel_app {st : Int} {x y : List S38} (hx : ∀ m ∈ x, m.f0 < m.f1 ∧ m.f1 ≤ 30) (hy : ∀ m ∈ y, 30 ≤ m.f0 ∧ m.f0 < m.f1) : sel (chs st (x ++ y)) (x ++ y) = sel (chs st x) x ++ sel (chs st y) y := by
  have sx : ∀ a ∈ x.map sp, a.f0 < a.f1 ∧ a.f1 ≤ 30 := fun a ha => by
    obtain ⟨m, hm, rfl⟩ := List.mem_map.1 ha
    exact hx m hm
  have sy : ∀ a ∈ y.map sp, 30 ≤ a.f0 ∧ a.f0 < a.f1 := fun a ha => by
    obtain ⟨m, hm, rfl⟩ := List.mem_map.1 ha
    exact hy m hm
  have e : chs st (x ++ y) = chs st x ++ chs st y := by
    unfold chs
    rw [List.map_append, nrm_app (fun a ha => by have := sx a ha; omega) (fun a ha => (sy a ha).1)]
    exact pick_app (fun b hb => sy b ((mem_nrm _ _).1 hb)) (fun a ha => sx a ((mem_nrm _ _).1 ha))
  have inx : ∀ s ∈ chs st x, s.f0 < 30 := fun s hs => by
    have := sx s ((mem_nrm _ _).1 ((pickL_sub st _).mem hs)); omega
  have iny : ∀ s ∈ chs st y, 30 ≤ s.f0 := fun s hs => (sy s ((mem_nrm _ _).1 ((pickL_sub st _).mem hs))).1
  rw [e]
  unfold sel
  rw [List.filter_append]
  congr 1
  · refine List.filter_congr fun m hm => ?_
    rw [Bool.eq_iff_iff, decide_eq_true_iff, decide_eq_true_iff, List.mem_append]
    refine ⟨fun h => h.elim id fun h => ?_, .inl⟩
    have e1 := iny _ h
    have e2 := hx m hm
    have e3 : 30 ≤ m.f0 := e1
    omega
  · refine List.filter_congr fun m hm => ?_
    rw [Bool.eq_iff_iff, decide_eq_true_iff, decide_eq_true_iff, List.mem_append]
    refine ⟨fun h => h.elim (fun h => ?_) id, .inr⟩
    have e1 := inx _ h
    have e2 := hy m hm
    have e3 : m.f0 < 30 := e1
    omega

/-! ### the law -/
section
variable (x y : List S38) (a2 : Int) (hx : AscM x ∧ (∀ m ∈ x, GoodL m) ∧ x.length ≤ 20) (hy : AscM y ∧ (∀ m ∈ y, GoodL m) ∧ y.length ≤ 20)

include hx hy in
theorem lo_end : Ev (fun k => (corporamade_Mod.f a2 4).bind fun t427 => ((strategy_Choose.f k t427 x).bind fun bt428 => ((strategy_Choose.f k t427 (y.map mv)).bind fun bt432 => ((strategy_Choose.f k t427 (x ++ y.map mv)).bind fun bt436 => (if bt428.2 = 0 then (if bt432.2 = 0 then (if bt436.2 = 0 then ((some (([] : List (S38)) : List (S38))).bind fun y440 => (if y440.length + bt428.1.length < 3518437208883 then ((some (y440 ++ bt428.1 : List (S38))).bind fun y443 => (if y443.length + bt432.1.length < 3518437208883 then ((corporaref24_Same.f k bt436.1 (y443 ++ bt432.1)).bind fun t449 => (if t449 = true then ((corporalaw27_known.f k).bind fun t450 => (some t450)) else none)) else (none))) else (none))) else none) else none) else none))))) true := by
  obtain ⟨hA, hG, hl⟩ := hx
  obtain ⟨hA2, hG2, hl2⟩ := hy
  obtain ⟨st, hst, h0, h4⟩ := mod_f a2 4 (by omega) (by omega)
  have gx : ∀ m ∈ x, m.f0 < m.f1 ∧ m.f1 ≤ 30 := fun m hm => by have h := hG m hm; have h5 := h.1.1.2; have h6 := h.2; omega
  have gm : ∀ m ∈ y.map mv, GoodM m := fun m hm => by
    obtain ⟨n, hn, rfl⟩ := List.mem_map.1 hm
    exact mv_good (hG2 n hn).1
  have gy : ∀ m ∈ y.map mv, 30 ≤ m.f0 ∧ m.f0 < m.f1 := fun m hm => by
    have h1 := (gm m hm).1
    obtain ⟨n, hn, rfl⟩ := List.mem_map.1 hm
    have h2 := (hG2 n hn).1.1.1
    refine ⟨?_, h1.2⟩
    show 30 ≤ n.f0 + 30
    omega
  have gb : ∀ m ∈ x ++ y.map mv, GoodM m := fun m hm => (List.mem_append.1 hm).elim (fun h => (hG m h).1) (gm m)
  have ly : (y.map mv).length ≤ 20 := by rw [List.length_map]; exact hl2
  have lb : (x ++ y.map mv).length ≤ 40 := by rw [List.length_append]; omega
  have ab := both_asc hA (mv_asc hA2) (fun m hm => by have := gx m hm; omega) (fun m hm => (gy m hm).1)
  have c1 := choose_ev x (by omega) (fun m hm => (hG m hm).short) st
  rw [choose_ok hA (fun m hm => (hG m hm).1) h0 (by omega)] at c1
  have c2 := choose_ev (y.map mv) (by omega) (fun m hm => (gm m hm).short) st
  rw [choose_ok (mv_asc hA2) gm h0 (by omega)] at c2
  have c3 := choose_ev (x ++ y.map mv) (by omega) (fun m hm => (gb m hm).short) st
  rw [choose_ok ab gb h0 (by omega), sel_app gx gy] at c3
  have s1 := (sel_sub (chs st x) x).length_le
  have s2 := (sel_sub (chs st (y.map mv)) (y.map mv)).length_le
  refine Ev.congr (fun k => by rw [hst, Option.bind_some]) ?_
  refine Ev.bind c1 (Ev.bind c2 (Ev.bind c3 ?_))
  refine Ev.congr (fun k => if_pos rfl) ?_
  refine Ev.congr (fun k => if_pos rfl) ?_
  refine Ev.congr (fun k => if_pos rfl) ?_
  refine Ev.congr (fun k => by rw [Option.bind_some, if_pos (by simp only [List.length_nil]; omega), Option.bind_some, if_pos (by simp only [List.nil_append]; omega), List.nil_append]) ?_
  refine Ev.bind (same24_ev _ (by rw [List.length_append]; omega) (fun m hm => ?_)) ?_
  · rcases List.mem_append.1 hm with h | h
    · exact (hG m ((sel_sub _ _).mem h)).short
    · exact (gm m ((sel_sub _ _).mem h)).short
  · refine Ev.congr (fun k => if_pos rfl) ?_
    exact Ev.bind known_ev (Ev.now _)

include hx hy in
theorem lo_l0 (d : Nat) : ∀ i : Nat, i ≤ y.length → y.length - i = d → Ev (fun k => corporalaw27_StrategyLocal.l0 k a2 x x ((y.take i).map mv) y (y.length : Int) (i : Int)) true := by
  induction d with
  | zero =>
    intro i hi hd
    rw [List.take_of_length_le (by omega)]
    refine Ev.step (fun k => ?_) (lo_end x y a2 hx hy)
    simp only [corporalaw27_StrategyLocal.l0]
    rw [if_neg (by omega), if_pos (by have := hx.2.2; have := hy.2.2; simp; omega)]
  | succ d ih =>
    intro i hi hd
    have hlt : i < y.length := by omega
    have hg := hy.2.1 _ (List.getElem_mem hlt)
    have h1 := hg.1.1
    have h2 := hg.2
    refine Ev.step (fun k => ?_) (ih (i + 1) (by omega) (by omega))
    simp only [corporalaw27_StrategyLocal.l0]
    have e : (y.take (i + 1)).map mv = (y.take i).map mv ++ [mv y[i]] := by rw [List.take_succ_eq_append_getElem hlt, List.map_append]; rfl
    have e0 : wrap64 (y[i].f0 + 30) = y[i].f0 + 30 := by unfold wrap64; omega
    have e1 : wrap64 (y[i].f1 + 30) = y[i].f1 + 30 := by unfold wrap64; omega
    rw [if_pos (by omega), if_pos (by omega), if_pos (by omega), if_pos (by have := hy.2.2; simp; omega), rd38 y i hlt, wsucc (by omega), e, e0, e1]
    rfl

include hx hy in
theorem lo_j0 (b : Bool) : Ev (fun k => corporalaw27_StrategyLocal.j0 k a2 x y b) true := by
  cases b with
  | true =>
    refine Ev.step (f := fun k => (corporalaw27_known.f k).bind fun t => some t) (fun k => ?_) (Ev.bind known_ev (Ev.now _))
    simp only [corporalaw27_StrategyLocal.j0]
    rw [if_pos trivial]
  | false =>
    refine Ev.step (fun k => ?_) (lo_l0 x y a2 hx hy _ 0 (by omega) rfl)
    simp only [corporalaw27_StrategyLocal.j0, Option.bind_some]
    rw [if_neg (by simp), if_pos (by have := hx.2.2; simp; omega)]
    rfl
end

theorem local_ev (l0 l1 : List Int) (a2 : Int) : Ev (fun k => corporalaw27_StrategyLocal.f k l0 l1 a2) true := by
  obtain ⟨x, hx, ex⟩ := list_evL l0
  obtain ⟨y, hy, ey⟩ := list_evL l1
  unfold corporalaw27_StrategyLocal.f
  refine Ev.bind ex (Ev.bind ey ?_)
  by_cases c : (x.length : Int) > 0
  · by_cases d : (y.length : Int) > 0
    · refine Ev.congr (fun k => ?_) (lo_j0 x y a2 hx hy ((((rd_T38 x 0).f2).length : Int) != (((rd_T38 y 0).f2).length : Int)))
      rw [if_pos c, if_pos d, if_pos (by omega), if_pos (by omega)]
    · refine Ev.congr (fun k => ?_) (lo_j0 x y a2 hx hy false)
      rw [if_pos c, if_neg d]
  · refine Ev.congr (fun k => ?_) (lo_j0 x y a2 hx hy false)
    rw [if_neg c]
end Go.Proofs.Ytmmdlkeemafanaa.Q
namespace Go.Proofs.Ytmmdlkeemafanaa.Pure
open Go.Proofs.Ytmmdlkeemafanaa.Q
theorem StrategyLocal : corporalaw27_StrategyLocal.Pure := fun l0 l1 a2 _ _ _ _ _ _ _ => (local_ev l0 l1 a2).rounds
end Go.Proofs.Ytmmdlkeemafanaa.Pure
