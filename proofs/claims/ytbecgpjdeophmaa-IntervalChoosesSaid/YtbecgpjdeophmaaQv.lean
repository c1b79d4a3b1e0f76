import Derived.Test.YtbecgpjdeophmaaQx1
import Derived.Test.YtbecgpjdeophmaaQn
namespace Go.Proofs.Ytbecgpjdeophmaa.Q
open Go.RowKit Go.Proofs.YtbecgpjdeophmaaW.PrintWords Go.Proofs.YtbecgpjdeophmaaW.PrintLast Go.Proofs.YtbecgpjdeophmaaW.PrintMore
set_option linter.unusedVariables false
set_option linter.unusedSimpArgs false
attribute [local go_sem high] eqA23

def corporaref11_insert.T6 : Bool × List (List Nat × List Nat) := (true, [([], []), ([], []), ([0, 1], [0, 1]), ([2], [2]), ([], []), ([4], [4]), ([3, 5, 3], [3, 5]), ([], []), ([], []), ([7, 8], [7, 8]), ([6, 9, 6], [6, 9]), ([10, 10, 0, 1, 2, 3, 4, 5, 6, 7, 8, 9, 10], [10])])
def corporaref11_insert.B6 : List Nat := [0, 0, 3, 7, 0, 16, 63, 0, 0, 384, 1023, 2047]
theorem corporaref11_insert.tab6 : rtab .any (opsOf Try.f31 6) = corporaref11_insert.T6 := by kernel_rfl
theorem corporaref11_insert.bits6 : waitsOk corporaref11_insert.T6.2 corporaref11_insert.B6 = true := by kernel_rfl

/-- Behind the elements that stand ahead of s. -/
theorem ins_drop (l : List S23) (s : S23) : ∀ n : Nat, n ≤ l.length → (∀ j, j < n → lt23 (l.getD j z23) s) → ins l s = l.take n ++ ins (l.drop n) s := by
  induction l with
  | nil => intro n hn _; simp at hn; subst hn; rfl
  | cons a t ih =>
    intro n hn h
    match n with
    | 0 => rfl
    | n + 1 =>
      have h0 : lt23 a s := h 0 (by omega)
      rw [ins, if_pos h0, ih n (by simpa using hn) (fun j hj => h (j + 1) (by omega))]
      rfl
theorem ins_end (l : List S23) (s : S23) (h : ∀ j, j < l.length → lt23 (l.getD j z23) s) : ins l s = l ++ [s] := by
  rw [ins_drop l s l.length (Nat.le_refl _) h]; simp [ins]
theorem ins_there (l : List S23) (s : S23) (n : Nat) (hn : n < l.length) (h : ∀ j, j < n → lt23 (l.getD j z23) s) (he : l.getD n z23 = s) : ins l s = l := by
  have e : l.drop n = l[n] :: l.drop (n + 1) := List.drop_eq_getElem_cons hn
  have e2 : l[n] = s := by rw [← he]; simp [List.getD_eq_getElem?_getD, hn]
  rw [ins_drop l s n (by omega) h, e, ins, e2, if_neg (lt23_irrefl s), if_pos ⟨rfl, rfl⟩, ← e2, ← e, List.take_append_drop]
theorem ins_mid (l : List S23) (s : S23) (n : Nat) (hn : n < l.length) (h : ∀ j, j < n → lt23 (l.getD j z23) s) (hl : ¬ lt23 (l.getD n z23) s) (he : ¬ ((l.getD n z23).f0 = s.f0 ∧ (l.getD n z23).f1 = s.f1)) : ins l s = l.take n ++ s :: l.drop n := by
  have e : l.drop n = l[n] :: l.drop (n + 1) := List.drop_eq_getElem_cons hn
  have e2 : l.getD n z23 = l[n] := by simp [List.getD_eq_getElem?_getD, hn]
  rw [e2] at hl he
  rw [ins_drop l s n (by omega) h, e, ins, if_neg hl, if_neg he]

theorem wrapX {x : Int} {n : Nat} (h0 : 0 ≤ x) (h1 : x < (n : Int)) (hn : n < 4096) : (.int .i64 (wrap64 (x + 1)) : Value) = .int .i64 (x + 1) := by
  rw [show wrap64 (x + 1) = x + 1 by unfold wrap64; omega]
theorem step_lt {l : List S23} {s : S23} {x : Int} (h : ∀ j, j < x.toNat → lt23 (l.getD j z23) s) (h0 : 0 ≤ x) (hx : lt23 (rd_T23 l x) s) : ∀ j, j < (x + 1).toNat → lt23 (l.getD j z23) s := by
  intro j hj
  by_cases e : j < x.toNat
  · exact h j e
  obtain rfl : j = x.toNat := by omega
  exact hx

set_option maxHeartbeats 8000000 in
set_option maxRecDepth 100000 in
theorem ins_any (A0 : Option Addr) (c0 : Nat) (l0 : List (S23)) (a1_0 : Int) (a1_1 : Int) (w : World) (hr0 : Kd.C k23 w A0 l0.length l0) (hc0 : l0.length ≤ c0) (hn : l0.length < 4096) :
    Calls Try.prog 31 #[.slice A0 l0.length c0, .agg #[.int .i64 a1_0, .int .i64 a1_1]] w fun e w' => ∃ v0_ : Value, e = .returned (v0_) ∧
      ((v0_ = .slice A0 l0.length c0 ∧ ins l0 ⟨a1_0, a1_1⟩ = l0) ∨ Kd.R k23 23 w' w.heap.size (fun _ => True) v0_ (ins l0 ⟨a1_0, a1_1⟩)) ∧ Below w.heap.size w w' := by
  have hu23 := Try.underlying23
  have HR0 := Aside0.mk hr0
  have HC0 := Aside0.mk hc0
  have HN := Aside0.mk hn
  clear hr0 hc0 hn
  go_enter Try.func31, Try.ntmps31
  go_wp2
  go_loopg [5] l0.length (fun kq v5 wr => ∃ (x5_1 : Int), v5 = .int .i64 x5_1 ∧ Aside0 (0 ≤ x5_1 ∧ x5_1 ≤ l0.length ∧ l0.length - x5_1.toNat ≤ kq ∧ ∀ j, j < x5_1.toNat → lt23 (l0.getD j z23) ⟨a1_0, a1_1⟩) ∧ Aside0 (wr.heap[w.heap.size]? = some (.cells #[.int .i64 a1_0, .int .i64 a1_1] 23 (0, 0))) ∧ Aside0 (Below w.heap.size w wr))
  case atStart => exact ⟨0, rfl, ⟨by omega, by omega, by omega, fun j hj => by simp at hj⟩, ⟨heap_alloc_new w _⟩, ⟨(Below.refl _ _).alloc (Nat.le_refl _) _⟩⟩
  case round =>
    obtain ⟨x5_1, rfl, HX, BK212, HB⟩ := hrel
    have HRW : Aside0 (Kd.C k23 wr A0 l0.length l0) := ⟨Kd.C_below HR0.out HB.out⟩
    have GE212 := Aside0.mk (Nat.le_refl w.heap.size)
    have c5b0 : decide (0 ≤ x5_1) = true := decide_eq_true HX.out.1
    by_cases c4 : x5_1 < (l0.length : Int)
    · have c4b0 : decide (x5_1 < (l0.length : Int)) = true := decide_eq_true c4
      clear c4
      by_cases c6 : ((rd_T23 l0 x5_1).f0) < a1_0
      · have c6b0 : decide (((rd_T23 l0 x5_1).f0) < a1_0) = true := decide_eq_true c6
        have LT : Aside0 (lt23 (rd_T23 l0 x5_1) ⟨a1_0, a1_1⟩) := ⟨.inl c6⟩
        clear c6
        have p194 : 0 ≤ (x5_1 : Int) := of_decide_eq_true (by first | (with_reducible assumption) | assumption)
        have q194 : x5_1 < (l0.length : Int) := of_decide_eq_true (by first | (with_reducible assumption) | assumption)
        obtain ⟨ad194, e194, hx194_0, hx194_1⟩ := at_T23 HRW.out x5_1 p194 q194
        cases e194
        replace p194 := eq_true p194
        replace q194 := eq_true q194
        have hcz8_0 : wr.cell? ⟨w.heap.size, 0, none⟩ = some (.int .i64 a1_0) := (blk_cell BK212.out 0).trans rfl
        have hcz8_1 : wr.cell? ⟨w.heap.size, 1, none⟩ = some (.int .i64 a1_1) := (blk_cell BK212.out 1).trans rfl
        have hfz8_0 := blk_frozen BK212.out 0
        have hfz8_1 := blk_frozen BK212.out 1
        go_wp2
        repeat (go_quiet (fail); try go_wp2)
        go_roundg (l0.length - (x5_1 + 1).toNat)
        case measure => have h1_ := HX.out; have h2_ := of_eq_true q194; omega
        case rel => exact ⟨x5_1 + 1, by rw [wrapX (of_eq_true p194) (of_eq_true q194) HN.out], ⟨by have h1_ := HX.out; omega, by have h2_ := of_eq_true q194; omega, Nat.le_refl _, fun j hj => step_lt HX.out.2.2.2 HX.out.1 LT.out j hj⟩, ⟨by (with_reducible repeat (first | refine blk_drewN ?_ _ | refine blk_drew ?_ | refine blk_alloc ?_ _)); exact BK212.out⟩, ⟨by repeat (first | (with_reducible first | exact HB.out | apply below_alloc | apply pw_below_drewN | apply below_drew1) | exact HB.out)⟩⟩
      have c6b0 : decide (((rd_T23 l0 x5_1).f0) < a1_0) = false := decide_eq_false c6
      by_cases c9 : ((rd_T23 l0 x5_1).f0) = a1_0
      · have c9b0 : (((rd_T23 l0 x5_1).f0) == a1_0) = true := beq_iff_eq.mpr c9
        have c9b1 : (((rd_T23 l0 x5_1).f0) != a1_0) = false := bne_eq_false_iff_eq.mpr c9
        by_cases c10 : ((rd_T23 l0 x5_1).f1) > a1_1
        · have c10b0 : decide (a1_1 < ((rd_T23 l0 x5_1).f1)) = true := decide_eq_true c10
          have LT : Aside0 (lt23 (rd_T23 l0 x5_1) ⟨a1_0, a1_1⟩) := ⟨.inr ⟨c9, c10⟩⟩
          clear c6 c9 c10
          have p194 : 0 ≤ (x5_1 : Int) := of_decide_eq_true (by first | (with_reducible assumption) | assumption)
          have q194 : x5_1 < (l0.length : Int) := of_decide_eq_true (by first | (with_reducible assumption) | assumption)
          obtain ⟨ad194, e194, hx194_0, hx194_1⟩ := at_T23 HRW.out x5_1 p194 q194
          cases e194
          replace p194 := eq_true p194
          replace q194 := eq_true q194
          have hcz8_0 : wr.cell? ⟨w.heap.size, 0, none⟩ = some (.int .i64 a1_0) := (blk_cell BK212.out 0).trans rfl
          have hcz8_1 : wr.cell? ⟨w.heap.size, 1, none⟩ = some (.int .i64 a1_1) := (blk_cell BK212.out 1).trans rfl
          have hfz8_0 := blk_frozen BK212.out 0
          have hfz8_1 := blk_frozen BK212.out 1
          go_wp2
          repeat (go_quiet (fail); try go_wp2)
          go_roundg (l0.length - (x5_1 + 1).toNat)
          case measure => have h1_ := HX.out; have h2_ := of_eq_true q194; omega
          case rel => exact ⟨x5_1 + 1, by rw [wrapX (of_eq_true p194) (of_eq_true q194) HN.out], ⟨by have h1_ := HX.out; omega, by have h2_ := of_eq_true q194; omega, Nat.le_refl _, fun j hj => step_lt HX.out.2.2.2 HX.out.1 LT.out j hj⟩, ⟨by (with_reducible repeat (first | refine blk_drewN ?_ _ | refine blk_drew ?_ | refine blk_alloc ?_ _)); exact BK212.out⟩, ⟨by repeat (first | (with_reducible first | exact HB.out | apply below_alloc | apply pw_below_drewN | apply below_drew1) | exact HB.out)⟩⟩
        have c10b0 : decide (a1_1 < ((rd_T23 l0 x5_1).f1)) = false := decide_eq_false c10
        have GE : Aside0 (¬ lt23 (rd_T23 l0 x5_1) ⟨a1_0, a1_1⟩) := ⟨by unfold lt23; simp only; omega⟩
        by_cases c11 : ((rd_T23 l0 x5_1).f1) = a1_1
        · have c11b0 : (((rd_T23 l0 x5_1).f0) == a1_0 && (((rd_T23 l0 x5_1).f1) == a1_1)) = true := by simp [c9, c11]
          have c11b1 : (((rd_T23 l0 x5_1).f1) == a1_1) = true := beq_iff_eq.mpr c11
          have EQ : Aside0 (rd_T23 l0 x5_1 = ⟨a1_0, a1_1⟩) := ⟨S23_ext c9 c11⟩
          clear c6 c9 c10 c11
          have p194 : 0 ≤ (x5_1 : Int) := of_decide_eq_true (by first | (with_reducible assumption) | assumption)
          have q194 : x5_1 < (l0.length : Int) := of_decide_eq_true (by first | (with_reducible assumption) | assumption)
          obtain ⟨ad194, e194, hx194_0, hx194_1⟩ := at_T23 HRW.out x5_1 p194 q194
          cases e194
          replace p194 := eq_true p194
          replace q194 := eq_true q194
          have hcz8_0 : wr.cell? ⟨w.heap.size, 0, none⟩ = some (.int .i64 a1_0) := (blk_cell BK212.out 0).trans rfl
          have hcz8_1 : wr.cell? ⟨w.heap.size, 1, none⟩ = some (.int .i64 a1_1) := (blk_cell BK212.out 1).trans rfl
          have hfz8_0 := blk_frozen BK212.out 0
          have hfz8_1 := blk_frozen BK212.out 1
          go_wp2
          repeat (go_quiet (fail); try go_wp2)
          go_ret
          exact ⟨_, rfl, .inl ⟨rfl, ins_there l0 _ (x5_1 : Int).toNat (by have h1_ := of_eq_true q194; have h2_ := of_eq_true p194; omega) HX.out.2.2.2 EQ.out⟩, by repeat (first | (with_reducible first | exact HB.out | apply below_alloc | apply pw_below_drewN | apply below_drew1) | exact HB.out)⟩
        have c11b0 : (((rd_T23 l0 x5_1).f0) == a1_0 && (((rd_T23 l0 x5_1).f1) == a1_1)) = false := by simp [c11]
        have c11b1 : (((rd_T23 l0 x5_1).f1) == a1_1) = false := beq_eq_false_iff_ne.mpr c11
        have NE : Aside0 (¬ ((rd_T23 l0 x5_1).f0 = a1_0 ∧ (rd_T23 l0 x5_1).f1 = a1_1)) := ⟨fun h => c11 h.2⟩
        clear c6 c9 c10 c11
        have p194 : 0 ≤ (x5_1 : Int) := of_decide_eq_true (by first | (with_reducible assumption) | assumption)
        have q194 : x5_1 < (l0.length : Int) := of_decide_eq_true (by first | (with_reducible assumption) | assumption)
        obtain ⟨ad194, e194, hx194_0, hx194_1⟩ := at_T23 HRW.out x5_1 p194 q194
        cases e194
        replace p194 := eq_true p194
        replace q194 := eq_true q194
        have hcz8_0 : wr.cell? ⟨w.heap.size, 0, none⟩ = some (.int .i64 a1_0) := (blk_cell BK212.out 0).trans rfl
        have hcz8_1 : wr.cell? ⟨w.heap.size, 1, none⟩ = some (.int .i64 a1_1) := (blk_cell BK212.out 1).trans rfl
        have hfz8_0 := blk_frozen BK212.out 0
        have hfz8_1 := blk_frozen BK212.out 1
        go_wp2
        go_quiet (fail)
        replace BK212 := Aside0.mk (blk_drewN BK212.out nq)
        replace HB := Aside0.mk (pw_below_drewN HB.out nq)
        go_wp2
        go_quiet (fail)
        replace BK212 := Aside0.mk (blk_drewN BK212.out nq)
        replace HB := Aside0.mk (pw_below_drewN HB.out nq)
        go_wp2
        generalize World.drewN _ nq = w67 at BK212 HB ⊢
        replace BK212 := Aside0.mk (blk_drew BK212.out)
        replace HB := Aside0.mk (below_drew1 HB.out)
        obtain ⟨y264, hy264⟩ : ∃ y_ : List (S23), y_ = (l0.take (x5_1 : Int).toNat) := ⟨_, rfl⟩
        have Ny264 := Aside0.mk hy264
        have LMc61 : Aside0 (([] : List (S23)).length + y264.length < 8796093022208) := ⟨by rw [hy264, List.length_take, List.length_nil]; have h_ := HN.out; omega⟩
        obtain ⟨y268, hy268⟩ : ∃ y_ : List (S23), y_ = (([] : List (S23)) ++ y264) := ⟨_, rfl⟩
        have Ny268 := Aside0.mk hy268
        obtain ⟨y271, hy271⟩ : ∃ y_ : List (S23), y_ = (([(⟨a1_0, a1_1⟩ : S23)] : List (S23))) := ⟨_, rfl⟩
        have Ny271 := Aside0.mk hy271
        have LMc62 : Aside0 (y268.length + y271.length < 8796093022208) := ⟨by rw [hy268, hy271, hy264]; simp only [List.nil_append, List.length_take, List.length_cons, List.length_nil]; have h_ := HN.out; omega⟩
        obtain ⟨y274, hy274⟩ : ∃ y_ : List (S23), y_ = (y268 ++ y271) := ⟨_, rfl⟩
        have Ny274 := Aside0.mk hy274
        obtain ⟨y277, hy277⟩ : ∃ y_ : List (S23), y_ = (l0.drop (x5_1 : Int).toNat) := ⟨_, rfl⟩
        have Ny277 := Aside0.mk hy277
        have LMc65 : Aside0 (y274.length + y277.length < 8796093022208) := ⟨by rw [hy274, hy277, hy268, hy271, hy264]; simp only [List.nil_append, List.length_append, List.length_take, List.length_drop, List.length_cons, List.length_nil]; have h_ := HN.out; omega⟩
        obtain ⟨y281, hy281⟩ : ∃ y_ : List (S23), y_ = (y274 ++ y277) := ⟨_, rfl⟩
        have Ny281 := Aside0.mk hy281
        have HFIN : Aside0 (y281 = ins l0 ⟨a1_0, a1_1⟩) := ⟨by rw [hy281, hy274, hy277, hy268, hy271, hy264]; symm; exact (ins_mid l0 _ (x5_1 : Int).toNat (by have h1_ := of_eq_true q194; have h2_ := of_eq_true p194; omega) HX.out.2.2.2 GE.out NE.out |>.trans (by simp))⟩
        clear hy264 hy268 hy271 hy274 hy277 hy281
        have c60b1 : decide (x5_1 ≤ (l0.length : Int)) = true := decide_eq_true HX.out.2.1
        have q69 : (x5_1 : Int) ≤ ((l0.length : Int) : Int) := of_decide_eq_true (by first | (with_reducible assumption) | assumption)
        obtain ⟨i069, hi069, _, hsz69, _⟩ := info_parts info23
        have hroom69 : l0.length ≤ c0 := HC0.out
        have hC69 : Kd.C k23 _ (some ad194) l0.length l0 := HR0.out
        have hcut69 := cut_to (P := Try.prog) 28 23 .i64 Try.underlying28 hi069 (some ad194) l0.length c0 x5_1 (of_decide_eq_true (by first | (with_reducible assumption) | assumption)) q69 hroom69
        have hr69 := Kd.C_take (m := (x5_1 : Int).toNat) hC69 (by omega)
        have hy69 : y264.length = (x5_1 : Int).toNat := (by rw [Ny264.out, List.length_take]; omega)
        rw [← Ny264.out] at hr69
        rw [← hy69] at hcut69
        have HR267 := Aside0.mk hr69
        have HC267 := Aside0.mk (show y264.length ≤ c0 from by omega)
        clear hr69 hC69 hroom69 hi069 hsz69
        have KY69 := Aside0.mk hy69
        clear hy69
        replace q69 := eq_true q69
        have q70 : (x5_1 : Int) ≤ ((l0.length : Int) : Int) := of_decide_eq_true (by first | (with_reducible assumption) | assumption)
        obtain ⟨i070, hi070, _, hsz70, _⟩ := info_parts info23
        have hroom70 : l0.length ≤ c0 := HC0.out
        have hC70 : Kd.C k23 _ (some ad194) l0.length l0 := HR0.out
        have q070 : (0 : Int) ≤ (x5_1 : Int) := of_decide_eq_true (by first | (with_reducible assumption) | assumption)
        have hcut70 := cut_from (P := Try.prog) 28 23 .i64 Try.underlying28 hi070 2 hsz70 (some ad194) l0.length c0 x5_1 q070 q70
        have hr70 := Kd.C_drop (m := (x5_1 : Int).toNat) (c := c0) hC70 (by omega) hroom70
        obtain ⟨A70, hA70⟩ : ∃ A1, A1 = (if c0 = (x5_1 : Int).toNat then (some ad194) else ((some ad194) : Option Addr).map (·.add ((x5_1 : Int).toNat * 2))) := ⟨_, rfl⟩
        obtain ⟨c70, hc70⟩ : ∃ c1, c1 = c0 - (x5_1 : Int).toNat := ⟨_, rfl⟩
        have hy70 : y277.length = l0.length - (x5_1 : Int).toNat := (by rw [Ny277.out, List.length_drop] <;> omega)
        rw [show (l0).drop (x5_1 : Int).toNat = y277 from Ny277.out.symm] at hr70
        replace hr70 : Kd.C k23 _ A70 y277.length y277 := (by rw [hA70]; exact hr70)
        rw [← hy70, ← hA70, ← hc70] at hcut70
        have HR280 := Aside0.mk hr70
        have HC280 := Aside0.mk (show y277.length ≤ c70 from by rw [hy70, hc70]; exact Nat.sub_le_sub_right hroom70 _)
        clear hr70 hC70 hroom70 hi070 hsz70 hc70
        have KY70 := Aside0.mk hy70
        have KA70 := Aside0.mk hA70
        clear hy70 hA70
        replace q70 := eq_true q70
        refine start_ (n := 12) (S := fun w' => w'.cell? ⟨w.heap.size, 0, none⟩ = some (.int .i64 a1_0) ∧ w'.cell? ⟨w.heap.size, 1, none⟩ = some (.int .i64 a1_1)) (ds := []) #[false, false, false, false, false, false, false, false, false, false, false, false] (by kernel_rfl) rfl rfl ⟨(blk_cell BK212.out 0).trans rfl, (blk_cell BK212.out 1).trans rfl⟩ (fun hHeld => ?_); refine with_tabW corporaref11_insert.tab6 corporaref11_insert.bits6 (fun HT_ HW_ => ?_)
        generalize w67.drew = w68 at BK212 HB HR267 HR280 hHeld ⊢
        refine pure_ (i := 0) (N := some 55) (v := ?_) (a' := ?_) #[true, false, false, false, false, false, false, false, false, false, false, false] rfl rfl (any_of HT_.out (by kernel_rfl)) (fun _ _ _ h => h) (Or.inl ⟨by rfl, ?_⟩) ?_ ?_
        rotate_left
        · intro w'
          go_simp
          with_reducible rfl
        rotate_left
        · simp only [Act.put, List.setIfInBounds_toArray, List.set_cons_zero, List.set_cons_succ, i64_w, i32_w]
          rfl
        refine pure_ (i := 1) (N := some 56) (v := ?_) (a' := ?_) #[true, true, false, false, false, false, false, false, false, false, false, false] rfl rfl (any_of HT_.out (by kernel_rfl)) (fun _ _ _ h => h) (Or.inl ⟨by rfl, ?_⟩) ?_ ?_
        rotate_left
        · intro w'
          go_simp
          with_reducible rfl
        rotate_left
        · simp only [Act.put, List.setIfInBounds_toArray, List.set_cons_zero, List.set_cons_succ, i64_w, i32_w]
          rfl
        refine pure_ (i := 2) (N := some 57) (v := ?_) (a' := ?_) #[true, true, true, false, false, false, false, false, false, false, false, false] rfl rfl (any_of HT_.out (by kernel_rfl)) (fun _ _ _ h => h) (Or.inl ⟨by rfl, ?_⟩) ?_ ?_
        rotate_left
        · intro w'
          go_simp
          with_reducible rfl
        rotate_left
        · simp only [Act.put, List.setIfInBounds_toArray, List.set_cons_zero, List.set_cons_succ, i64_w, i32_w]
          rfl
        refine pure_ (i := 7) (N := some 62) (v := ?_) (a' := ?_) #[true, true, true, false, false, false, false, true, false, false, false, false] rfl rfl (any_of HT_.out (by kernel_rfl)) (fun _ _ _ h => h) (Or.inl ⟨by rfl, ?_⟩) ?_ ?_
        rotate_left
        · intro w'
          go_simp
          with_reducible rfl
        rotate_left
        · simp only [Act.put, List.setIfInBounds_toArray, List.set_cons_zero, List.set_cons_succ, i64_w, i32_w]
          rfl
        refine pure_ (i := 8) (N := some 63) (v := ?_) (a' := ?_) #[true, true, true, false, false, false, false, true, true, false, false, false] rfl rfl (any_of HT_.out (by kernel_rfl)) (fun _ _ _ h => h) (Or.inl ⟨by rfl, ?_⟩) ?_ ?_
        rotate_left
        · intro w'
          go_simp
          with_reducible rfl
        rotate_left
        · simp only [Act.put, List.setIfInBounds_toArray, List.set_cons_zero, List.set_cons_succ, i64_w, i32_w]
          rfl
        refine pure_ (i := 9) (N := some 64) (v := ?_) (a' := ?_) #[true, true, true, false, false, false, false, true, true, true, false, false] rfl rfl (any_of HT_.out (by kernel_rfl)) (fun _ _ _ h => h) (Or.inl ⟨by rfl, ?_⟩) ?_ ?_
        rotate_left
        · intro w'
          go_simp
          with_reducible rfl
        rotate_left
        · simp only [Act.put, List.setIfInBounds_toArray, List.set_cons_zero, List.set_cons_succ, i64_w, i32_w]
          rfl
        refine take_ (i := 4) (N := some 59) (v := ?_) (a' := ?_) #[true, true, true, false, true, false, false, true, true, true, false, false] rfl rfl (take_ofW HT_.out HW_.out (by kernel_rfl)) (fun _ _ _ h => h) (Or.inl ⟨by rfl, ?_⟩) hHeld ?_ ?_
        rotate_left
        · rintro w' ⟨s0, s1⟩
          go_simp
          with_reducible rfl
        rotate_left
        · simp only [Act.put, List.setIfInBounds_toArray, List.set_cons_zero, List.set_cons_succ, i64_w, i32_w]
          rfl
        refine join_ (σ := Value × Value) 3 #[true, true, true, true, true, true, false, true, true, true, false, false] (fun s_ => [(58, s_.1), (60, s_.2)]) (fun s_ w' => (w'.cell? ⟨w.heap.size, 0, none⟩ = some (.int .i64 a1_0) ∧ w'.cell? ⟨w.heap.size, 1, none⟩ = some (.int .i64 a1_1)) ∧ (Kd.R k23 23 w' w.heap.size (fun k_ => some k_ ≠ (s_.2 : Value).ownBlock ∧ k_ ≠ w.heap.size) s_.1 y268) ∧ (Kd.R k23 23 w' w.heap.size (fun k_ => some k_ ≠ (s_.1 : Value).ownBlock ∧ k_ ≠ w.heap.size) s_.2 y271) ∧ (w'.heap[w.heap.size]? = some (.cells #[.int .i64 a1_0, .int .i64 a1_1] 23 (0, 0))) ∧ (Below w.heap.size w w')) ?_ ?_
        rotate_left
        · intro hCont
          refine two_ (i := 3) (j := 5) (Ni := some 58) (Nj := some 60) #[true, true, true, true, true, false, false, true, true, true, false, false] #[true, true, true, false, true, true, false, true, true, true, false, false] rfl rfl rfl rfl (two_of HT_.out (by kernel_rfl)) (by decide) (by decide) (fun K hK => ?_) (fun K hK => ?_)
          · skip
            refine Kd.R_append_rows_step k23 (w0 := w) w.heap.size (by rfl) (.const (.slice none 0 0)) (.tmp 57) 28 23 (.agg #[(.int .i64 0), (.int .i64 0)]) 16 rfl Try.underlying28 info23 rfl (by decide) (by omega) (.slice none 0 0) ([] : List (S23)) y264 _ _ _ (fun k_ => k_ ≠ w.heap.size) (fun _ => False) rfl rfl ?aO ?aR (fun _ _ h => h) (fun _ h => h.elim) ?aF ?aB ?aS ?aL ?_
            (case aR => repeat (first | exact (Kd.C_below HR267.out HB.out) | (with_reducible refine Kd.C_alloc ?_ _) | (with_reducible refine Kd.C_drewN ?_ _) | (with_reducible refine Kd.C_drew ?_)))
            (case aB => exact (by repeat (first | (with_reducible first | exact HB.out | apply below_alloc | apply pw_below_drewN | apply below_drew1 | refine below_set ?_ GE212.out) | exact HB.out)))
            (case aF => exact (fun k_ hk => Kd.freshB (g := w.heap.size) (o := .cells #[.int .i64 a1_0, .int .i64 a1_1] 23 (0, 0)) (by (with_reducible repeat (first | refine blk_drewN ?_ _ | refine blk_drew ?_ | refine blk_alloc ?_ _)); exact BK212.out) k_ hk))
            (case aO => exact ((Kd.R_nil _ _ _ _ (fun k_ => k_ ≠ w.heap.size))))
            (case aS => exact (below_size (by repeat (first | (with_reducible first | exact HB.out | apply below_alloc | apply pw_below_drewN | apply below_drew1 | refine below_set ?_ GE212.out) | exact HB.out))))
            (case aL => have := LMc61.out; omega)
            intro v269 w71 ho hb hg hat
            rw [← Ny268.out] at ho
            have n0_ := Aside0.mk (blk_grown (g := w.heap.size) (o := .cells #[.int .i64 a1_0, .int .i64 a1_1] 23 (0, 0)) (by (with_reducible repeat (first | refine blk_drewN ?_ _ | refine blk_drew ?_ | refine blk_alloc ?_ _)); exact BK212.out) hg (by simp [Value.ownBlock]))
            have n1_ := Aside0.mk (hb)
            have n2_ := Aside0.mk (ho)
            clear BK212
            clear HB
            have BK212 := n0_
            have HB := n1_
            have HO270 := n2_
            clear n0_ n1_ n2_
            clear ho hb hg hat
            refine hK.out _ _ ⟨(blk_cell BK212.out 0).trans rfl, (blk_cell BK212.out 1).trans rfl⟩ (fun hHeld => ?_)
            clear hK K
            refine norm_ (a' := ?_) ?_ ?_
            rotate_left
            · show Act.put _ (some 58) _ = _
              simp only [Act.put, List.setIfInBounds_toArray, List.set_cons_zero, List.set_cons_succ, i64_w, i32_w]
              rfl
            refine one_ (i := 5) (N := some 60) #[true, true, true, true, true, true, false, true, true, true, false, false] rfl rfl (one_of HT_.out (by kernel_rfl)) (by decide) (fun K hK => ?_)
            refine Kd.R_lit_step k23 _ 23 ?hg (N := 60) ?hd (xs := ([(⟨a1_0, a1_1⟩ : S23)] : List (S23))) (inner := [.int .i64 a1_0, .int .i64 a1_1]) (ok := fun _ => True) (okp := fun _ => True) ?hr ?hp (fun _ hk => hk) trivial (Below.refl _ _) (Nat.le_refl _) (by simp) ?_; (case hd => rfl); (case hg => rfl); (case hr => first | (go_simp; done) | (go_simp; rfl)); (case hp => exact (Reps.c2 (show Kd.M k23 _ _ _ (⟨a1_0, a1_1⟩ : S23) [.int .i64 a1_0, .int .i64 a1_1] from (k23_mkM _ _ _ (⟨a1_0, a1_1⟩ : S23) )) (Reps.none _ _)))
            intro v272 w72 ho73 hb hg_ hnew_
            clear hg_ hnew_
            (first | rw [← Ny271.out] at ho73 | (simp only [Int.reduceToNat] at ho73; rw [← Ny271.out] at ho73))
            have n0_ := Aside0.mk (Kd.R_elder' (by (with_reducible repeat (first | apply Kd.R_alloc | apply Kd.R_drewN | apply Kd.R_drew)); exact HO270.out) (Kd.R_base ho73) hb)
            have n1_ := Aside0.mk (Kd.R_lower (Kd.R_newB (Kd.R_new' ho73 (Kd.R_lt (by (with_reducible repeat (first | apply Kd.R_alloc | apply Kd.R_drewN | apply Kd.R_drew)); exact HO270.out))) (g := w.heap.size) (o := .cells #[.int .i64 a1_0, .int .i64 a1_1] 23 (0, 0)) (by (with_reducible repeat (first | refine blk_drewN ?_ _ | refine blk_drew ?_ | refine blk_alloc ?_ _)); exact BK212.out)) (below_size (by repeat (first | (with_reducible first | exact HB.out | apply below_alloc | apply pw_below_drewN | apply below_drew1 | refine below_set ?_ GE212.out) | exact HB.out))))
            have n2_ := Aside0.mk (blk_below (g := w.heap.size) (o := .cells #[.int .i64 a1_0, .int .i64 a1_1] 23 (0, 0)) (by (with_reducible repeat (first | refine blk_drewN ?_ _ | refine blk_drew ?_ | refine blk_alloc ?_ _)); exact BK212.out) hb)
            have n3_ := Aside0.mk (below_step (by repeat (first | (with_reducible first | exact HB.out | apply below_alloc | apply pw_below_drewN | apply below_drew1 | refine below_set ?_ GE212.out) | exact HB.out)) hb)
            clear HO270
            clear BK212
            clear HB
            have HO270 := n0_
            have HO273 := n1_
            have BK212 := n2_
            have HB := n3_
            clear n0_ n1_ n2_ n3_
            clear hb ho73
            refine hK.out _ _ ⟨(blk_cell BK212.out 0).trans rfl, (blk_cell BK212.out 1).trans rfl⟩ (fun hHeld => ?_)
            clear hK K
            refine norm_ (a' := ?_) ?_ ?_
            rotate_left
            · show Act.put _ (some 60) _ = _
              simp only [Act.put, List.setIfInBounds_toArray, List.set_cons_zero, List.set_cons_succ, i64_w, i32_w]
              rfl
            exact norm_ (by simp only [putAll, Act.put, List.setIfInBounds_toArray, List.set_cons_zero, List.set_cons_succ]) (hCont (v269, v272) _ ⟨hHeld, (by (with_reducible repeat (first | apply Kd.R_alloc | apply Kd.R_drewN | apply Kd.R_drew)); exact Kd.R_mono HO270.out (fun _ hk => ⟨hk.2, hk.1⟩)), (by (with_reducible repeat (first | apply Kd.R_alloc | apply Kd.R_drewN | apply Kd.R_drew)); exact Kd.R_mono HO273.out (fun _ hk => ⟨hk.1.2, hk.2⟩)), (by (with_reducible repeat (first | refine blk_drewN ?_ _ | refine blk_drew ?_ | refine blk_alloc ?_ _)); exact BK212.out), (by repeat (first | (with_reducible first | exact HB.out | apply below_alloc | apply pw_below_drewN | apply below_drew1 | refine below_set ?_ GE212.out) | exact HB.out))⟩)
          skip
          refine Kd.R_lit_step k23 _ 23 ?hg (N := 60) ?hd (xs := ([(⟨a1_0, a1_1⟩ : S23)] : List (S23))) (inner := [.int .i64 a1_0, .int .i64 a1_1]) (ok := fun _ => True) (okp := fun _ => True) ?hr ?hp (fun _ hk => hk) trivial (Below.refl _ _) (Nat.le_refl _) (by simp) ?_; (case hd => rfl); (case hg => rfl); (case hr => first | (go_simp; done) | (go_simp; rfl)); (case hp => exact (Reps.c2 (show Kd.M k23 _ _ _ (⟨a1_0, a1_1⟩ : S23) [.int .i64 a1_0, .int .i64 a1_1] from (k23_mkM _ _ _ (⟨a1_0, a1_1⟩ : S23) )) (Reps.none _ _)))
          intro v272 w71 ho72 hb hg_ hnew_
          clear hg_ hnew_
          (first | rw [← Ny271.out] at ho72 | (simp only [Int.reduceToNat] at ho72; rw [← Ny271.out] at ho72))
          have n0_ := Aside0.mk (Kd.R_lower (Kd.R_newB ho72 (g := w.heap.size) (o := .cells #[.int .i64 a1_0, .int .i64 a1_1] 23 (0, 0)) (by (with_reducible repeat (first | refine blk_drewN ?_ _ | refine blk_drew ?_ | refine blk_alloc ?_ _)); exact BK212.out)) (below_size (by repeat (first | (with_reducible first | exact HB.out | apply below_alloc | apply pw_below_drewN | apply below_drew1 | refine below_set ?_ GE212.out) | exact HB.out))))
          have n1_ := Aside0.mk (blk_below (g := w.heap.size) (o := .cells #[.int .i64 a1_0, .int .i64 a1_1] 23 (0, 0)) (by (with_reducible repeat (first | refine blk_drewN ?_ _ | refine blk_drew ?_ | refine blk_alloc ?_ _)); exact BK212.out) hb)
          have n2_ := Aside0.mk (below_step (by repeat (first | (with_reducible first | exact HB.out | apply below_alloc | apply pw_below_drewN | apply below_drew1 | refine below_set ?_ GE212.out) | exact HB.out)) hb)
          clear BK212
          clear HB
          have HO273 := n0_
          have BK212 := n1_
          have HB := n2_
          clear n0_ n1_ n2_
          clear hb ho72
          refine hK.out _ _ ⟨(blk_cell BK212.out 0).trans rfl, (blk_cell BK212.out 1).trans rfl⟩ (fun hHeld => ?_)
          clear hK K
          refine norm_ (a' := ?_) ?_ ?_
          rotate_left
          · show Act.put _ (some 60) _ = _
            simp only [Act.put, List.setIfInBounds_toArray, List.set_cons_zero, List.set_cons_succ, i64_w, i32_w]
            rfl
          refine one_ (i := 3) (N := some 58) #[true, true, true, true, true, true, false, true, true, true, false, false] rfl rfl (one_of HT_.out (by kernel_rfl)) (by decide) (fun K hK => ?_)
          refine Kd.R_append_rows_step k23 (w0 := w) w.heap.size (by rfl) (.const (.slice none 0 0)) (.tmp 57) 28 23 (.agg #[(.int .i64 0), (.int .i64 0)]) 16 rfl Try.underlying28 info23 rfl (by decide) (by omega) (.slice none 0 0) ([] : List (S23)) y264 _ _ _ (fun k_ => some k_ ≠ (v272 : Value).ownBlock ∧ k_ ≠ w.heap.size) (fun _ => False) rfl rfl ?aO ?aR (fun _ _ h => h) (fun _ h => h.elim) ?aF ?aB ?aS ?aL ?_
          (case aR => repeat (first | exact (Kd.C_below HR267.out HB.out) | (with_reducible refine Kd.C_alloc ?_ _) | (with_reducible refine Kd.C_drewN ?_ _) | (with_reducible refine Kd.C_drew ?_)))
          (case aB => exact (by repeat (first | (with_reducible first | exact HB.out | apply below_alloc | apply pw_below_drewN | apply below_drew1 | refine below_set ?_ GE212.out) | exact HB.out)))
          (case aF => exact (fun k_ hk => ⟨Kd.fresh' (Kd.R_lt (by (with_reducible repeat (first | apply Kd.R_alloc | apply Kd.R_drewN | apply Kd.R_drew)); exact HO273.out)) k_ hk, Kd.freshB (g := w.heap.size) (o := .cells #[.int .i64 a1_0, .int .i64 a1_1] 23 (0, 0)) (by (with_reducible repeat (first | refine blk_drewN ?_ _ | refine blk_drew ?_ | refine blk_alloc ?_ _)); exact BK212.out) k_ hk⟩))
          (case aO => exact ((Kd.R_nil _ _ _ _ (fun k_ => some k_ ≠ (v272 : Value).ownBlock ∧ k_ ≠ w.heap.size))))
          (case aS => exact (below_size (by repeat (first | (with_reducible first | exact HB.out | apply below_alloc | apply pw_below_drewN | apply below_drew1 | refine below_set ?_ GE212.out) | exact HB.out))))
          (case aL => have := LMc61.out; omega)
          intro v269 w73 ho hb hg hat
          rw [← Ny268.out] at ho
          have n0_ := Aside0.mk (blk_grown (g := w.heap.size) (o := .cells #[.int .i64 a1_0, .int .i64 a1_1] 23 (0, 0)) (by (with_reducible repeat (first | refine blk_drewN ?_ _ | refine blk_drew ?_ | refine blk_alloc ?_ _)); exact BK212.out) hg (by simp [Value.ownBlock]))
          have n1_ := Aside0.mk (Kd.R_after (Kd.R_apart_nil (by (with_reducible repeat (first | apply Kd.R_alloc | apply Kd.R_drewN | apply Kd.R_drew)); exact HO273.out)) hg hat)
          have n2_ := Aside0.mk (hb)
          have n3_ := Aside0.mk (ho)
          clear BK212
          clear HO273
          clear HB
          have BK212 := n0_
          have HO273 := n1_
          have HB := n2_
          have HO270 := n3_
          clear n0_ n1_ n2_ n3_
          clear ho hb hg hat
          refine hK.out _ _ ⟨(blk_cell BK212.out 0).trans rfl, (blk_cell BK212.out 1).trans rfl⟩ (fun hHeld => ?_)
          clear hK K
          refine norm_ (a' := ?_) ?_ ?_
          rotate_left
          · show Act.put _ (some 58) _ = _
            simp only [Act.put, List.setIfInBounds_toArray, List.set_cons_zero, List.set_cons_succ, i64_w, i32_w]
            rfl
          exact norm_ (by simp only [putAll, Act.put, List.setIfInBounds_toArray, List.set_cons_zero, List.set_cons_succ]) (hCont (v269, v272) _ ⟨hHeld, (by (with_reducible repeat (first | apply Kd.R_alloc | apply Kd.R_drewN | apply Kd.R_drew)); exact HO270.out), (by (with_reducible repeat (first | apply Kd.R_alloc | apply Kd.R_drewN | apply Kd.R_drew)); exact Kd.R_mono HO273.out (fun _ hk => ⟨hk.2, hk.1.2⟩)), (by (with_reducible repeat (first | refine blk_drewN ?_ _ | refine blk_drew ?_ | refine blk_alloc ?_ _)); exact BK212.out), (by repeat (first | (with_reducible first | exact HB.out | apply below_alloc | apply pw_below_drewN | apply below_drew1 | refine below_set ?_ GE212.out) | exact HB.out))⟩)
        rintro ⟨v269, v272⟩ w74 ⟨hS_, h0_, h1_, h2_, h3_⟩
        have n0_ : Aside0 (Kd.R k23 23 w74 w.heap.size (fun k_ => some k_ ≠ (v272 : Value).ownBlock ∧ k_ ≠ w.heap.size) v269 y268) := ⟨h0_⟩
        have n1_ : Aside0 (Kd.R k23 23 w74 w.heap.size (fun k_ => some k_ ≠ (v269 : Value).ownBlock ∧ k_ ≠ w.heap.size) v272 y271) := ⟨h1_⟩
        have n2_ : Aside0 (w74.heap[w.heap.size]? = some (.cells #[.int .i64 a1_0, .int .i64 a1_1] 23 (0, 0))) := ⟨h2_⟩
        have n3_ : Aside0 (Below w.heap.size w w74) := ⟨h3_⟩
        clear BK212
        clear HB
        clear h0_ h1_ h2_ h3_
        have HO270 := n0_
        have HO273 := n1_
        have BK212 := n2_
        have HB := n3_
        clear n0_ n1_ n2_ n3_
        have hHeld : w74.cell? ⟨w.heap.size, 0, none⟩ = some (.int .i64 a1_0) ∧ w74.cell? ⟨w.heap.size, 1, none⟩ = some (.int .i64 a1_1) := hS_
        obtain ⟨Ao76, co76, eo76⟩ := Kd.R_slice HO273.out
        (first | subst eo76 | (injection eo76 with f1_ f2_ f3_; have f4_ := f1_.symm; have f5_ := f3_.symm; clear f1_ f2_ f3_; subst f4_; subst f5_))
        refine norm_ (a' := ?_) ?_ ?_
        rotate_left
        · simp only [putAll, Act.put, List.setIfInBounds_toArray, List.set_cons_zero, List.set_cons_succ]
          rfl
        refine one_ (i := 6) (N := some 61) #[true, true, true, true, true, true, true, true, true, true, false, false] rfl rfl (one_of HT_.out (by kernel_rfl)) (by decide) (fun K hK => ?_)
        refine Kd.R_append_rows_step k23 (w0 := w) w.heap.size (by rfl) (.tmp 58) (.tmp 60) 28 23 (.agg #[(.int .i64 0), (.int .i64 0)]) 16 rfl Try.underlying28 info23 rfl (by decide) (by omega) v269 y268 y271 _ _ _ (fun k_ => some k_ ≠ (.slice Ao76 y271.length co76 : Value).ownBlock ∧ k_ ≠ w.heap.size) (fun _ => False) rfl rfl ?aO ?aR (fun _ _ h => h) (fun _ h => h.elim) ?aF ?aB ?aS ?aL ?_
        (case aR => repeat (first | exact (Kd.R_reads' HO273.out).2.2 | (with_reducible refine Kd.C_alloc ?_ _) | (with_reducible refine Kd.C_drewN ?_ _) | (with_reducible refine Kd.C_drew ?_)))
        (case aB => exact (by repeat (first | (with_reducible first | exact HB.out | apply below_alloc | apply pw_below_drewN | apply below_drew1 | refine below_set ?_ GE212.out) | exact HB.out)))
        (case aF => exact (fun k_ hk => ⟨Kd.fresh' (Kd.R_lt (by (with_reducible repeat (first | apply Kd.R_alloc | apply Kd.R_drewN | apply Kd.R_drew)); exact HO273.out)) k_ hk, Kd.freshB (g := w.heap.size) (o := .cells #[.int .i64 a1_0, .int .i64 a1_1] 23 (0, 0)) (by (with_reducible repeat (first | refine blk_drewN ?_ _ | refine blk_drew ?_ | refine blk_alloc ?_ _)); exact BK212.out) k_ hk⟩))
        (case aO => exact (by (with_reducible repeat (first | apply Kd.R_alloc | apply Kd.R_drewN | apply Kd.R_drew)); exact HO270.out))
        (case aS => exact (below_size (by repeat (first | (with_reducible first | exact HB.out | apply below_alloc | apply pw_below_drewN | apply below_drew1 | refine below_set ?_ GE212.out) | exact HB.out))))
        (case aL => have := LMc62.out; omega)
        intro v275 w75 ho hb hg hat
        rw [← Ny274.out] at ho
        have n0_ := Aside0.mk (blk_grown (g := w.heap.size) (o := .cells #[.int .i64 a1_0, .int .i64 a1_1] 23 (0, 0)) (by (with_reducible repeat (first | refine blk_drewN ?_ _ | refine blk_drew ?_ | refine blk_alloc ?_ _)); exact BK212.out) hg (Kd.R_away HO270.out (fun _ hk => hk.2)))
        have n1_ := Aside0.mk (Kd.R_after (ok := (fun k_ => k_ ≠ w.heap.size)) (by (with_reducible repeat (first | apply Kd.R_alloc | apply Kd.R_drewN | apply Kd.R_drew)); exact Kd.R_mono HO273.out (fun _ hk => ⟨hk.2, hk.1⟩)) hg hat)
        have n2_ := Aside0.mk (hb)
        have n3_ := Aside0.mk (ho)
        clear BK212
        clear HO273
        clear HB
        clear HO270
        have BK212 := n0_
        have HO273 := n1_
        have HB := n2_
        have HO276 := n3_
        clear n0_ n1_ n2_ n3_
        clear ho hb hg hat
        refine hK.out _ _ ⟨(blk_cell BK212.out 0).trans rfl, (blk_cell BK212.out 1).trans rfl⟩ (fun hHeld => ?_)
        clear hK K
        refine norm_ (a' := ?_) ?_ ?_
        rotate_left
        · show Act.put _ (some 61) _ = _
          simp only [Act.put, List.setIfInBounds_toArray, List.set_cons_zero, List.set_cons_succ, i64_w, i32_w]
          rfl
        refine one_ (i := 10) (N := some 65) #[true, true, true, true, true, true, true, true, true, true, true, false] rfl rfl (one_of HT_.out (by kernel_rfl)) (by decide) (fun K hK => ?_)
        refine Kd.R_append_rows_step k23 (w0 := w) w.heap.size (by rfl) (.tmp 61) (.tmp 64) 28 23 (.agg #[(.int .i64 0), (.int .i64 0)]) 16 rfl Try.underlying28 info23 rfl (by decide) (by omega) v275 y274 y277 _ _ _ (fun k_ => some k_ ≠ (.slice Ao76 y271.length co76 : Value).ownBlock ∧ k_ ≠ w.heap.size) (fun _ => False) rfl rfl ?aO ?aR (fun _ _ h => h) (fun _ h => h.elim) ?aF ?aB ?aS ?aL ?_
        (case aR => repeat (first | exact (Kd.C_below HR280.out HB.out) | (with_reducible refine Kd.C_alloc ?_ _) | (with_reducible refine Kd.C_drewN ?_ _) | (with_reducible refine Kd.C_drew ?_)))
        (case aB => exact (by repeat (first | (with_reducible first | exact HB.out | apply below_alloc | apply pw_below_drewN | apply below_drew1 | refine below_set ?_ GE212.out) | exact HB.out)))
        (case aF => exact (fun k_ hk => ⟨Kd.fresh' (Kd.R_lt (by (with_reducible repeat (first | apply Kd.R_alloc | apply Kd.R_drewN | apply Kd.R_drew)); exact HO273.out)) k_ hk, Kd.freshB (g := w.heap.size) (o := .cells #[.int .i64 a1_0, .int .i64 a1_1] 23 (0, 0)) (by (with_reducible repeat (first | refine blk_drewN ?_ _ | refine blk_drew ?_ | refine blk_alloc ?_ _)); exact BK212.out) k_ hk⟩))
        (case aO => exact (by (with_reducible repeat (first | apply Kd.R_alloc | apply Kd.R_drewN | apply Kd.R_drew)); exact HO276.out))
        (case aS => exact (below_size (by repeat (first | (with_reducible first | exact HB.out | apply below_alloc | apply pw_below_drewN | apply below_drew1 | refine below_set ?_ GE212.out) | exact HB.out))))
        (case aL => have := LMc65.out; omega)
        intro v282 w77 ho hb hg hat
        rw [← Ny281.out] at ho
        have n0_ := Aside0.mk (blk_grown (g := w.heap.size) (o := .cells #[.int .i64 a1_0, .int .i64 a1_1] 23 (0, 0)) (by (with_reducible repeat (first | refine blk_drewN ?_ _ | refine blk_drew ?_ | refine blk_alloc ?_ _)); exact BK212.out) hg (Kd.R_away HO276.out (fun _ hk => hk.2)))
        have n1_ := Aside0.mk (Kd.R_after (ok := (fun k_ => k_ ≠ w.heap.size)) (by (with_reducible repeat (first | apply Kd.R_alloc | apply Kd.R_drewN | apply Kd.R_drew)); exact HO273.out) hg hat)
        have n2_ := Aside0.mk (hb)
        have n3_ := Aside0.mk (ho)
        clear BK212
        clear HO273
        clear HB
        clear HO276
        have BK212 := n0_
        have HO273 := n1_
        have HB := n2_
        have HO283 := n3_
        clear n0_ n1_ n2_ n3_
        clear ho hb hg hat
        refine hK.out _ _ ⟨(blk_cell BK212.out 0).trans rfl, (blk_cell BK212.out 1).trans rfl⟩ (fun hHeld => ?_)
        clear hK K
        refine norm_ (a' := ?_) ?_ ?_
        rotate_left
        · show Act.put _ (some 65) _ = _
          simp only [Act.put, List.setIfInBounds_toArray, List.set_cons_zero, List.set_cons_succ, i64_w, i32_w]
          rfl
        refine pure_ (i := 11) (N := some 4) (v := ?_) (a' := ?_) #[true, true, true, true, true, true, true, true, true, true, true, true] rfl rfl (any_of HT_.out (by kernel_rfl)) (fun _ _ _ h => h) (Or.inl ⟨by rfl, ?_⟩) ?_ ?_
        rotate_left
        · intro w'
          go_simp
          with_reducible rfl
        rotate_left
        · simp only [Act.put, List.setIfInBounds_toArray, List.set_cons_zero, List.set_cons_succ, i64_w, i32_w]
          rfl
        refine done_ (done_of HT_.out (by kernel_rfl)) ?_
        try go_wp2
        go_ret
        exact ⟨_, rfl, .inr (HFIN.out ▸ Kd.R_mono HO283.out (fun _ hk => trivial)), HB.out⟩
      have c9b0 : (((rd_T23 l0 x5_1).f0) == a1_0) = false := beq_eq_false_iff_ne.mpr c9
      have c9b1 : (((rd_T23 l0 x5_1).f0) != a1_0) = true := bne_iff_ne.mpr c9
      have c11b0 : (((rd_T23 l0 x5_1).f0) == a1_0 && (((rd_T23 l0 x5_1).f1) == a1_1)) = false := by simp [c9]
      have GE : Aside0 (¬ lt23 (rd_T23 l0 x5_1) ⟨a1_0, a1_1⟩) := ⟨by unfold lt23; simp only; omega⟩
      have NE : Aside0 (¬ ((rd_T23 l0 x5_1).f0 = a1_0 ∧ (rd_T23 l0 x5_1).f1 = a1_1)) := ⟨fun h => c9 h.1⟩
      clear c6 c9
      have p194 : 0 ≤ (x5_1 : Int) := of_decide_eq_true (by first | (with_reducible assumption) | assumption)
      have q194 : x5_1 < (l0.length : Int) := of_decide_eq_true (by first | (with_reducible assumption) | assumption)
      obtain ⟨ad194, e194, hx194_0, hx194_1⟩ := at_T23 HRW.out x5_1 p194 q194
      cases e194
      replace p194 := eq_true p194
      replace q194 := eq_true q194
      have hcz8_0 : wr.cell? ⟨w.heap.size, 0, none⟩ = some (.int .i64 a1_0) := (blk_cell BK212.out 0).trans rfl
      have hcz8_1 : wr.cell? ⟨w.heap.size, 1, none⟩ = some (.int .i64 a1_1) := (blk_cell BK212.out 1).trans rfl
      have hfz8_0 := blk_frozen BK212.out 0
      have hfz8_1 := blk_frozen BK212.out 1
      go_wp2
      go_quiet (fail)
      replace BK212 := Aside0.mk (blk_drewN BK212.out nq)
      replace HB := Aside0.mk (pw_below_drewN HB.out nq)
      go_wp2
      go_quiet (fail)
      replace BK212 := Aside0.mk (blk_drewN BK212.out nq)
      replace HB := Aside0.mk (pw_below_drewN HB.out nq)
      go_wp2
      generalize World.drewN _ nq = w67 at BK212 HB ⊢
      replace BK212 := Aside0.mk (blk_drew BK212.out)
      replace HB := Aside0.mk (below_drew1 HB.out)
      obtain ⟨y264, hy264⟩ : ∃ y_ : List (S23), y_ = (l0.take (x5_1 : Int).toNat) := ⟨_, rfl⟩
      have Ny264 := Aside0.mk hy264
      have LMc61 : Aside0 (([] : List (S23)).length + y264.length < 8796093022208) := ⟨by rw [hy264, List.length_take, List.length_nil]; have h_ := HN.out; omega⟩
      obtain ⟨y268, hy268⟩ : ∃ y_ : List (S23), y_ = (([] : List (S23)) ++ y264) := ⟨_, rfl⟩
      have Ny268 := Aside0.mk hy268
      obtain ⟨y271, hy271⟩ : ∃ y_ : List (S23), y_ = (([(⟨a1_0, a1_1⟩ : S23)] : List (S23))) := ⟨_, rfl⟩
      have Ny271 := Aside0.mk hy271
      have LMc62 : Aside0 (y268.length + y271.length < 8796093022208) := ⟨by rw [hy268, hy271, hy264]; simp only [List.nil_append, List.length_take, List.length_cons, List.length_nil]; have h_ := HN.out; omega⟩
      obtain ⟨y274, hy274⟩ : ∃ y_ : List (S23), y_ = (y268 ++ y271) := ⟨_, rfl⟩
      have Ny274 := Aside0.mk hy274
      obtain ⟨y277, hy277⟩ : ∃ y_ : List (S23), y_ = (l0.drop (x5_1 : Int).toNat) := ⟨_, rfl⟩
      have Ny277 := Aside0.mk hy277
      have LMc65 : Aside0 (y274.length + y277.length < 8796093022208) := ⟨by rw [hy274, hy277, hy268, hy271, hy264]; simp only [List.nil_append, List.length_append, List.length_take, List.length_drop, List.length_cons, List.length_nil]; have h_ := HN.out; omega⟩
      obtain ⟨y281, hy281⟩ : ∃ y_ : List (S23), y_ = (y274 ++ y277) := ⟨_, rfl⟩
      have Ny281 := Aside0.mk hy281
      have HFIN : Aside0 (y281 = ins l0 ⟨a1_0, a1_1⟩) := ⟨by rw [hy281, hy274, hy277, hy268, hy271, hy264]; symm; exact (ins_mid l0 _ (x5_1 : Int).toNat (by have h1_ := of_eq_true q194; have h2_ := of_eq_true p194; omega) HX.out.2.2.2 GE.out NE.out |>.trans (by simp))⟩
      clear hy264 hy268 hy271 hy274 hy277 hy281
      have c60b1 : decide (x5_1 ≤ (l0.length : Int)) = true := decide_eq_true HX.out.2.1
      have q69 : (x5_1 : Int) ≤ ((l0.length : Int) : Int) := of_decide_eq_true (by first | (with_reducible assumption) | assumption)
      obtain ⟨i069, hi069, _, hsz69, _⟩ := info_parts info23
      have hroom69 : l0.length ≤ c0 := HC0.out
      have hC69 : Kd.C k23 _ (some ad194) l0.length l0 := HR0.out
      have hcut69 := cut_to (P := Try.prog) 28 23 .i64 Try.underlying28 hi069 (some ad194) l0.length c0 x5_1 (of_decide_eq_true (by first | (with_reducible assumption) | assumption)) q69 hroom69
      have hr69 := Kd.C_take (m := (x5_1 : Int).toNat) hC69 (by omega)
      have hy69 : y264.length = (x5_1 : Int).toNat := (by rw [Ny264.out, List.length_take]; omega)
      rw [← Ny264.out] at hr69
      rw [← hy69] at hcut69
      have HR267 := Aside0.mk hr69
      have HC267 := Aside0.mk (show y264.length ≤ c0 from by omega)
      clear hr69 hC69 hroom69 hi069 hsz69
      have KY69 := Aside0.mk hy69
      clear hy69
      replace q69 := eq_true q69
      have q70 : (x5_1 : Int) ≤ ((l0.length : Int) : Int) := of_decide_eq_true (by first | (with_reducible assumption) | assumption)
      obtain ⟨i070, hi070, _, hsz70, _⟩ := info_parts info23
      have hroom70 : l0.length ≤ c0 := HC0.out
      have hC70 : Kd.C k23 _ (some ad194) l0.length l0 := HR0.out
      have q070 : (0 : Int) ≤ (x5_1 : Int) := of_decide_eq_true (by first | (with_reducible assumption) | assumption)
      have hcut70 := cut_from (P := Try.prog) 28 23 .i64 Try.underlying28 hi070 2 hsz70 (some ad194) l0.length c0 x5_1 q070 q70
      have hr70 := Kd.C_drop (m := (x5_1 : Int).toNat) (c := c0) hC70 (by omega) hroom70
      obtain ⟨A70, hA70⟩ : ∃ A1, A1 = (if c0 = (x5_1 : Int).toNat then (some ad194) else ((some ad194) : Option Addr).map (·.add ((x5_1 : Int).toNat * 2))) := ⟨_, rfl⟩
      obtain ⟨c70, hc70⟩ : ∃ c1, c1 = c0 - (x5_1 : Int).toNat := ⟨_, rfl⟩
      have hy70 : y277.length = l0.length - (x5_1 : Int).toNat := (by rw [Ny277.out, List.length_drop] <;> omega)
      rw [show (l0).drop (x5_1 : Int).toNat = y277 from Ny277.out.symm] at hr70
      replace hr70 : Kd.C k23 _ A70 y277.length y277 := (by rw [hA70]; exact hr70)
      rw [← hy70, ← hA70, ← hc70] at hcut70
      have HR280 := Aside0.mk hr70
      have HC280 := Aside0.mk (show y277.length ≤ c70 from by rw [hy70, hc70]; exact Nat.sub_le_sub_right hroom70 _)
      clear hr70 hC70 hroom70 hi070 hsz70 hc70
      have KY70 := Aside0.mk hy70
      have KA70 := Aside0.mk hA70
      clear hy70 hA70
      replace q70 := eq_true q70
      refine start_ (n := 12) (S := fun w' => w'.cell? ⟨w.heap.size, 0, none⟩ = some (.int .i64 a1_0) ∧ w'.cell? ⟨w.heap.size, 1, none⟩ = some (.int .i64 a1_1)) (ds := []) #[false, false, false, false, false, false, false, false, false, false, false, false] (by kernel_rfl) rfl rfl ⟨(blk_cell BK212.out 0).trans rfl, (blk_cell BK212.out 1).trans rfl⟩ (fun hHeld => ?_); refine with_tabW corporaref11_insert.tab6 corporaref11_insert.bits6 (fun HT_ HW_ => ?_)
      generalize w67.drew = w68 at BK212 HB HR267 HR280 hHeld ⊢
      refine pure_ (i := 0) (N := some 55) (v := ?_) (a' := ?_) #[true, false, false, false, false, false, false, false, false, false, false, false] rfl rfl (any_of HT_.out (by kernel_rfl)) (fun _ _ _ h => h) (Or.inl ⟨by rfl, ?_⟩) ?_ ?_
      rotate_left
      · intro w'
        go_simp
        with_reducible rfl
      rotate_left
      · simp only [Act.put, List.setIfInBounds_toArray, List.set_cons_zero, List.set_cons_succ, i64_w, i32_w]
        rfl
      refine pure_ (i := 1) (N := some 56) (v := ?_) (a' := ?_) #[true, true, false, false, false, false, false, false, false, false, false, false] rfl rfl (any_of HT_.out (by kernel_rfl)) (fun _ _ _ h => h) (Or.inl ⟨by rfl, ?_⟩) ?_ ?_
      rotate_left
      · intro w'
        go_simp
        with_reducible rfl
      rotate_left
      · simp only [Act.put, List.setIfInBounds_toArray, List.set_cons_zero, List.set_cons_succ, i64_w, i32_w]
        rfl
      refine pure_ (i := 2) (N := some 57) (v := ?_) (a' := ?_) #[true, true, true, false, false, false, false, false, false, false, false, false] rfl rfl (any_of HT_.out (by kernel_rfl)) (fun _ _ _ h => h) (Or.inl ⟨by rfl, ?_⟩) ?_ ?_
      rotate_left
      · intro w'
        go_simp
        with_reducible rfl
      rotate_left
      · simp only [Act.put, List.setIfInBounds_toArray, List.set_cons_zero, List.set_cons_succ, i64_w, i32_w]
        rfl
      refine pure_ (i := 7) (N := some 62) (v := ?_) (a' := ?_) #[true, true, true, false, false, false, false, true, false, false, false, false] rfl rfl (any_of HT_.out (by kernel_rfl)) (fun _ _ _ h => h) (Or.inl ⟨by rfl, ?_⟩) ?_ ?_
      rotate_left
      · intro w'
        go_simp
        with_reducible rfl
      rotate_left
      · simp only [Act.put, List.setIfInBounds_toArray, List.set_cons_zero, List.set_cons_succ, i64_w, i32_w]
        rfl
      refine pure_ (i := 8) (N := some 63) (v := ?_) (a' := ?_) #[true, true, true, false, false, false, false, true, true, false, false, false] rfl rfl (any_of HT_.out (by kernel_rfl)) (fun _ _ _ h => h) (Or.inl ⟨by rfl, ?_⟩) ?_ ?_
      rotate_left
      · intro w'
        go_simp
        with_reducible rfl
      rotate_left
      · simp only [Act.put, List.setIfInBounds_toArray, List.set_cons_zero, List.set_cons_succ, i64_w, i32_w]
        rfl
      refine pure_ (i := 9) (N := some 64) (v := ?_) (a' := ?_) #[true, true, true, false, false, false, false, true, true, true, false, false] rfl rfl (any_of HT_.out (by kernel_rfl)) (fun _ _ _ h => h) (Or.inl ⟨by rfl, ?_⟩) ?_ ?_
      rotate_left
      · intro w'
        go_simp
        with_reducible rfl
      rotate_left
      · simp only [Act.put, List.setIfInBounds_toArray, List.set_cons_zero, List.set_cons_succ, i64_w, i32_w]
        rfl
      refine take_ (i := 4) (N := some 59) (v := ?_) (a' := ?_) #[true, true, true, false, true, false, false, true, true, true, false, false] rfl rfl (take_ofW HT_.out HW_.out (by kernel_rfl)) (fun _ _ _ h => h) (Or.inl ⟨by rfl, ?_⟩) hHeld ?_ ?_
      rotate_left
      · rintro w' ⟨s0, s1⟩
        go_simp
        with_reducible rfl
      rotate_left
      · simp only [Act.put, List.setIfInBounds_toArray, List.set_cons_zero, List.set_cons_succ, i64_w, i32_w]
        rfl
      refine join_ (σ := Value × Value) 3 #[true, true, true, true, true, true, false, true, true, true, false, false] (fun s_ => [(58, s_.1), (60, s_.2)]) (fun s_ w' => (w'.cell? ⟨w.heap.size, 0, none⟩ = some (.int .i64 a1_0) ∧ w'.cell? ⟨w.heap.size, 1, none⟩ = some (.int .i64 a1_1)) ∧ (Kd.R k23 23 w' w.heap.size (fun k_ => some k_ ≠ (s_.2 : Value).ownBlock ∧ k_ ≠ w.heap.size) s_.1 y268) ∧ (Kd.R k23 23 w' w.heap.size (fun k_ => some k_ ≠ (s_.1 : Value).ownBlock ∧ k_ ≠ w.heap.size) s_.2 y271) ∧ (w'.heap[w.heap.size]? = some (.cells #[.int .i64 a1_0, .int .i64 a1_1] 23 (0, 0))) ∧ (Below w.heap.size w w')) ?_ ?_
      rotate_left
      · intro hCont
        refine two_ (i := 3) (j := 5) (Ni := some 58) (Nj := some 60) #[true, true, true, true, true, false, false, true, true, true, false, false] #[true, true, true, false, true, true, false, true, true, true, false, false] rfl rfl rfl rfl (two_of HT_.out (by kernel_rfl)) (by decide) (by decide) (fun K hK => ?_) (fun K hK => ?_)
        · skip
          refine Kd.R_append_rows_step k23 (w0 := w) w.heap.size (by rfl) (.const (.slice none 0 0)) (.tmp 57) 28 23 (.agg #[(.int .i64 0), (.int .i64 0)]) 16 rfl Try.underlying28 info23 rfl (by decide) (by omega) (.slice none 0 0) ([] : List (S23)) y264 _ _ _ (fun k_ => k_ ≠ w.heap.size) (fun _ => False) rfl rfl ?aO ?aR (fun _ _ h => h) (fun _ h => h.elim) ?aF ?aB ?aS ?aL ?_
          (case aR => repeat (first | exact (Kd.C_below HR267.out HB.out) | (with_reducible refine Kd.C_alloc ?_ _) | (with_reducible refine Kd.C_drewN ?_ _) | (with_reducible refine Kd.C_drew ?_)))
          (case aB => exact (by repeat (first | (with_reducible first | exact HB.out | apply below_alloc | apply pw_below_drewN | apply below_drew1 | refine below_set ?_ GE212.out) | exact HB.out)))
          (case aF => exact (fun k_ hk => Kd.freshB (g := w.heap.size) (o := .cells #[.int .i64 a1_0, .int .i64 a1_1] 23 (0, 0)) (by (with_reducible repeat (first | refine blk_drewN ?_ _ | refine blk_drew ?_ | refine blk_alloc ?_ _)); exact BK212.out) k_ hk))
          (case aO => exact ((Kd.R_nil _ _ _ _ (fun k_ => k_ ≠ w.heap.size))))
          (case aS => exact (below_size (by repeat (first | (with_reducible first | exact HB.out | apply below_alloc | apply pw_below_drewN | apply below_drew1 | refine below_set ?_ GE212.out) | exact HB.out))))
          (case aL => have := LMc61.out; omega)
          intro v269 w71 ho hb hg hat
          rw [← Ny268.out] at ho
          have n0_ := Aside0.mk (blk_grown (g := w.heap.size) (o := .cells #[.int .i64 a1_0, .int .i64 a1_1] 23 (0, 0)) (by (with_reducible repeat (first | refine blk_drewN ?_ _ | refine blk_drew ?_ | refine blk_alloc ?_ _)); exact BK212.out) hg (by simp [Value.ownBlock]))
          have n1_ := Aside0.mk (hb)
          have n2_ := Aside0.mk (ho)
          clear BK212
          clear HB
          have BK212 := n0_
          have HB := n1_
          have HO270 := n2_
          clear n0_ n1_ n2_
          clear ho hb hg hat
          refine hK.out _ _ ⟨(blk_cell BK212.out 0).trans rfl, (blk_cell BK212.out 1).trans rfl⟩ (fun hHeld => ?_)
          clear hK K
          refine norm_ (a' := ?_) ?_ ?_
          rotate_left
          · show Act.put _ (some 58) _ = _
            simp only [Act.put, List.setIfInBounds_toArray, List.set_cons_zero, List.set_cons_succ, i64_w, i32_w]
            rfl
          refine one_ (i := 5) (N := some 60) #[true, true, true, true, true, true, false, true, true, true, false, false] rfl rfl (one_of HT_.out (by kernel_rfl)) (by decide) (fun K hK => ?_)
          refine Kd.R_lit_step k23 _ 23 ?hg (N := 60) ?hd (xs := ([(⟨a1_0, a1_1⟩ : S23)] : List (S23))) (inner := [.int .i64 a1_0, .int .i64 a1_1]) (ok := fun _ => True) (okp := fun _ => True) ?hr ?hp (fun _ hk => hk) trivial (Below.refl _ _) (Nat.le_refl _) (by simp) ?_; (case hd => rfl); (case hg => rfl); (case hr => first | (go_simp; done) | (go_simp; rfl)); (case hp => exact (Reps.c2 (show Kd.M k23 _ _ _ (⟨a1_0, a1_1⟩ : S23) [.int .i64 a1_0, .int .i64 a1_1] from (k23_mkM _ _ _ (⟨a1_0, a1_1⟩ : S23) )) (Reps.none _ _)))
          intro v272 w72 ho73 hb hg_ hnew_
          clear hg_ hnew_
          (first | rw [← Ny271.out] at ho73 | (simp only [Int.reduceToNat] at ho73; rw [← Ny271.out] at ho73))
          have n0_ := Aside0.mk (Kd.R_elder' (by (with_reducible repeat (first | apply Kd.R_alloc | apply Kd.R_drewN | apply Kd.R_drew)); exact HO270.out) (Kd.R_base ho73) hb)
          have n1_ := Aside0.mk (Kd.R_lower (Kd.R_newB (Kd.R_new' ho73 (Kd.R_lt (by (with_reducible repeat (first | apply Kd.R_alloc | apply Kd.R_drewN | apply Kd.R_drew)); exact HO270.out))) (g := w.heap.size) (o := .cells #[.int .i64 a1_0, .int .i64 a1_1] 23 (0, 0)) (by (with_reducible repeat (first | refine blk_drewN ?_ _ | refine blk_drew ?_ | refine blk_alloc ?_ _)); exact BK212.out)) (below_size (by repeat (first | (with_reducible first | exact HB.out | apply below_alloc | apply pw_below_drewN | apply below_drew1 | refine below_set ?_ GE212.out) | exact HB.out))))
          have n2_ := Aside0.mk (blk_below (g := w.heap.size) (o := .cells #[.int .i64 a1_0, .int .i64 a1_1] 23 (0, 0)) (by (with_reducible repeat (first | refine blk_drewN ?_ _ | refine blk_drew ?_ | refine blk_alloc ?_ _)); exact BK212.out) hb)
          have n3_ := Aside0.mk (below_step (by repeat (first | (with_reducible first | exact HB.out | apply below_alloc | apply pw_below_drewN | apply below_drew1 | refine below_set ?_ GE212.out) | exact HB.out)) hb)
          clear HO270
          clear BK212
          clear HB
          have HO270 := n0_
          have HO273 := n1_
          have BK212 := n2_
          have HB := n3_
          clear n0_ n1_ n2_ n3_
          clear hb ho73
          refine hK.out _ _ ⟨(blk_cell BK212.out 0).trans rfl, (blk_cell BK212.out 1).trans rfl⟩ (fun hHeld => ?_)
          clear hK K
          refine norm_ (a' := ?_) ?_ ?_
          rotate_left
          · show Act.put _ (some 60) _ = _
            simp only [Act.put, List.setIfInBounds_toArray, List.set_cons_zero, List.set_cons_succ, i64_w, i32_w]
            rfl
          exact norm_ (by simp only [putAll, Act.put, List.setIfInBounds_toArray, List.set_cons_zero, List.set_cons_succ]) (hCont (v269, v272) _ ⟨hHeld, (by (with_reducible repeat (first | apply Kd.R_alloc | apply Kd.R_drewN | apply Kd.R_drew)); exact Kd.R_mono HO270.out (fun _ hk => ⟨hk.2, hk.1⟩)), (by (with_reducible repeat (first | apply Kd.R_alloc | apply Kd.R_drewN | apply Kd.R_drew)); exact Kd.R_mono HO273.out (fun _ hk => ⟨hk.1.2, hk.2⟩)), (by (with_reducible repeat (first | refine blk_drewN ?_ _ | refine blk_drew ?_ | refine blk_alloc ?_ _)); exact BK212.out), (by repeat (first | (with_reducible first | exact HB.out | apply below_alloc | apply pw_below_drewN | apply below_drew1 | refine below_set ?_ GE212.out) | exact HB.out))⟩)
        skip
        refine Kd.R_lit_step k23 _ 23 ?hg (N := 60) ?hd (xs := ([(⟨a1_0, a1_1⟩ : S23)] : List (S23))) (inner := [.int .i64 a1_0, .int .i64 a1_1]) (ok := fun _ => True) (okp := fun _ => True) ?hr ?hp (fun _ hk => hk) trivial (Below.refl _ _) (Nat.le_refl _) (by simp) ?_; (case hd => rfl); (case hg => rfl); (case hr => first | (go_simp; done) | (go_simp; rfl)); (case hp => exact (Reps.c2 (show Kd.M k23 _ _ _ (⟨a1_0, a1_1⟩ : S23) [.int .i64 a1_0, .int .i64 a1_1] from (k23_mkM _ _ _ (⟨a1_0, a1_1⟩ : S23) )) (Reps.none _ _)))
        intro v272 w71 ho72 hb hg_ hnew_
        clear hg_ hnew_
        (first | rw [← Ny271.out] at ho72 | (simp only [Int.reduceToNat] at ho72; rw [← Ny271.out] at ho72))
        have n0_ := Aside0.mk (Kd.R_lower (Kd.R_newB ho72 (g := w.heap.size) (o := .cells #[.int .i64 a1_0, .int .i64 a1_1] 23 (0, 0)) (by (with_reducible repeat (first | refine blk_drewN ?_ _ | refine blk_drew ?_ | refine blk_alloc ?_ _)); exact BK212.out)) (below_size (by repeat (first | (with_reducible first | exact HB.out | apply below_alloc | apply pw_below_drewN | apply below_drew1 | refine below_set ?_ GE212.out) | exact HB.out))))
        have n1_ := Aside0.mk (blk_below (g := w.heap.size) (o := .cells #[.int .i64 a1_0, .int .i64 a1_1] 23 (0, 0)) (by (with_reducible repeat (first | refine blk_drewN ?_ _ | refine blk_drew ?_ | refine blk_alloc ?_ _)); exact BK212.out) hb)
        have n2_ := Aside0.mk (below_step (by repeat (first | (with_reducible first | exact HB.out | apply below_alloc | apply pw_below_drewN | apply below_drew1 | refine below_set ?_ GE212.out) | exact HB.out)) hb)
        clear BK212
        clear HB
        have HO273 := n0_
        have BK212 := n1_
        have HB := n2_
        clear n0_ n1_ n2_
        clear hb ho72
        refine hK.out _ _ ⟨(blk_cell BK212.out 0).trans rfl, (blk_cell BK212.out 1).trans rfl⟩ (fun hHeld => ?_)
        clear hK K
        refine norm_ (a' := ?_) ?_ ?_
        rotate_left
        · show Act.put _ (some 60) _ = _
          simp only [Act.put, List.setIfInBounds_toArray, List.set_cons_zero, List.set_cons_succ, i64_w, i32_w]
          rfl
        refine one_ (i := 3) (N := some 58) #[true, true, true, true, true, true, false, true, true, true, false, false] rfl rfl (one_of HT_.out (by kernel_rfl)) (by decide) (fun K hK => ?_)
        refine Kd.R_append_rows_step k23 (w0 := w) w.heap.size (by rfl) (.const (.slice none 0 0)) (.tmp 57) 28 23 (.agg #[(.int .i64 0), (.int .i64 0)]) 16 rfl Try.underlying28 info23 rfl (by decide) (by omega) (.slice none 0 0) ([] : List (S23)) y264 _ _ _ (fun k_ => some k_ ≠ (v272 : Value).ownBlock ∧ k_ ≠ w.heap.size) (fun _ => False) rfl rfl ?aO ?aR (fun _ _ h => h) (fun _ h => h.elim) ?aF ?aB ?aS ?aL ?_
        (case aR => repeat (first | exact (Kd.C_below HR267.out HB.out) | (with_reducible refine Kd.C_alloc ?_ _) | (with_reducible refine Kd.C_drewN ?_ _) | (with_reducible refine Kd.C_drew ?_)))
        (case aB => exact (by repeat (first | (with_reducible first | exact HB.out | apply below_alloc | apply pw_below_drewN | apply below_drew1 | refine below_set ?_ GE212.out) | exact HB.out)))
        (case aF => exact (fun k_ hk => ⟨Kd.fresh' (Kd.R_lt (by (with_reducible repeat (first | apply Kd.R_alloc | apply Kd.R_drewN | apply Kd.R_drew)); exact HO273.out)) k_ hk, Kd.freshB (g := w.heap.size) (o := .cells #[.int .i64 a1_0, .int .i64 a1_1] 23 (0, 0)) (by (with_reducible repeat (first | refine blk_drewN ?_ _ | refine blk_drew ?_ | refine blk_alloc ?_ _)); exact BK212.out) k_ hk⟩))
        (case aO => exact ((Kd.R_nil _ _ _ _ (fun k_ => some k_ ≠ (v272 : Value).ownBlock ∧ k_ ≠ w.heap.size))))
        (case aS => exact (below_size (by repeat (first | (with_reducible first | exact HB.out | apply below_alloc | apply pw_below_drewN | apply below_drew1 | refine below_set ?_ GE212.out) | exact HB.out))))
        (case aL => have := LMc61.out; omega)
        intro v269 w73 ho hb hg hat
        rw [← Ny268.out] at ho
        have n0_ := Aside0.mk (blk_grown (g := w.heap.size) (o := .cells #[.int .i64 a1_0, .int .i64 a1_1] 23 (0, 0)) (by (with_reducible repeat (first | refine blk_drewN ?_ _ | refine blk_drew ?_ | refine blk_alloc ?_ _)); exact BK212.out) hg (by simp [Value.ownBlock]))
        have n1_ := Aside0.mk (Kd.R_after (Kd.R_apart_nil (by (with_reducible repeat (first | apply Kd.R_alloc | apply Kd.R_drewN | apply Kd.R_drew)); exact HO273.out)) hg hat)
        have n2_ := Aside0.mk (hb)
        have n3_ := Aside0.mk (ho)
        clear BK212
        clear HO273
        clear HB
        have BK212 := n0_
        have HO273 := n1_
        have HB := n2_
        have HO270 := n3_
        clear n0_ n1_ n2_ n3_
        clear ho hb hg hat
        refine hK.out _ _ ⟨(blk_cell BK212.out 0).trans rfl, (blk_cell BK212.out 1).trans rfl⟩ (fun hHeld => ?_)
        clear hK K
        refine norm_ (a' := ?_) ?_ ?_
        rotate_left
        · show Act.put _ (some 58) _ = _
          simp only [Act.put, List.setIfInBounds_toArray, List.set_cons_zero, List.set_cons_succ, i64_w, i32_w]
          rfl
        exact norm_ (by simp only [putAll, Act.put, List.setIfInBounds_toArray, List.set_cons_zero, List.set_cons_succ]) (hCont (v269, v272) _ ⟨hHeld, (by (with_reducible repeat (first | apply Kd.R_alloc | apply Kd.R_drewN | apply Kd.R_drew)); exact HO270.out), (by (with_reducible repeat (first | apply Kd.R_alloc | apply Kd.R_drewN | apply Kd.R_drew)); exact Kd.R_mono HO273.out (fun _ hk => ⟨hk.2, hk.1.2⟩)), (by (with_reducible repeat (first | refine blk_drewN ?_ _ | refine blk_drew ?_ | refine blk_alloc ?_ _)); exact BK212.out), (by repeat (first | (with_reducible first | exact HB.out | apply below_alloc | apply pw_below_drewN | apply below_drew1 | refine below_set ?_ GE212.out) | exact HB.out))⟩)
      rintro ⟨v269, v272⟩ w74 ⟨hS_, h0_, h1_, h2_, h3_⟩
      have n0_ : Aside0 (Kd.R k23 23 w74 w.heap.size (fun k_ => some k_ ≠ (v272 : Value).ownBlock ∧ k_ ≠ w.heap.size) v269 y268) := ⟨h0_⟩
      have n1_ : Aside0 (Kd.R k23 23 w74 w.heap.size (fun k_ => some k_ ≠ (v269 : Value).ownBlock ∧ k_ ≠ w.heap.size) v272 y271) := ⟨h1_⟩
      have n2_ : Aside0 (w74.heap[w.heap.size]? = some (.cells #[.int .i64 a1_0, .int .i64 a1_1] 23 (0, 0))) := ⟨h2_⟩
      have n3_ : Aside0 (Below w.heap.size w w74) := ⟨h3_⟩
      clear BK212
      clear HB
      clear h0_ h1_ h2_ h3_
      have HO270 := n0_
      have HO273 := n1_
      have BK212 := n2_
      have HB := n3_
      clear n0_ n1_ n2_ n3_
      have hHeld : w74.cell? ⟨w.heap.size, 0, none⟩ = some (.int .i64 a1_0) ∧ w74.cell? ⟨w.heap.size, 1, none⟩ = some (.int .i64 a1_1) := hS_
      obtain ⟨Ao76, co76, eo76⟩ := Kd.R_slice HO273.out
      (first | subst eo76 | (injection eo76 with f1_ f2_ f3_; have f4_ := f1_.symm; have f5_ := f3_.symm; clear f1_ f2_ f3_; subst f4_; subst f5_))
      refine norm_ (a' := ?_) ?_ ?_
      rotate_left
      · simp only [putAll, Act.put, List.setIfInBounds_toArray, List.set_cons_zero, List.set_cons_succ]
        rfl
      refine one_ (i := 6) (N := some 61) #[true, true, true, true, true, true, true, true, true, true, false, false] rfl rfl (one_of HT_.out (by kernel_rfl)) (by decide) (fun K hK => ?_)
      refine Kd.R_append_rows_step k23 (w0 := w) w.heap.size (by rfl) (.tmp 58) (.tmp 60) 28 23 (.agg #[(.int .i64 0), (.int .i64 0)]) 16 rfl Try.underlying28 info23 rfl (by decide) (by omega) v269 y268 y271 _ _ _ (fun k_ => some k_ ≠ (.slice Ao76 y271.length co76 : Value).ownBlock ∧ k_ ≠ w.heap.size) (fun _ => False) rfl rfl ?aO ?aR (fun _ _ h => h) (fun _ h => h.elim) ?aF ?aB ?aS ?aL ?_
      (case aR => repeat (first | exact (Kd.R_reads' HO273.out).2.2 | (with_reducible refine Kd.C_alloc ?_ _) | (with_reducible refine Kd.C_drewN ?_ _) | (with_reducible refine Kd.C_drew ?_)))
      (case aB => exact (by repeat (first | (with_reducible first | exact HB.out | apply below_alloc | apply pw_below_drewN | apply below_drew1 | refine below_set ?_ GE212.out) | exact HB.out)))
      (case aF => exact (fun k_ hk => ⟨Kd.fresh' (Kd.R_lt (by (with_reducible repeat (first | apply Kd.R_alloc | apply Kd.R_drewN | apply Kd.R_drew)); exact HO273.out)) k_ hk, Kd.freshB (g := w.heap.size) (o := .cells #[.int .i64 a1_0, .int .i64 a1_1] 23 (0, 0)) (by (with_reducible repeat (first | refine blk_drewN ?_ _ | refine blk_drew ?_ | refine blk_alloc ?_ _)); exact BK212.out) k_ hk⟩))
      (case aO => exact (by (with_reducible repeat (first | apply Kd.R_alloc | apply Kd.R_drewN | apply Kd.R_drew)); exact HO270.out))
      (case aS => exact (below_size (by repeat (first | (with_reducible first | exact HB.out | apply below_alloc | apply pw_below_drewN | apply below_drew1 | refine below_set ?_ GE212.out) | exact HB.out))))
      (case aL => have := LMc62.out; omega)
      intro v275 w75 ho hb hg hat
      rw [← Ny274.out] at ho
      have n0_ := Aside0.mk (blk_grown (g := w.heap.size) (o := .cells #[.int .i64 a1_0, .int .i64 a1_1] 23 (0, 0)) (by (with_reducible repeat (first | refine blk_drewN ?_ _ | refine blk_drew ?_ | refine blk_alloc ?_ _)); exact BK212.out) hg (Kd.R_away HO270.out (fun _ hk => hk.2)))
      have n1_ := Aside0.mk (Kd.R_after (ok := (fun k_ => k_ ≠ w.heap.size)) (by (with_reducible repeat (first | apply Kd.R_alloc | apply Kd.R_drewN | apply Kd.R_drew)); exact Kd.R_mono HO273.out (fun _ hk => ⟨hk.2, hk.1⟩)) hg hat)
      have n2_ := Aside0.mk (hb)
      have n3_ := Aside0.mk (ho)
      clear BK212
      clear HO273
      clear HB
      clear HO270
      have BK212 := n0_
      have HO273 := n1_
      have HB := n2_
      have HO276 := n3_
      clear n0_ n1_ n2_ n3_
      clear ho hb hg hat
      refine hK.out _ _ ⟨(blk_cell BK212.out 0).trans rfl, (blk_cell BK212.out 1).trans rfl⟩ (fun hHeld => ?_)
      clear hK K
      refine norm_ (a' := ?_) ?_ ?_
      rotate_left
      · show Act.put _ (some 61) _ = _
        simp only [Act.put, List.setIfInBounds_toArray, List.set_cons_zero, List.set_cons_succ, i64_w, i32_w]
        rfl
      refine one_ (i := 10) (N := some 65) #[true, true, true, true, true, true, true, true, true, true, true, false] rfl rfl (one_of HT_.out (by kernel_rfl)) (by decide) (fun K hK => ?_)
      refine Kd.R_append_rows_step k23 (w0 := w) w.heap.size (by rfl) (.tmp 61) (.tmp 64) 28 23 (.agg #[(.int .i64 0), (.int .i64 0)]) 16 rfl Try.underlying28 info23 rfl (by decide) (by omega) v275 y274 y277 _ _ _ (fun k_ => some k_ ≠ (.slice Ao76 y271.length co76 : Value).ownBlock ∧ k_ ≠ w.heap.size) (fun _ => False) rfl rfl ?aO ?aR (fun _ _ h => h) (fun _ h => h.elim) ?aF ?aB ?aS ?aL ?_
      (case aR => repeat (first | exact (Kd.C_below HR280.out HB.out) | (with_reducible refine Kd.C_alloc ?_ _) | (with_reducible refine Kd.C_drewN ?_ _) | (with_reducible refine Kd.C_drew ?_)))
      (case aB => exact (by repeat (first | (with_reducible first | exact HB.out | apply below_alloc | apply pw_below_drewN | apply below_drew1 | refine below_set ?_ GE212.out) | exact HB.out)))
      (case aF => exact (fun k_ hk => ⟨Kd.fresh' (Kd.R_lt (by (with_reducible repeat (first | apply Kd.R_alloc | apply Kd.R_drewN | apply Kd.R_drew)); exact HO273.out)) k_ hk, Kd.freshB (g := w.heap.size) (o := .cells #[.int .i64 a1_0, .int .i64 a1_1] 23 (0, 0)) (by (with_reducible repeat (first | refine blk_drewN ?_ _ | refine blk_drew ?_ | refine blk_alloc ?_ _)); exact BK212.out) k_ hk⟩))
      (case aO => exact (by (with_reducible repeat (first | apply Kd.R_alloc | apply Kd.R_drewN | apply Kd.R_drew)); exact HO276.out))
      (case aS => exact (below_size (by repeat (first | (with_reducible first | exact HB.out | apply below_alloc | apply pw_below_drewN | apply below_drew1 | refine below_set ?_ GE212.out) | exact HB.out))))
      (case aL => have := LMc65.out; omega)
      intro v282 w77 ho hb hg hat
      rw [← Ny281.out] at ho
      have n0_ := Aside0.mk (blk_grown (g := w.heap.size) (o := .cells #[.int .i64 a1_0, .int .i64 a1_1] 23 (0, 0)) (by (with_reducible repeat (first | refine blk_drewN ?_ _ | refine blk_drew ?_ | refine blk_alloc ?_ _)); exact BK212.out) hg (Kd.R_away HO276.out (fun _ hk => hk.2)))
      have n1_ := Aside0.mk (Kd.R_after (ok := (fun k_ => k_ ≠ w.heap.size)) (by (with_reducible repeat (first | apply Kd.R_alloc | apply Kd.R_drewN | apply Kd.R_drew)); exact HO273.out) hg hat)
      have n2_ := Aside0.mk (hb)
      have n3_ := Aside0.mk (ho)
      clear BK212
      clear HO273
      clear HB
      clear HO276
      have BK212 := n0_
      have HO273 := n1_
      have HB := n2_
      have HO283 := n3_
      clear n0_ n1_ n2_ n3_
      clear ho hb hg hat
      refine hK.out _ _ ⟨(blk_cell BK212.out 0).trans rfl, (blk_cell BK212.out 1).trans rfl⟩ (fun hHeld => ?_)
      clear hK K
      refine norm_ (a' := ?_) ?_ ?_
      rotate_left
      · show Act.put _ (some 65) _ = _
        simp only [Act.put, List.setIfInBounds_toArray, List.set_cons_zero, List.set_cons_succ, i64_w, i32_w]
        rfl
      refine pure_ (i := 11) (N := some 4) (v := ?_) (a' := ?_) #[true, true, true, true, true, true, true, true, true, true, true, true] rfl rfl (any_of HT_.out (by kernel_rfl)) (fun _ _ _ h => h) (Or.inl ⟨by rfl, ?_⟩) ?_ ?_
      rotate_left
      · intro w'
        go_simp
        with_reducible rfl
      rotate_left
      · simp only [Act.put, List.setIfInBounds_toArray, List.set_cons_zero, List.set_cons_succ, i64_w, i32_w]
        rfl
      refine done_ (done_of HT_.out (by kernel_rfl)) ?_
      try go_wp2
      go_ret
      exact ⟨_, rfl, .inr (HFIN.out ▸ Kd.R_mono HO283.out (fun _ hk => trivial)), HB.out⟩
    have c4b0 : decide (x5_1 < (l0.length : Int)) = false := decide_eq_false c4
    clear c4
    have hcz8_0 : wr.cell? ⟨w.heap.size, 0, none⟩ = some (.int .i64 a1_0) := (blk_cell BK212.out 0).trans rfl
    have hcz8_1 : wr.cell? ⟨w.heap.size, 1, none⟩ = some (.int .i64 a1_1) := (blk_cell BK212.out 1).trans rfl
    have hfz8_0 := blk_frozen BK212.out 0
    have hfz8_1 := blk_frozen BK212.out 1
    go_wp2
    go_quiet (fail)
    replace BK212 := Aside0.mk (blk_drewN BK212.out nq)
    replace HB := Aside0.mk (pw_below_drewN HB.out nq)
    go_wp2
    go_quiet (fail)
    replace BK212 := Aside0.mk (blk_drewN BK212.out nq)
    replace HB := Aside0.mk (pw_below_drewN HB.out nq)
    go_wp2
    generalize World.drewN _ nq = w67 at BK212 HB ⊢
    replace BK212 := Aside0.mk (blk_drew BK212.out)
    replace HB := Aside0.mk (below_drew1 HB.out)
    obtain ⟨y264, hy264⟩ : ∃ y_ : List (S23), y_ = (l0.take (x5_1 : Int).toNat) := ⟨_, rfl⟩
    have Ny264 := Aside0.mk hy264
    have LMc61 : Aside0 (([] : List (S23)).length + y264.length < 8796093022208) := ⟨by rw [hy264, List.length_take, List.length_nil]; have h_ := HN.out; omega⟩
    obtain ⟨y268, hy268⟩ : ∃ y_ : List (S23), y_ = (([] : List (S23)) ++ y264) := ⟨_, rfl⟩
    have Ny268 := Aside0.mk hy268
    obtain ⟨y271, hy271⟩ : ∃ y_ : List (S23), y_ = (([(⟨a1_0, a1_1⟩ : S23)] : List (S23))) := ⟨_, rfl⟩
    have Ny271 := Aside0.mk hy271
    have LMc62 : Aside0 (y268.length + y271.length < 8796093022208) := ⟨by rw [hy268, hy271, hy264]; simp only [List.nil_append, List.length_take, List.length_cons, List.length_nil]; have h_ := HN.out; omega⟩
    obtain ⟨y274, hy274⟩ : ∃ y_ : List (S23), y_ = (y268 ++ y271) := ⟨_, rfl⟩
    have Ny274 := Aside0.mk hy274
    obtain ⟨y277, hy277⟩ : ∃ y_ : List (S23), y_ = (l0.drop (x5_1 : Int).toNat) := ⟨_, rfl⟩
    have Ny277 := Aside0.mk hy277
    have LMc65 : Aside0 (y274.length + y277.length < 8796093022208) := ⟨by rw [hy274, hy277, hy268, hy271, hy264]; simp only [List.nil_append, List.length_append, List.length_take, List.length_drop, List.length_cons, List.length_nil]; have h_ := HN.out; omega⟩
    obtain ⟨y281, hy281⟩ : ∃ y_ : List (S23), y_ = (y274 ++ y277) := ⟨_, rfl⟩
    have Ny281 := Aside0.mk hy281
    have HFIN : Aside0 (y281 = ins l0 ⟨a1_0, a1_1⟩) := ⟨by rw [hy281, hy274, hy277, hy268, hy271, hy264]; symm; exact (by rw [show (x5_1 : Int).toNat = l0.length by have h1_ := HX.out; have h2_ := of_decide_eq_false c4b0; omega]; rw [ins_end l0 _ (fun j hj => HX.out.2.2.2 j (by have h1_ := HX.out; have h2_ := of_decide_eq_false c4b0; omega))]; simp)⟩
    clear hy264 hy268 hy271 hy274 hy277 hy281
    have c60b1 : decide (x5_1 ≤ (l0.length : Int)) = true := decide_eq_true HX.out.2.1
    have q69 : (x5_1 : Int) ≤ ((l0.length : Int) : Int) := of_decide_eq_true (by first | (with_reducible assumption) | assumption)
    obtain ⟨i069, hi069, _, hsz69, _⟩ := info_parts info23
    have hroom69 : l0.length ≤ c0 := HC0.out
    have hC69 : Kd.C k23 _ A0 l0.length l0 := HR0.out
    have hcut69 := cut_to (P := Try.prog) 28 23 .i64 Try.underlying28 hi069 A0 l0.length c0 x5_1 (of_decide_eq_true (by first | (with_reducible assumption) | assumption)) q69 hroom69
    have hr69 := Kd.C_take (m := (x5_1 : Int).toNat) hC69 (by omega)
    have hy69 : y264.length = (x5_1 : Int).toNat := (by rw [Ny264.out, List.length_take]; omega)
    rw [← Ny264.out] at hr69
    rw [← hy69] at hcut69
    have HR267 := Aside0.mk hr69
    have HC267 := Aside0.mk (show y264.length ≤ c0 from by omega)
    clear hr69 hC69 hroom69 hi069 hsz69
    have KY69 := Aside0.mk hy69
    clear hy69
    replace q69 := eq_true q69
    have q70 : (x5_1 : Int) ≤ ((l0.length : Int) : Int) := of_decide_eq_true (by first | (with_reducible assumption) | assumption)
    obtain ⟨i070, hi070, _, hsz70, _⟩ := info_parts info23
    have hroom70 : l0.length ≤ c0 := HC0.out
    have hC70 : Kd.C k23 _ A0 l0.length l0 := HR0.out
    have q070 : (0 : Int) ≤ (x5_1 : Int) := of_decide_eq_true (by first | (with_reducible assumption) | assumption)
    have hcut70 := cut_from (P := Try.prog) 28 23 .i64 Try.underlying28 hi070 2 hsz70 A0 l0.length c0 x5_1 q070 q70
    have hr70 := Kd.C_drop (m := (x5_1 : Int).toNat) (c := c0) hC70 (by omega) hroom70
    obtain ⟨A70, hA70⟩ : ∃ A1, A1 = (if c0 = (x5_1 : Int).toNat then A0 else (A0 : Option Addr).map (·.add ((x5_1 : Int).toNat * 2))) := ⟨_, rfl⟩
    obtain ⟨c70, hc70⟩ : ∃ c1, c1 = c0 - (x5_1 : Int).toNat := ⟨_, rfl⟩
    have hy70 : y277.length = l0.length - (x5_1 : Int).toNat := (by rw [Ny277.out, List.length_drop] <;> omega)
    rw [show (l0).drop (x5_1 : Int).toNat = y277 from Ny277.out.symm] at hr70
    replace hr70 : Kd.C k23 _ A70 y277.length y277 := (by rw [hA70]; exact hr70)
    rw [← hy70, ← hA70, ← hc70] at hcut70
    have HR280 := Aside0.mk hr70
    have HC280 := Aside0.mk (show y277.length ≤ c70 from by rw [hy70, hc70]; exact Nat.sub_le_sub_right hroom70 _)
    clear hr70 hC70 hroom70 hi070 hsz70 hc70
    have KY70 := Aside0.mk hy70
    have KA70 := Aside0.mk hA70
    clear hy70 hA70
    replace q70 := eq_true q70
    refine start_ (n := 12) (S := fun w' => w'.cell? ⟨w.heap.size, 0, none⟩ = some (.int .i64 a1_0) ∧ w'.cell? ⟨w.heap.size, 1, none⟩ = some (.int .i64 a1_1)) (ds := []) #[false, false, false, false, false, false, false, false, false, false, false, false] (by kernel_rfl) rfl rfl ⟨(blk_cell BK212.out 0).trans rfl, (blk_cell BK212.out 1).trans rfl⟩ (fun hHeld => ?_); refine with_tabW corporaref11_insert.tab6 corporaref11_insert.bits6 (fun HT_ HW_ => ?_)
    generalize w67.drew = w68 at BK212 HB HR267 HR280 hHeld ⊢
    refine pure_ (i := 0) (N := some 55) (v := ?_) (a' := ?_) #[true, false, false, false, false, false, false, false, false, false, false, false] rfl rfl (any_of HT_.out (by kernel_rfl)) (fun _ _ _ h => h) (Or.inl ⟨by rfl, ?_⟩) ?_ ?_
    rotate_left
    · intro w'
      go_simp
      with_reducible rfl
    rotate_left
    · simp only [Act.put, List.setIfInBounds_toArray, List.set_cons_zero, List.set_cons_succ, i64_w, i32_w]
      rfl
    refine pure_ (i := 1) (N := some 56) (v := ?_) (a' := ?_) #[true, true, false, false, false, false, false, false, false, false, false, false] rfl rfl (any_of HT_.out (by kernel_rfl)) (fun _ _ _ h => h) (Or.inl ⟨by rfl, ?_⟩) ?_ ?_
    rotate_left
    · intro w'
      go_simp
      with_reducible rfl
    rotate_left
    · simp only [Act.put, List.setIfInBounds_toArray, List.set_cons_zero, List.set_cons_succ, i64_w, i32_w]
      rfl
    refine pure_ (i := 2) (N := some 57) (v := ?_) (a' := ?_) #[true, true, true, false, false, false, false, false, false, false, false, false] rfl rfl (any_of HT_.out (by kernel_rfl)) (fun _ _ _ h => h) (Or.inl ⟨by rfl, ?_⟩) ?_ ?_
    rotate_left
    · intro w'
      go_simp
      with_reducible rfl
    rotate_left
    · simp only [Act.put, List.setIfInBounds_toArray, List.set_cons_zero, List.set_cons_succ, i64_w, i32_w]
      rfl
    refine pure_ (i := 7) (N := some 62) (v := ?_) (a' := ?_) #[true, true, true, false, false, false, false, true, false, false, false, false] rfl rfl (any_of HT_.out (by kernel_rfl)) (fun _ _ _ h => h) (Or.inl ⟨by rfl, ?_⟩) ?_ ?_
    rotate_left
    · intro w'
      go_simp
      with_reducible rfl
    rotate_left
    · simp only [Act.put, List.setIfInBounds_toArray, List.set_cons_zero, List.set_cons_succ, i64_w, i32_w]
      rfl
    refine pure_ (i := 8) (N := some 63) (v := ?_) (a' := ?_) #[true, true, true, false, false, false, false, true, true, false, false, false] rfl rfl (any_of HT_.out (by kernel_rfl)) (fun _ _ _ h => h) (Or.inl ⟨by rfl, ?_⟩) ?_ ?_
    rotate_left
    · intro w'
      go_simp
      with_reducible rfl
    rotate_left
    · simp only [Act.put, List.setIfInBounds_toArray, List.set_cons_zero, List.set_cons_succ, i64_w, i32_w]
      rfl
    refine pure_ (i := 9) (N := some 64) (v := ?_) (a' := ?_) #[true, true, true, false, false, false, false, true, true, true, false, false] rfl rfl (any_of HT_.out (by kernel_rfl)) (fun _ _ _ h => h) (Or.inl ⟨by rfl, ?_⟩) ?_ ?_
    rotate_left
    · intro w'
      go_simp
      with_reducible rfl
    rotate_left
    · simp only [Act.put, List.setIfInBounds_toArray, List.set_cons_zero, List.set_cons_succ, i64_w, i32_w]
      rfl
    refine take_ (i := 4) (N := some 59) (v := ?_) (a' := ?_) #[true, true, true, false, true, false, false, true, true, true, false, false] rfl rfl (take_ofW HT_.out HW_.out (by kernel_rfl)) (fun _ _ _ h => h) (Or.inl ⟨by rfl, ?_⟩) hHeld ?_ ?_
    rotate_left
    · rintro w' ⟨s0, s1⟩
      go_simp
      with_reducible rfl
    rotate_left
    · simp only [Act.put, List.setIfInBounds_toArray, List.set_cons_zero, List.set_cons_succ, i64_w, i32_w]
      rfl
    refine join_ (σ := Value × Value) 3 #[true, true, true, true, true, true, false, true, true, true, false, false] (fun s_ => [(58, s_.1), (60, s_.2)]) (fun s_ w' => (w'.cell? ⟨w.heap.size, 0, none⟩ = some (.int .i64 a1_0) ∧ w'.cell? ⟨w.heap.size, 1, none⟩ = some (.int .i64 a1_1)) ∧ (Kd.R k23 23 w' w.heap.size (fun k_ => some k_ ≠ (s_.2 : Value).ownBlock ∧ k_ ≠ w.heap.size) s_.1 y268) ∧ (Kd.R k23 23 w' w.heap.size (fun k_ => some k_ ≠ (s_.1 : Value).ownBlock ∧ k_ ≠ w.heap.size) s_.2 y271) ∧ (w'.heap[w.heap.size]? = some (.cells #[.int .i64 a1_0, .int .i64 a1_1] 23 (0, 0))) ∧ (Below w.heap.size w w')) ?_ ?_
    rotate_left
    · intro hCont
      refine two_ (i := 3) (j := 5) (Ni := some 58) (Nj := some 60) #[true, true, true, true, true, false, false, true, true, true, false, false] #[true, true, true, false, true, true, false, true, true, true, false, false] rfl rfl rfl rfl (two_of HT_.out (by kernel_rfl)) (by decide) (by decide) (fun K hK => ?_) (fun K hK => ?_)
      · skip
        refine Kd.R_append_rows_step k23 (w0 := w) w.heap.size (by rfl) (.const (.slice none 0 0)) (.tmp 57) 28 23 (.agg #[(.int .i64 0), (.int .i64 0)]) 16 rfl Try.underlying28 info23 rfl (by decide) (by omega) (.slice none 0 0) ([] : List (S23)) y264 _ _ _ (fun k_ => k_ ≠ w.heap.size) (fun _ => False) rfl rfl ?aO ?aR (fun _ _ h => h) (fun _ h => h.elim) ?aF ?aB ?aS ?aL ?_
        (case aR => repeat (first | exact (Kd.C_below HR267.out HB.out) | (with_reducible refine Kd.C_alloc ?_ _) | (with_reducible refine Kd.C_drewN ?_ _) | (with_reducible refine Kd.C_drew ?_)))
        (case aB => exact (by repeat (first | (with_reducible first | exact HB.out | apply below_alloc | apply pw_below_drewN | apply below_drew1 | refine below_set ?_ GE212.out) | exact HB.out)))
        (case aF => exact (fun k_ hk => Kd.freshB (g := w.heap.size) (o := .cells #[.int .i64 a1_0, .int .i64 a1_1] 23 (0, 0)) (by (with_reducible repeat (first | refine blk_drewN ?_ _ | refine blk_drew ?_ | refine blk_alloc ?_ _)); exact BK212.out) k_ hk))
        (case aO => exact ((Kd.R_nil _ _ _ _ (fun k_ => k_ ≠ w.heap.size))))
        (case aS => exact (below_size (by repeat (first | (with_reducible first | exact HB.out | apply below_alloc | apply pw_below_drewN | apply below_drew1 | refine below_set ?_ GE212.out) | exact HB.out))))
        (case aL => have := LMc61.out; omega)
        intro v269 w71 ho hb hg hat
        rw [← Ny268.out] at ho
        have n0_ := Aside0.mk (blk_grown (g := w.heap.size) (o := .cells #[.int .i64 a1_0, .int .i64 a1_1] 23 (0, 0)) (by (with_reducible repeat (first | refine blk_drewN ?_ _ | refine blk_drew ?_ | refine blk_alloc ?_ _)); exact BK212.out) hg (by simp [Value.ownBlock]))
        have n1_ := Aside0.mk (hb)
        have n2_ := Aside0.mk (ho)
        clear BK212
        clear HB
        have BK212 := n0_
        have HB := n1_
        have HO270 := n2_
        clear n0_ n1_ n2_
        clear ho hb hg hat
        refine hK.out _ _ ⟨(blk_cell BK212.out 0).trans rfl, (blk_cell BK212.out 1).trans rfl⟩ (fun hHeld => ?_)
        clear hK K
        refine norm_ (a' := ?_) ?_ ?_
        rotate_left
        · show Act.put _ (some 58) _ = _
          simp only [Act.put, List.setIfInBounds_toArray, List.set_cons_zero, List.set_cons_succ, i64_w, i32_w]
          rfl
        refine one_ (i := 5) (N := some 60) #[true, true, true, true, true, true, false, true, true, true, false, false] rfl rfl (one_of HT_.out (by kernel_rfl)) (by decide) (fun K hK => ?_)
        refine Kd.R_lit_step k23 _ 23 ?hg (N := 60) ?hd (xs := ([(⟨a1_0, a1_1⟩ : S23)] : List (S23))) (inner := [.int .i64 a1_0, .int .i64 a1_1]) (ok := fun _ => True) (okp := fun _ => True) ?hr ?hp (fun _ hk => hk) trivial (Below.refl _ _) (Nat.le_refl _) (by simp) ?_; (case hd => rfl); (case hg => rfl); (case hr => first | (go_simp; done) | (go_simp; rfl)); (case hp => exact (Reps.c2 (show Kd.M k23 _ _ _ (⟨a1_0, a1_1⟩ : S23) [.int .i64 a1_0, .int .i64 a1_1] from (k23_mkM _ _ _ (⟨a1_0, a1_1⟩ : S23) )) (Reps.none _ _)))
        intro v272 w72 ho73 hb hg_ hnew_
        clear hg_ hnew_
        (first | rw [← Ny271.out] at ho73 | (simp only [Int.reduceToNat] at ho73; rw [← Ny271.out] at ho73))
        have n0_ := Aside0.mk (Kd.R_elder' (by (with_reducible repeat (first | apply Kd.R_alloc | apply Kd.R_drewN | apply Kd.R_drew)); exact HO270.out) (Kd.R_base ho73) hb)
        have n1_ := Aside0.mk (Kd.R_lower (Kd.R_newB (Kd.R_new' ho73 (Kd.R_lt (by (with_reducible repeat (first | apply Kd.R_alloc | apply Kd.R_drewN | apply Kd.R_drew)); exact HO270.out))) (g := w.heap.size) (o := .cells #[.int .i64 a1_0, .int .i64 a1_1] 23 (0, 0)) (by (with_reducible repeat (first | refine blk_drewN ?_ _ | refine blk_drew ?_ | refine blk_alloc ?_ _)); exact BK212.out)) (below_size (by repeat (first | (with_reducible first | exact HB.out | apply below_alloc | apply pw_below_drewN | apply below_drew1 | refine below_set ?_ GE212.out) | exact HB.out))))
        have n2_ := Aside0.mk (blk_below (g := w.heap.size) (o := .cells #[.int .i64 a1_0, .int .i64 a1_1] 23 (0, 0)) (by (with_reducible repeat (first | refine blk_drewN ?_ _ | refine blk_drew ?_ | refine blk_alloc ?_ _)); exact BK212.out) hb)
        have n3_ := Aside0.mk (below_step (by repeat (first | (with_reducible first | exact HB.out | apply below_alloc | apply pw_below_drewN | apply below_drew1 | refine below_set ?_ GE212.out) | exact HB.out)) hb)
        clear HO270
        clear BK212
        clear HB
        have HO270 := n0_
        have HO273 := n1_
        have BK212 := n2_
        have HB := n3_
        clear n0_ n1_ n2_ n3_
        clear hb ho73
        refine hK.out _ _ ⟨(blk_cell BK212.out 0).trans rfl, (blk_cell BK212.out 1).trans rfl⟩ (fun hHeld => ?_)
        clear hK K
        refine norm_ (a' := ?_) ?_ ?_
        rotate_left
        · show Act.put _ (some 60) _ = _
          simp only [Act.put, List.setIfInBounds_toArray, List.set_cons_zero, List.set_cons_succ, i64_w, i32_w]
          rfl
        exact norm_ (by simp only [putAll, Act.put, List.setIfInBounds_toArray, List.set_cons_zero, List.set_cons_succ]) (hCont (v269, v272) _ ⟨hHeld, (by (with_reducible repeat (first | apply Kd.R_alloc | apply Kd.R_drewN | apply Kd.R_drew)); exact Kd.R_mono HO270.out (fun _ hk => ⟨hk.2, hk.1⟩)), (by (with_reducible repeat (first | apply Kd.R_alloc | apply Kd.R_drewN | apply Kd.R_drew)); exact Kd.R_mono HO273.out (fun _ hk => ⟨hk.1.2, hk.2⟩)), (by (with_reducible repeat (first | refine blk_drewN ?_ _ | refine blk_drew ?_ | refine blk_alloc ?_ _)); exact BK212.out), (by repeat (first | (with_reducible first | exact HB.out | apply below_alloc | apply pw_below_drewN | apply below_drew1 | refine below_set ?_ GE212.out) | exact HB.out))⟩)
      skip
      refine Kd.R_lit_step k23 _ 23 ?hg (N := 60) ?hd (xs := ([(⟨a1_0, a1_1⟩ : S23)] : List (S23))) (inner := [.int .i64 a1_0, .int .i64 a1_1]) (ok := fun _ => True) (okp := fun _ => True) ?hr ?hp (fun _ hk => hk) trivial (Below.refl _ _) (Nat.le_refl _) (by simp) ?_; (case hd => rfl); (case hg => rfl); (case hr => first | (go_simp; done) | (go_simp; rfl)); (case hp => exact (Reps.c2 (show Kd.M k23 _ _ _ (⟨a1_0, a1_1⟩ : S23) [.int .i64 a1_0, .int .i64 a1_1] from (k23_mkM _ _ _ (⟨a1_0, a1_1⟩ : S23) )) (Reps.none _ _)))
      intro v272 w71 ho72 hb hg_ hnew_
      clear hg_ hnew_
      (first | rw [← Ny271.out] at ho72 | (simp only [Int.reduceToNat] at ho72; rw [← Ny271.out] at ho72))
      have n0_ := Aside0.mk (Kd.R_lower (Kd.R_newB ho72 (g := w.heap.size) (o := .cells #[.int .i64 a1_0, .int .i64 a1_1] 23 (0, 0)) (by (with_reducible repeat (first | refine blk_drewN ?_ _ | refine blk_drew ?_ | refine blk_alloc ?_ _)); exact BK212.out)) (below_size (by repeat (first | (with_reducible first | exact HB.out | apply below_alloc | apply pw_below_drewN | apply below_drew1 | refine below_set ?_ GE212.out) | exact HB.out))))
      have n1_ := Aside0.mk (blk_below (g := w.heap.size) (o := .cells #[.int .i64 a1_0, .int .i64 a1_1] 23 (0, 0)) (by (with_reducible repeat (first | refine blk_drewN ?_ _ | refine blk_drew ?_ | refine blk_alloc ?_ _)); exact BK212.out) hb)
      have n2_ := Aside0.mk (below_step (by repeat (first | (with_reducible first | exact HB.out | apply below_alloc | apply pw_below_drewN | apply below_drew1 | refine below_set ?_ GE212.out) | exact HB.out)) hb)
      clear BK212
      clear HB
      have HO273 := n0_
      have BK212 := n1_
      have HB := n2_
      clear n0_ n1_ n2_
      clear hb ho72
      refine hK.out _ _ ⟨(blk_cell BK212.out 0).trans rfl, (blk_cell BK212.out 1).trans rfl⟩ (fun hHeld => ?_)
      clear hK K
      refine norm_ (a' := ?_) ?_ ?_
      rotate_left
      · show Act.put _ (some 60) _ = _
        simp only [Act.put, List.setIfInBounds_toArray, List.set_cons_zero, List.set_cons_succ, i64_w, i32_w]
        rfl
      refine one_ (i := 3) (N := some 58) #[true, true, true, true, true, true, false, true, true, true, false, false] rfl rfl (one_of HT_.out (by kernel_rfl)) (by decide) (fun K hK => ?_)
      refine Kd.R_append_rows_step k23 (w0 := w) w.heap.size (by rfl) (.const (.slice none 0 0)) (.tmp 57) 28 23 (.agg #[(.int .i64 0), (.int .i64 0)]) 16 rfl Try.underlying28 info23 rfl (by decide) (by omega) (.slice none 0 0) ([] : List (S23)) y264 _ _ _ (fun k_ => some k_ ≠ (v272 : Value).ownBlock ∧ k_ ≠ w.heap.size) (fun _ => False) rfl rfl ?aO ?aR (fun _ _ h => h) (fun _ h => h.elim) ?aF ?aB ?aS ?aL ?_
      (case aR => repeat (first | exact (Kd.C_below HR267.out HB.out) | (with_reducible refine Kd.C_alloc ?_ _) | (with_reducible refine Kd.C_drewN ?_ _) | (with_reducible refine Kd.C_drew ?_)))
      (case aB => exact (by repeat (first | (with_reducible first | exact HB.out | apply below_alloc | apply pw_below_drewN | apply below_drew1 | refine below_set ?_ GE212.out) | exact HB.out)))
      (case aF => exact (fun k_ hk => ⟨Kd.fresh' (Kd.R_lt (by (with_reducible repeat (first | apply Kd.R_alloc | apply Kd.R_drewN | apply Kd.R_drew)); exact HO273.out)) k_ hk, Kd.freshB (g := w.heap.size) (o := .cells #[.int .i64 a1_0, .int .i64 a1_1] 23 (0, 0)) (by (with_reducible repeat (first | refine blk_drewN ?_ _ | refine blk_drew ?_ | refine blk_alloc ?_ _)); exact BK212.out) k_ hk⟩))
      (case aO => exact ((Kd.R_nil _ _ _ _ (fun k_ => some k_ ≠ (v272 : Value).ownBlock ∧ k_ ≠ w.heap.size))))
      (case aS => exact (below_size (by repeat (first | (with_reducible first | exact HB.out | apply below_alloc | apply pw_below_drewN | apply below_drew1 | refine below_set ?_ GE212.out) | exact HB.out))))
      (case aL => have := LMc61.out; omega)
      intro v269 w73 ho hb hg hat
      rw [← Ny268.out] at ho
      have n0_ := Aside0.mk (blk_grown (g := w.heap.size) (o := .cells #[.int .i64 a1_0, .int .i64 a1_1] 23 (0, 0)) (by (with_reducible repeat (first | refine blk_drewN ?_ _ | refine blk_drew ?_ | refine blk_alloc ?_ _)); exact BK212.out) hg (by simp [Value.ownBlock]))
      have n1_ := Aside0.mk (Kd.R_after (Kd.R_apart_nil (by (with_reducible repeat (first | apply Kd.R_alloc | apply Kd.R_drewN | apply Kd.R_drew)); exact HO273.out)) hg hat)
      have n2_ := Aside0.mk (hb)
      have n3_ := Aside0.mk (ho)
      clear BK212
      clear HO273
      clear HB
      have BK212 := n0_
      have HO273 := n1_
      have HB := n2_
      have HO270 := n3_
      clear n0_ n1_ n2_ n3_
      clear ho hb hg hat
      refine hK.out _ _ ⟨(blk_cell BK212.out 0).trans rfl, (blk_cell BK212.out 1).trans rfl⟩ (fun hHeld => ?_)
      clear hK K
      refine norm_ (a' := ?_) ?_ ?_
      rotate_left
      · show Act.put _ (some 58) _ = _
        simp only [Act.put, List.setIfInBounds_toArray, List.set_cons_zero, List.set_cons_succ, i64_w, i32_w]
        rfl
      exact norm_ (by simp only [putAll, Act.put, List.setIfInBounds_toArray, List.set_cons_zero, List.set_cons_succ]) (hCont (v269, v272) _ ⟨hHeld, (by (with_reducible repeat (first | apply Kd.R_alloc | apply Kd.R_drewN | apply Kd.R_drew)); exact HO270.out), (by (with_reducible repeat (first | apply Kd.R_alloc | apply Kd.R_drewN | apply Kd.R_drew)); exact Kd.R_mono HO273.out (fun _ hk => ⟨hk.2, hk.1.2⟩)), (by (with_reducible repeat (first | refine blk_drewN ?_ _ | refine blk_drew ?_ | refine blk_alloc ?_ _)); exact BK212.out), (by repeat (first | (with_reducible first | exact HB.out | apply below_alloc | apply pw_below_drewN | apply below_drew1 | refine below_set ?_ GE212.out) | exact HB.out))⟩)
    rintro ⟨v269, v272⟩ w74 ⟨hS_, h0_, h1_, h2_, h3_⟩
    have n0_ : Aside0 (Kd.R k23 23 w74 w.heap.size (fun k_ => some k_ ≠ (v272 : Value).ownBlock ∧ k_ ≠ w.heap.size) v269 y268) := ⟨h0_⟩
    have n1_ : Aside0 (Kd.R k23 23 w74 w.heap.size (fun k_ => some k_ ≠ (v269 : Value).ownBlock ∧ k_ ≠ w.heap.size) v272 y271) := ⟨h1_⟩
    have n2_ : Aside0 (w74.heap[w.heap.size]? = some (.cells #[.int .i64 a1_0, .int .i64 a1_1] 23 (0, 0))) := ⟨h2_⟩
    have n3_ : Aside0 (Below w.heap.size w w74) := ⟨h3_⟩
    clear BK212
    clear HB
    clear h0_ h1_ h2_ h3_
    have HO270 := n0_
    have HO273 := n1_
    have BK212 := n2_
    have HB := n3_
    clear n0_ n1_ n2_ n3_
    have hHeld : w74.cell? ⟨w.heap.size, 0, none⟩ = some (.int .i64 a1_0) ∧ w74.cell? ⟨w.heap.size, 1, none⟩ = some (.int .i64 a1_1) := hS_
    obtain ⟨Ao76, co76, eo76⟩ := Kd.R_slice HO273.out
    (first | subst eo76 | (injection eo76 with f1_ f2_ f3_; have f4_ := f1_.symm; have f5_ := f3_.symm; clear f1_ f2_ f3_; subst f4_; subst f5_))
    refine norm_ (a' := ?_) ?_ ?_
    rotate_left
    · simp only [putAll, Act.put, List.setIfInBounds_toArray, List.set_cons_zero, List.set_cons_succ]
      rfl
    refine one_ (i := 6) (N := some 61) #[true, true, true, true, true, true, true, true, true, true, false, false] rfl rfl (one_of HT_.out (by kernel_rfl)) (by decide) (fun K hK => ?_)
    refine Kd.R_append_rows_step k23 (w0 := w) w.heap.size (by rfl) (.tmp 58) (.tmp 60) 28 23 (.agg #[(.int .i64 0), (.int .i64 0)]) 16 rfl Try.underlying28 info23 rfl (by decide) (by omega) v269 y268 y271 _ _ _ (fun k_ => some k_ ≠ (.slice Ao76 y271.length co76 : Value).ownBlock ∧ k_ ≠ w.heap.size) (fun _ => False) rfl rfl ?aO ?aR (fun _ _ h => h) (fun _ h => h.elim) ?aF ?aB ?aS ?aL ?_
    (case aR => repeat (first | exact (Kd.R_reads' HO273.out).2.2 | (with_reducible refine Kd.C_alloc ?_ _) | (with_reducible refine Kd.C_drewN ?_ _) | (with_reducible refine Kd.C_drew ?_)))
    (case aB => exact (by repeat (first | (with_reducible first | exact HB.out | apply below_alloc | apply pw_below_drewN | apply below_drew1 | refine below_set ?_ GE212.out) | exact HB.out)))
    (case aF => exact (fun k_ hk => ⟨Kd.fresh' (Kd.R_lt (by (with_reducible repeat (first | apply Kd.R_alloc | apply Kd.R_drewN | apply Kd.R_drew)); exact HO273.out)) k_ hk, Kd.freshB (g := w.heap.size) (o := .cells #[.int .i64 a1_0, .int .i64 a1_1] 23 (0, 0)) (by (with_reducible repeat (first | refine blk_drewN ?_ _ | refine blk_drew ?_ | refine blk_alloc ?_ _)); exact BK212.out) k_ hk⟩))
    (case aO => exact (by (with_reducible repeat (first | apply Kd.R_alloc | apply Kd.R_drewN | apply Kd.R_drew)); exact HO270.out))
    (case aS => exact (below_size (by repeat (first | (with_reducible first | exact HB.out | apply below_alloc | apply pw_below_drewN | apply below_drew1 | refine below_set ?_ GE212.out) | exact HB.out))))
    (case aL => have := LMc62.out; omega)
    intro v275 w75 ho hb hg hat
    rw [← Ny274.out] at ho
    have n0_ := Aside0.mk (blk_grown (g := w.heap.size) (o := .cells #[.int .i64 a1_0, .int .i64 a1_1] 23 (0, 0)) (by (with_reducible repeat (first | refine blk_drewN ?_ _ | refine blk_drew ?_ | refine blk_alloc ?_ _)); exact BK212.out) hg (Kd.R_away HO270.out (fun _ hk => hk.2)))
    have n1_ := Aside0.mk (Kd.R_after (ok := (fun k_ => k_ ≠ w.heap.size)) (by (with_reducible repeat (first | apply Kd.R_alloc | apply Kd.R_drewN | apply Kd.R_drew)); exact Kd.R_mono HO273.out (fun _ hk => ⟨hk.2, hk.1⟩)) hg hat)
    have n2_ := Aside0.mk (hb)
    have n3_ := Aside0.mk (ho)
    clear BK212
    clear HO273
    clear HB
    clear HO270
    have BK212 := n0_
    have HO273 := n1_
    have HB := n2_
    have HO276 := n3_
    clear n0_ n1_ n2_ n3_
    clear ho hb hg hat
    refine hK.out _ _ ⟨(blk_cell BK212.out 0).trans rfl, (blk_cell BK212.out 1).trans rfl⟩ (fun hHeld => ?_)
    clear hK K
    refine norm_ (a' := ?_) ?_ ?_
    rotate_left
    · show Act.put _ (some 61) _ = _
      simp only [Act.put, List.setIfInBounds_toArray, List.set_cons_zero, List.set_cons_succ, i64_w, i32_w]
      rfl
    refine one_ (i := 10) (N := some 65) #[true, true, true, true, true, true, true, true, true, true, true, false] rfl rfl (one_of HT_.out (by kernel_rfl)) (by decide) (fun K hK => ?_)
    refine Kd.R_append_rows_step k23 (w0 := w) w.heap.size (by rfl) (.tmp 61) (.tmp 64) 28 23 (.agg #[(.int .i64 0), (.int .i64 0)]) 16 rfl Try.underlying28 info23 rfl (by decide) (by omega) v275 y274 y277 _ _ _ (fun k_ => some k_ ≠ (.slice Ao76 y271.length co76 : Value).ownBlock ∧ k_ ≠ w.heap.size) (fun _ => False) rfl rfl ?aO ?aR (fun _ _ h => h) (fun _ h => h.elim) ?aF ?aB ?aS ?aL ?_
    (case aR => repeat (first | exact (Kd.C_below HR280.out HB.out) | (with_reducible refine Kd.C_alloc ?_ _) | (with_reducible refine Kd.C_drewN ?_ _) | (with_reducible refine Kd.C_drew ?_)))
    (case aB => exact (by repeat (first | (with_reducible first | exact HB.out | apply below_alloc | apply pw_below_drewN | apply below_drew1 | refine below_set ?_ GE212.out) | exact HB.out)))
    (case aF => exact (fun k_ hk => ⟨Kd.fresh' (Kd.R_lt (by (with_reducible repeat (first | apply Kd.R_alloc | apply Kd.R_drewN | apply Kd.R_drew)); exact HO273.out)) k_ hk, Kd.freshB (g := w.heap.size) (o := .cells #[.int .i64 a1_0, .int .i64 a1_1] 23 (0, 0)) (by (with_reducible repeat (first | refine blk_drewN ?_ _ | refine blk_drew ?_ | refine blk_alloc ?_ _)); exact BK212.out) k_ hk⟩))
    (case aO => exact (by (with_reducible repeat (first | apply Kd.R_alloc | apply Kd.R_drewN | apply Kd.R_drew)); exact HO276.out))
    (case aS => exact (below_size (by repeat (first | (with_reducible first | exact HB.out | apply below_alloc | apply pw_below_drewN | apply below_drew1 | refine below_set ?_ GE212.out) | exact HB.out))))
    (case aL => have := LMc65.out; omega)
    intro v282 w77 ho hb hg hat
    rw [← Ny281.out] at ho
    have n0_ := Aside0.mk (blk_grown (g := w.heap.size) (o := .cells #[.int .i64 a1_0, .int .i64 a1_1] 23 (0, 0)) (by (with_reducible repeat (first | refine blk_drewN ?_ _ | refine blk_drew ?_ | refine blk_alloc ?_ _)); exact BK212.out) hg (Kd.R_away HO276.out (fun _ hk => hk.2)))
    have n1_ := Aside0.mk (Kd.R_after (ok := (fun k_ => k_ ≠ w.heap.size)) (by (with_reducible repeat (first | apply Kd.R_alloc | apply Kd.R_drewN | apply Kd.R_drew)); exact HO273.out) hg hat)
    have n2_ := Aside0.mk (hb)
    have n3_ := Aside0.mk (ho)
    clear BK212
    clear HO273
    clear HB
    clear HO276
    have BK212 := n0_
    have HO273 := n1_
    have HB := n2_
    have HO283 := n3_
    clear n0_ n1_ n2_ n3_
    clear ho hb hg hat
    refine hK.out _ _ ⟨(blk_cell BK212.out 0).trans rfl, (blk_cell BK212.out 1).trans rfl⟩ (fun hHeld => ?_)
    clear hK K
    refine norm_ (a' := ?_) ?_ ?_
    rotate_left
    · show Act.put _ (some 65) _ = _
      simp only [Act.put, List.setIfInBounds_toArray, List.set_cons_zero, List.set_cons_succ, i64_w, i32_w]
      rfl
    refine pure_ (i := 11) (N := some 4) (v := ?_) (a' := ?_) #[true, true, true, true, true, true, true, true, true, true, true, true] rfl rfl (any_of HT_.out (by kernel_rfl)) (fun _ _ _ h => h) (Or.inl ⟨by rfl, ?_⟩) ?_ ?_
    rotate_left
    · intro w'
      go_simp
      with_reducible rfl
    rotate_left
    · simp only [Act.put, List.setIfInBounds_toArray, List.set_cons_zero, List.set_cons_succ, i64_w, i32_w]
      rfl
    refine done_ (done_of HT_.out (by kernel_rfl)) ?_
    try go_wp2
    go_ret
    exact ⟨_, rfl, .inr (HFIN.out ▸ Kd.R_mono HO283.out (fun _ hk => trivial)), HB.out⟩
end Go.Proofs.Ytbecgpjdeophmaa.Q
