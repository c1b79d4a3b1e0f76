import Derived.Test.YtbecgpjdeophmaaLi
import Derived.Test.YtbecgpjdeophmaaQy
namespace Go.Proofs.Ytbecgpjdeophmaa.Q
set_option linter.unusedVariables false
open Go.RowKit Go.Proofs.YtbecgpjdeophmaaW Go.Proofs.YtbecgpjdeophmaaW.PrintWords Go.Proofs.YtbecgpjdeophmaaW.PrintMore

/-- A list that begins elsewhere. -/
def trn (l : List S23) (by_ : Nat) (i : Nat) : List S23 := (List.range' i (l.length - i)).map fun j => l.getD ((j + by_) % l.length) z23
def trnAll (l : List S23) (by_ : Nat) : List S23 := trn l by_ 0 ++ l.take 1

theorem turned_l0 (l : List S23) (t : Nat) (ht : t ≤ 100) (hl : l.length ≤ 60) (d : Nat) : ∀ (i : Nat) (m : List S23), i ≤ l.length → l.length - i = d → m.length ≤ i →
    Ev (fun n => corporalaw11_turned.l0 n l (t : Int) m (l.length : Int) (i : Int)) (m ++ trn l t i ++ l.take 1) := by
  induction d with
  | zero =>
    intro i m hi hd hm
    have e : trn l t i = [] := by unfold trn; rw [hd]; rfl
    rw [e, List.append_nil]
    refine Ev.step (f := fun _ => some (m ++ l.take 1)) (fun n => ?_) (Ev.now _)
    simp only [corporalaw11_turned.l0]
    rw [if_neg (by omega)]
    match l with
    | [] => simp
    | x :: r =>
      rw [if_pos (by simp), if_pos (by simp), if_pos (by omega)]
      rfl
  | succ d ih =>
    intro i m hi hd hm
    have hlt : i < l.length := by omega
    have e : trn l t i = l.getD ((i + t) % l.length) z23 :: trn l t (i + 1) := by
      unfold trn
      rw [hd, show l.length - (i + 1) = d by omega, List.range'_succ, List.map_cons]
    have em : Int.tmod (wrap64 ((i : Int) + (t : Int))) (l.length : Int) = (((i + t) % l.length : Nat) : Int) := by
      rw [show wrap64 ((i : Int) + (t : Int)) = ((i + t : Nat) : Int) by unfold wrap64; omega, Int.tmod_eq_emod_of_nonneg (by omega)]
      rfl
    have hmod : (i + t) % l.length < l.length := Nat.mod_lt _ (by omega)
    have := ih (i + 1) (m ++ [l.getD ((i + t) % l.length) z23]) (by omega) (by omega) (by simp; omega)
    rw [e]
    rw [List.append_assoc m, List.singleton_append] at this
    refine Ev.step (fun n => ?_) this
    simp only [corporalaw11_turned.l0]
    rw [em, if_pos (by omega), if_neg (by omega), if_pos (by omega), if_pos (by omega), if_pos (by omega), wrap_succ (by omega), rd_nat]

theorem turned_ev (l : List S23) (t : Int) (h0 : 0 ≤ t) (h1 : t ≤ 100) (hl : l.length ≤ 60) : Ev (fun n => corporalaw11_turned.f n l t) (trnAll l t.toNat) := by
  have e : t = (t.toNat : Int) := by omega
  unfold corporalaw11_turned.f
  conv in (corporalaw11_turned.l0 _ _ t _ _ _) => rw [e]
  exact turned_l0 l t.toNat (by omega) hl _ 0 [] (Nat.zero_le _) rfl (Nat.le_refl _)

theorem mem_trnAll (l : List S23) (t : Nat) (x : S23) : x ∈ trnAll l t ↔ x ∈ l := by
  unfold trnAll trn
  rw [List.mem_append, List.mem_map]
  constructor
  · rintro (⟨j, hj, rfl⟩ | h)
    · have hj' : j < l.length := by have := List.mem_range'_1.1 hj; omega
      have hm : (j + t) % l.length < l.length := Nat.mod_lt _ (by omega)
      rw [List.getD_eq_getElem?_getD, List.getElem?_eq_getElem hm]
      exact List.getElem_mem hm
    · exact List.mem_of_mem_take h
  · intro h
    obtain ⟨i, hi, rfl⟩ := List.getElem_of_mem h
    left
    have hn : 0 < l.length := by omega
    refine ⟨(i + (l.length - t % l.length)) % l.length, List.mem_range'_1.2 ⟨Nat.zero_le _, by have := Nat.mod_lt (i + (l.length - t % l.length)) hn; omega⟩, ?_⟩
    have e : ((i + (l.length - t % l.length)) % l.length + t) % l.length = i := by
      have h1 : t % l.length < l.length := Nat.mod_lt _ hn
      have h2 : t = l.length * (t / l.length) + t % l.length := (Nat.div_add_mod t l.length).symm
      rw [Nat.mod_add_mod]
      have h3 : i + (l.length - t % l.length) + t = i + l.length * (t / l.length + 1) := by rw [Nat.mul_add]; omega
      rw [h3, Nat.add_mul_mod_self_left, Nat.mod_eq_of_lt hi]
    rw [e, List.getD_eq_getElem?_getD, List.getElem?_eq_getElem hi]
    rfl
theorem length_trnAll (l : List S23) (t : Nat) : (trnAll l t).length ≤ l.length + 1 := by unfold trnAll trn; simp; omega

theorem chk_same {a a' : List S23} {r r' : List (List S23)} (ha : a.length ≤ 60) (ha' : a'.length ≤ 61) (h : ∀ x, x ∈ a' ↔ x ∈ a) (hr : chk r' = chk r) : chk (a' :: r') = chk (a :: r) := by
  have e : a'.all vldB = a.all vldB := by
    rw [Bool.eq_iff_iff, List.all_eq_true, List.all_eq_true]; simp only [h]
  have e1 : chk (a' :: r') = if a'.all vldB = true then chk r' else 8 := by rw [chk, if_neg (by omega)]
  have e2 : chk (a :: r) = if a.all vldB = true then chk r else 8 := by rw [chk, if_neg (by omega)]
  rw [e1, e2, e, hr]
theorem nrm_same {a a' : List S23} (h : ∀ x, x ∈ a' ↔ x ∈ a) : nrm a' = nrm a := nrm_unique (asc_nrm a') fun x => by rw [mem_nrm, h]

theorem orders_ev (a b : List S23) (t : Int) (hw : ∀ x ∈ b, Wrd x) : Ev (fun k => corporalaw11_IntervalOrders.f k a b t) true := by
  have hj : Ev (fun k => corporalaw11_IntervalOrders.j0 k a b t true) true :=
    Ev.step (f := fun _ => some true) (fun k => by simp only [corporalaw11_IntervalOrders.j0]; rw [if_pos trivial]) (Ev.now _)
  unfold corporalaw11_IntervalOrders.f
  refine Ev.bind (long_ev [a, b] (by simp)) ?_
  cases hl : ([a, b].any fun x => decide (60 < x.length)) with
  | true => exact Ev.congr (fun k => by rw [if_pos rfl]) hj
  | false =>
    refine Ev.congr (fun k => by rw [if_neg (show ¬ (false = true) by simp)]) ?_
    by_cases h0 : t < 0
    · exact Ev.congr (fun k => by rw [if_pos h0]) hj
    · refine Ev.congr (fun k => by rw [if_neg h0]) ?_
      by_cases h1 : t > 100
      · exact Ev.congr (fun k => by rw [decide_eq_true h1]) hj
      · refine Ev.congr (fun k => by rw [decide_eq_false h1]) ?_
        have la : a.length ≤ 60 ∧ b.length ≤ 60 := by
          simp at hl; omega
        have ma := mem_trnAll a t.toNat
        have mb := mem_trnAll b t.toNat
        have na := length_trnAll a t.toNat
        have nb := length_trnAll b t.toNat
        have hx := turned_ev a t (by omega) (by omega) la.1
        have hy := turned_ev b t (by omega) (by omega) la.2
        generalize trnAll a t.toNat = a' at *
        generalize trnAll b t.toNat = b' at *
        have hN := Normalize_ev a
        have hN' := Normalize_ev a'
        have hA := Within_ev a b
        have hA' := Within_ev a' b'
        have hB := Containing_ev a b hw
        have hB' := Containing_ev a' b' (fun x hx => hw x ((mb x).1 hx))
        have c1 : chk [a'] = chk [a] := chk_same la.1 (by omega) ma rfl
        have c2 : chk [b'] = chk [b] := chk_same la.2 (by omega) mb rfl
        have c3 : chk [a', b'] = chk [a, b] := chk_same la.1 (by omega) ma c2
        rw [c1, nrm_same ma] at hN'
        rw [c3, nrm_same ma, nrm_same mb] at hA' hB'
        have l1 : (res (nrm a) (chk [a])).1.length ≤ 1000000 := res_len fun h => by have := length_nrm a; omega
        refine Ev.step (fun k => by simp only [corporalaw11_IntervalOrders.j0]; rw [if_neg (by simp)]) ?_
        refine Ev.bind hx ?_
        refine Ev.bind hy ?_
        refine Ev.bind hN ?_
        refine Ev.bind hN' ?_
        refine Ev.bind hA ?_
        refine Ev.bind hA' ?_
        refine Ev.bind hB ?_
        refine Ev.bind hB' ?_
        refine Ev.congr (fun k => by rw [if_pos rfl]) ?_
        refine Ev.bind (Same_ev _ l1) ?_
        refine Ev.congr (fun k => by rw [if_pos rfl, if_pos rfl]) ?_
        refine Ev.bind (Same_ev _ (len_res a b _)) ?_
        refine Ev.congr (fun k => by rw [if_pos rfl, if_pos rfl]) ?_
        refine Ev.bind (Same_ev _ (len_res a b _)) ?_
        refine Ev.congr (fun k => by rw [if_pos rfl]) ?_
        exact Ev.bind awake_ev (Ev.now _)

theorem orders_walk (W : World) (a : Option Addr) (c : Nat) (l : List S23) (hr : Kd.C k23 W a l.length l) (hc : l.length ≤ c) (_ : ∀ x ∈ l, Wrd x) (a1 : Option Addr) (c1 : Nat) (l1 : List S23) (hr1 : Kd.C k23 W a1 l1.length l1) (hc1 : l1.length ≤ c1) (hw : ∀ x ∈ l1, Wrd x) (t : Int) {P : Prop} (_ : P) :
    Calls Try.prog 8 #[.slice a l.length c, .slice a1 l1.length c1, .int .i64 t] W fun e w' => e = .returned (.bool true) ∧ Below W.heap.size W w' := by
  obtain ⟨k, h⟩ := (orders_ev l l1 t hw).rounds
  exact corporalaw11_IntervalOrders.calls k _ a c l _ a1 c1 l1 t true W (V23 hr hc) (V23 hr1 hc1) h
end Go.Proofs.Ytbecgpjdeophmaa.Q
