import Derived.Test.YtbecgpjdeophmaaLf4
import Derived.Test.YtbecgpjdeophmaaQ6
namespace Go.Proofs.Ytbecgpjdeophmaa.Q
set_option linter.unusedVariables false
open Go.RowKit Go.Proofs.YtbecgpjdeophmaaW Go.Proofs.YtbecgpjdeophmaaW.PrintWords Go.Proofs.YtbecgpjdeophmaaW.PrintMore

theorem nrm_rep (n : Nat) (h : 0 < n) (s : S23) : nrm (List.replicate n s) = [s] :=
  (nrm_unique (List.pairwise_singleton _ _) fun x => by
    rw [List.mem_singleton, List.mem_replicate]
    exact ⟨fun e => ⟨by omega, e⟩, fun e => e.2⟩).symm

theorem limits_end (n : Nat) (more : Bool) (s : S23) (hn : n = if more = true then 4097 else 4096) :
    Ev (fun k => Lim.l0 k more (List.replicate n s) (n : Int) (n : Int) s.f0 s.f1) true := by
  have fin : Ev (fun k => (corporalaw11_awake.f k).bind fun t => some t) true := Ev.bind awake_ev (Ev.now _)
  refine Ev.step (fun k => by simp only [Lim.l0]; rw [if_neg (by omega)]) ?_
  refine Ev.bind (Normalize_ev _) ?_
  refine Ev.bind (Cover_ev _) ?_
  cases more with
  | true =>
    rw [if_pos rfl] at hn
    have e : chk [List.replicate n s] = 2 := by rw [chk, if_pos (by rw [List.length_replicate]; omega)]
    rw [e, if_neg (by omega), if_neg (by omega)]
    refine Ev.congr (fun k => ?_) fin
    rw [if_pos rfl, if_pos rfl, if_pos rfl, if_pos (by show wrap64 (((0 : Nat) : Int) + ((0 : Nat) : Int)) = 0; unfold wrap64; omega)]
  | false =>
    rw [if_neg (by simp)] at hn
    have e : chk [List.replicate n s] = if Vld s then 0 else 8 := by
      rw [chk, if_neg (by rw [List.length_replicate]; omega)]
      have e2 : (List.replicate n s).all vldB = decide (Vld s) := by
        rw [Bool.eq_iff_iff, List.all_eq_true, decide_eq_true_iff]
        constructor
        · intro h
          exact of_decide_eq_true (h s (List.mem_replicate.2 ⟨by omega, rfl⟩))
        · intro h x hx
          rw [(List.mem_replicate.1 hx).2]
          exact decide_eq_true h
      rw [e2]
      by_cases v : Vld s
      · rw [if_pos (decide_eq_true v), if_pos v]; rfl
      · rw [if_neg (by simpa using v), if_neg v]
    rw [e]
    refine Ev.congr (fun k => by rw [if_neg (show ¬ (false = true) by simp), Valid_f, Option.bind_some]) ?_
    by_cases v : Vld s
    · rw [if_pos v, if_pos rfl, if_pos rfl, nrm_rep n (by omega) s]
      refine Ev.congr (fun k => ?_) fin
      rw [show decide (0 ≤ s.f0 ∧ s.f0 < s.f1) = true from decide_eq_true v, if_pos rfl, if_pos rfl, if_pos rfl, if_pos (by rfl), if_pos (by rfl), if_pos (by show (0 : Int) < ((1 : Nat) : Int); omega), if_pos (by show ((s.f0 == s.f0) && (s.f1 == s.f1)) = true; simp), if_pos (by show (0 : Int) < ((1 : Nat) : Int); omega), if_pos (by show ((s.f0 == s.f0) && (s.f1 == s.f1)) = true; simp)]
    · rw [if_neg v, if_neg (by omega), if_neg (by omega)]
      refine Ev.congr (fun k => ?_) fin
      rw [show decide (0 ≤ s.f0 ∧ s.f0 < s.f1) = false from decide_eq_false v, if_neg (by simp), if_pos rfl, if_pos rfl, if_pos (by show wrap64 (((0 : Nat) : Int) + ((0 : Nat) : Int)) = 0; unfold wrap64; omega)]

theorem limits_l0 (n : Nat) (hn' : n ≤ 4097) (more : Bool) (s : S23) (hn : n = if more = true then 4097 else 4096) (d : Nat) : ∀ (i : Nat) (y : List S23), i ≤ n → n - i = d → y.length = n → (∀ j, j < i → y[j]? = some s) →
    Ev (fun k => Lim.l0 k more y (n : Int) (i : Int) s.f0 s.f1) true := by
  induction d with
  | zero =>
    intro i y hi hd hy hs
    have e : y = List.replicate n s := by
      refine List.ext_getElem? fun j => ?_
      by_cases h : j < n
      · rw [hs j (by omega), List.getElem?_replicate, if_pos h]
      · rw [List.getElem?_eq_none (by omega), List.getElem?_eq_none (by rw [List.length_replicate]; omega)]
    rw [e, show i = n by omega]
    exact limits_end n more s hn
  | succ d ih =>
    intro i y hi hd hy hs
    refine Ev.step (f := fun k => Lim.l0 k more (y.set i s) (n : Int) ((i + 1 : Nat) : Int) s.f0 s.f1) (fun k => ?_) (ih (i + 1) _ (by omega) (by omega) (by rw [List.length_set]; exact hy) fun j hj => ?_)
    · simp only [Lim.l0]
      rw [if_pos (by omega), if_pos (by omega), if_pos (by omega), wrap_succ (by omega)]
      rfl
    · by_cases e : j = i
      · subst e; rw [List.getElem?_set_self (by omega)]
      · rw [List.getElem?_set_ne (by omega)]; exact hs j (by omega)

theorem limits_j0 (n : Nat) (more : Bool) (s : S23) (hn : n = if more = true then 4097 else 4096) : Ev (fun k => Lim.j0 k more (n : Int) s.f0 s.f1) true := by
  have h0 : n ≤ 4097 := by cases more <;> simp at hn <;> omega
  refine Ev.step (fun k => ?_) (limits_l0 n h0 more s hn _ 0 (List.replicate n z23) (Nat.zero_le _) rfl (List.length_replicate ..) (fun j hj => by omega))
  simp only [Lim.j0]
  rw [if_pos (by omega), if_pos (by omega), Option.bind_some]
  show Lim.l0 k more (List.replicate n z23) (((List.replicate n z23).length : Nat) : Int) 0 s.f0 s.f1 = _
  rw [List.length_replicate]
  rfl

theorem limits_ev (more : Bool) (s : S23) : Ev (fun k => Lim.f k more s.f0 s.f1) true := by
  unfold Lim.f
  cases more with
  | true => exact Ev.congr (f := fun k => Lim.j0 k true ((4097 : Nat) : Int) s.f0 s.f1) (fun k => by rw [if_pos rfl]; rfl) (limits_j0 4097 true s (by simp))
  | false => exact Ev.congr (f := fun k => Lim.j0 k false ((4096 : Nat) : Int) s.f0 s.f1) (fun k => by rw [if_neg (by simp)]; rfl) (limits_j0 4096 false s (by simp))

theorem limits_walk (W : World) (more : Bool) (x y : Int) : Calls Try.prog 6 #[.bool more, .agg #[.int .i64 x, .int .i64 y]] W fun e w' => e = .returned (.bool true) ∧ Below W.heap.size W w' := by
  obtain ⟨k, h⟩ := (limits_ev more ⟨x, y⟩).rounds
  exact Lim.calls k more x y true W h
end Go.Proofs.Ytbecgpjdeophmaa.Q
