/- 'StrategySpans': the law's call returns true: its walk, with the callees' contracts and what they compute. No condition but the argument's reading. -/
import Derived.Test.YtmmdlkeemafanaaTs
import Derived.Test.YtmmdlkeemafanaaNb
import Derived.Test.YtmmdlkeemafanaaTb
import Derived.Test.YtmmdlkeemafanaaQj
import Derived.Test.YtmmdlkeemafanaaQr
import Derived.Test.YtmmdlkeemafanaaMj
namespace Go.Proofs.Ytmmdlkeemafanaa.Q
open Go.RowKit Go.Proofs.YtmmdlkeemafanaaW Go.Proofs.YtmmdlkeemafanaaW.PrintWords

theorem sel_mem (C : List S40) (x : List S38) (m : S38) (hm : m ∈ x) : memB (sel C x) m.f0 m.f1 = decide (sp m ∈ C) := by
  unfold memB sel
  by_cases h : sp m ∈ C
  · rw [decide_eq_true h, List.any_eq_true]
    exact ⟨m, List.mem_filter.2 ⟨hm, by simpa using h⟩, by simp⟩
  · rw [decide_eq_false h, List.any_eq_false]
    intro n hn he
    obtain ⟨h1, h2⟩ := List.mem_filter.1 hn
    have h3 : sp n ∈ C := by simpa using h2
    have h4 : m.f0 = n.f0 ∧ m.f1 = n.f1 := by simpa using he
    exact h (by rw [show sp m = sp n from by unfold sp; rw [h4.1, h4.2]]; exact h3)

theorem good_wf {m : S38} (h : GoodL m) : (Lit.int .i64 m.f0).wf = true ∧ (Lit.int .i64 m.f1).wf = true := by
  have h1 := h.1.1
  have h2 := h.2
  exact ⟨small_wf h1.1 (by omega), small_wf (by omega) (by omega)⟩
theorem rd_mem (l : List S38) (j : Int) (h0 : 0 ≤ j) (h : j < l.length) : rd_T38 l j ∈ l := by
  unfold rd_T38
  rw [List.getD_eq_getElem?_getD, List.getElem?_eq_getElem (by omega)]
  exact List.getElem_mem _

theorem spans6_walk (a0 : Option Addr) (len0 cap0 : Nat) (z0 : List Int) (a1 : Int) (w : World) (w0 : (a0 = none ∧ len0 = 0 ∧ cap0 = 0 ∧ z0 = []) ∨ ∃ x, a0 = some x ∧ len0 ≤ cap0 ∧ cap0 ≤ maxLen ∧ z0.length = cap0 ∧ (∀ i, i < z0.length → w.cell? (x.add i) = some (.int .i64 (z0.getD i 0))) ∧ ∀ n ∈ z0, (Lit.int .i64 n).wf = true) :
    Calls Try.prog 6 #[.slice a0 len0 cap0, .int .i64 a1] w fun e w' => e = .returned (.bool true) ∧ Below w.heap.size w w' := by
  obtain ⟨l0, rfl, hr0, hm0, hw0, hc0⟩ := ReadsInt.ofRowC w0
  obtain ⟨x, ⟨hA, hG, hl⟩, hx⟩ := list_evL l0
  obtain ⟨st, hst, h0, h4⟩ := mod_f a1 4 (by omega) (by omega)
  have hG' : ∀ m ∈ x, GoodM m := fun m hm => (hG m hm).1
  have hsh : ∀ m ∈ x, short m := fun m hm => (hG m hm).short
  have c1 := choose_ev x (by omega) hsh st
  rw [choose_ok hA hG' h0 (by omega)] at c1
  obtain ⟨k1, hk1⟩ := hx.rounds
  obtain ⟨k2, hk2⟩ := c1.rounds
  have hsub := (sel_sub (chs st x) x).length_le
  have hin : ∀ m ∈ sel (chs st x) x, m ∈ x := fun m hm => (sel_sub (chs st x) x).mem hm
  refine spans6 x (sel (chs st x) x) st a1 a0 l0.length cap0 w (corporalaw27_list.calls k1 a0 cap0 l0 x w (Kd.C_of_reads (d := (0 : Int)) (h1 := fun _ => rfl) hr0) hc0 hk1)
    (fun W => (corporamade_Mod.calls a1 4 st W hst).mono fun e w' h => ⟨h.1, h.2.out⟩)
    (fun W A c hC hc => strategy_Choose.calls k2 st A c x (sel (chs st x) x) 0 W hC hc hk2)
    (fun j hj0 hj => good_wf (hG _ (hin _ (rd_mem _ j hj0 hj))))
    (fun j hj0 hj => good_wf (hG _ (rd_mem _ j hj0 hj))) ⟨?_⟩ short (fun j hj0 hj => hsh _ (rd_mem _ j hj0 hj)) ?_ (fun W => corporalaw27_known.calls 60 true W known_at) (by omega) (by omega)
  · conv => lhs; unfold sel
    exact List.filter_congr fun m hm => (sel_mem _ x m hm).symm
  · intro m hm W A c B d hA hc hB hd
    obtain ⟨k3, hk3⟩ := (cM_match m m hm).rounds
    rw [cM_self] at hk3
    exact match_Compare.calls k3 m.f0 m.f1 A c m.f2 m.f0 m.f1 B d m.f2 0 W hA hc hB hd hk3
end Go.Proofs.Ytmmdlkeemafanaa.Q
