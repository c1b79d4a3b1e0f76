import Derived.Test.YtmmdlkeemafanaaNb
import Derived.Test.YtmmdlkeemafanaaTd
namespace Go.Proofs.Ytmmdlkeemafanaa.Q
open Go.RowKit Go.Proofs.YtmmdlkeemafanaaW Go.Proofs.YtmmdlkeemafanaaW.PrintWords

theorem twice_ev (l : List Int) (a1 : Int) : Ev (fun k => corporalaw27_StrategyTwice.f k l a1) true := by
  obtain ⟨x, ⟨hA, hG, hl⟩, hx⟩ := list_ev l
  obtain ⟨st, hst, h0, h4⟩ := mod_f a1 4 (by omega) (by omega)
  have hsh : ∀ m ∈ x, short m := fun m hm => (hG m hm).short
  have c1 := choose_ev x (by omega) hsh st
  rw [choose_ok hA hG h0 (by omega)] at c1
  have hsub : List.Sublist (sel (chs st x) x) x := sel_sub _ _
  have hA2 : AscM (sel (chs st x) x) := AscM.sub hsub hA
  have hG2 : ∀ m ∈ sel (chs st x) x, GoodM m := fun m hm => hG m (hsub.mem hm)
  have hl2 := hsub.length_le
  have c2 := choose_ev (sel (chs st x) x) (by omega) (fun m hm => hsh m (hsub.mem hm)) st
  rw [choose_ok hA2 hG2 h0 (by omega), sel_twice hG] at c2
  unfold corporalaw27_StrategyTwice.f
  refine Ev.bind hx ?_
  refine Ev.congr (fun k => by rw [hst, Option.bind_some]) ?_
  refine Ev.bind c1 (Ev.bind c2 ?_)
  refine Ev.congr (fun k => if_pos rfl) ?_
  refine Ev.congr (fun k => if_pos rfl) ?_
  refine Ev.bind (same24_ev (sel (chs st x) x) (by omega) (fun m hm => hsh m (hsub.mem hm))) ?_
  refine Ev.congr (fun k => if_pos rfl) ?_
  have e : (decide (((sel (chs st x) x).length : Int) > 0) == decide ((x.length : Int) > 0)) = true := by
    by_cases c : x = []
    · subst c; rfl
    · have d := sel_some hG h0 (by omega) c
      have e1 := List.length_pos_iff.2 c
      have e2 := List.length_pos_iff.2 d
      rw [decide_eq_true (by omega), decide_eq_true (by omega)]
      rfl
  refine Ev.congr (fun k => if_pos e) ?_
  exact Ev.bind known_ev (Ev.now _)
end Go.Proofs.Ytmmdlkeemafanaa.Q
namespace Go.Proofs.Ytmmdlkeemafanaa.Pure
open Go.Proofs.Ytmmdlkeemafanaa.Q
theorem StrategyTwice : corporalaw27_StrategyTwice.Pure := fun l0 a1 _ _ _ _ => (twice_ev l0 a1).rounds
end Go.Proofs.Ytmmdlkeemafanaa.Pure
