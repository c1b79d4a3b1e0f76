import Derived.Test.YtmmdlkeemafanaaNa
import Derived.Test.YtmmdlkeemafanaaMi
import Derived.Test.YtmmdlkeemafanaaMj
import Derived.Test.YtmmdlkeemafanaaTc
namespace Go.Proofs.Ytmmdlkeemafanaa.Q
open Go.RowKit Go.Proofs.YtmmdlkeemafanaaW Go.Proofs.YtmmdlkeemafanaaW.PrintWords

theorem chooses_ev (l : List Int) (a1 : Int) : Ev (fun k => corporalaw27_StrategyChooses.f k l a1) true := by
  obtain ⟨x, ⟨_, hG, hl0⟩, hx⟩ := list_ev l
  obtain ⟨st, hst, h0, h4⟩ := mod_f a1 4 (by omega) (by omega)
  have hs : ∀ m ∈ x, short m := fun m hm => (hG m hm).short
  have hl : x.length < 999 := by omega
  have hsub := chooseR_sub x st
  have hlen := hsub.length_le
  unfold corporalaw27_StrategyChooses.f
  refine Ev.bind hx ?_
  refine Ev.congr (fun k => by rw [hst, Option.bind_some]) ?_
  refine Ev.bind (choose_ev x hl hs st) (Ev.bind (rchoose_ev x hl hs st) ?_)
  refine Ev.congr (fun k => if_pos rfl) ?_
  refine Ev.bind (same24_ev _ (by omega) (fun m hm => hs m (hsub.mem hm))) ?_
  refine Ev.congr (fun k => if_pos rfl) ?_
  refine Ev.bind (spans_ev x (by omega)) (Ev.bind (rspans_ev x hl) (Ev.bind (same27_ev _ (nrm_len x hl)) ?_))
  refine Ev.congr (fun k => if_pos rfl) ?_
  exact Ev.bind known_ev (Ev.now _)
end Go.Proofs.Ytmmdlkeemafanaa.Q
namespace Go.Proofs.Ytmmdlkeemafanaa.Pure
open Go.Proofs.Ytmmdlkeemafanaa.Q
theorem StrategyChooses : corporalaw27_StrategyChooses.Pure := fun l0 a1 _ _ _ _ => (chooses_ev l0 a1).rounds
end Go.Proofs.Ytmmdlkeemafanaa.Pure
