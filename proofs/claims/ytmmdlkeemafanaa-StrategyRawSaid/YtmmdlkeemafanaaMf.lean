import Derived.Test.YtmmdlkeemafanaaMe
import Derived.Test.YtmmdlkeemafanaaQr
import Derived.Test.YtmmdlkeemafanaaQz
namespace Go.Proofs.Ytmmdlkeemafanaa.Q
open Go.RowKit Go.Proofs.YtmmdlkeemafanaaW Go.Proofs.YtmmdlkeemafanaaW.PrintWords

set_option maxRecDepth 100000 in
theorem known_at : corporalaw27_known.f 60 = some true := by kernel_rfl
theorem known_ev : Ev (fun k => corporalaw27_known.f k) true := Ev.of (fun k => corporalaw27_known.mono k) known_at

theorem raw_ev (l : List S38) (hs : ∀ m ∈ l, short m) (st : Int) : Ev (fun k => corporalaw27_StrategyRaw.f k l st) true := by
  unfold corporalaw27_StrategyRaw.f
  by_cases c : (l.length : Int) > 12
  · exact Ev.congr (fun k => if_pos c) (Ev.now _)
  · refine Ev.congr (fun k => if_neg c) ?_
    have hl : l.length < 999 := by omega
    have hsub := chooseR_sub l st
    have hn : (nrm (l.map sp)).length < 1000 := nrm_len l hl
    refine Ev.bind (choose_ev l hl hs st) (Ev.bind (rchoose_ev l hl hs st) ?_)
    refine Ev.congr (fun k => if_pos rfl) ?_
    refine Ev.bind (same24_ev _ (by have := hsub.length_le; omega) (fun m hm => hs m (hsub.mem hm))) ?_
    refine Ev.congr (fun k => if_pos rfl) ?_
    refine Ev.bind (spans_ev l (by omega)) (Ev.bind (rspans_ev l hl) (Ev.bind (same27_ev _ hn) ?_))
    refine Ev.congr (fun k => if_pos rfl) ?_
    exact Ev.bind known_ev (Ev.now _)

theorem raw_walk (W : World) (A0 : Option Addr) (c0 : Nat) (l0 : List S38) (hr0 : Kd.C k38 W A0 l0.length l0) (hc0 : l0.length ≤ c0) (hs : ∀ m ∈ l0, short m) (st : Int) :
    Calls Try.prog 4 #[.slice A0 l0.length c0, .int .i64 st] W fun e w' => e = .returned (.bool true) ∧ Below W.heap.size W w' := by
  obtain ⟨k, hk⟩ := (raw_ev l0 hs st).rounds
  exact corporalaw27_StrategyRaw.calls k A0 c0 l0 st true W hr0 hc0 hk
end Go.Proofs.Ytmmdlkeemafanaa.Q
