import Derived.Test.YtbecgpjdeophmaaLf
import Derived.Test.YtbecgpjdeophmaaQk
namespace Go.Proofs.Ytbecgpjdeophmaa.Q
set_option linter.unusedVariables false
open Go.RowKit Go.Proofs.YtbecgpjdeophmaaW Go.Proofs.YtbecgpjdeophmaaW.PrintWords Go.Proofs.YtbecgpjdeophmaaW.PrintMore

theorem insert_ev (m : List S23) (s : S23) (h : m.length < 4096) : Ev (fun k => corporaref11_insert.f k m s.f0 s.f1) (ins m s) := ⟨0, fun k _ => by unfold corporaref11_insert.f; rw [if_pos h]⟩

end Go.Proofs.Ytbecgpjdeophmaa.Q
