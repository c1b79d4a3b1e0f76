import Derived.Test.YtmmdlkeemafanaaMe
import Derived.Test.YtmmdlkeemafanaaQr
namespace Go.Proofs.Ytmmdlkeemafanaa.Q
open Go.RowKit Go.Proofs.YtmmdlkeemafanaaW Go.Proofs.YtmmdlkeemafanaaW.PrintWords

set_option maxRecDepth 100000 in
theorem known_at : corporalaw27_known.f 60 = some true := by kernel_rfl
theorem known_ev : Ev (fun k => corporalaw27_known.f k) true := Ev.of (fun k => corporalaw27_known.mono k) known_at

end Go.Proofs.Ytmmdlkeemafanaa.Q
