/- By hand: the example that each law checks first. -/
import Derived.Test.YtfjenooajbdcmaaK9
import Derived.Test.YtfjenooajbdcmaaPEv
import Derived.KernelRfl
namespace Go.Proofs.Ytfjenooajbdcmaa.K
open Go.RowKit Go.Proofs.YtfjenooajbdcmaaW.PrintWords
set_option maxRecDepth 100000 in
theorem awake_at : spilelaw39_awake.f 40 = some true := by kernel_rfl
theorem awake_ev : Ev (fun k => spilelaw39_awake.f k) true := Ev.of_mono (fun k => spilelaw39_awake.mono k) awake_at
#print axioms awake_ev
end Go.Proofs.Ytfjenooajbdcmaa.K
