/- By hand: the example that each law checks first. -/
import Derived.Test.YtfafeeobjlkjnaaK8
import Derived.Test.YtfafeeobjlkjnaaPLaw
import Derived.KernelRfl
namespace Go.Proofs.Ytfafeeobjlkjnaa.K
open Go.RowKit Go.Proofs.YtfafeeobjlkjnaaW.PrintWords
set_option maxRecDepth 100000 in
theorem awake_at : spilelaw42_awake.f 40 = some true := by kernel_rfl
theorem awake_ev : Ev (fun k => spilelaw42_awake.f k) true := Ev.of_mono (fun k => spilelaw42_awake.mono k) awake_at
end Go.Proofs.Ytfafeeobjlkjnaa.K
