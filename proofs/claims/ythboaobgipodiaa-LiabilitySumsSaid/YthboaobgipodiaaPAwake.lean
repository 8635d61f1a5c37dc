/- By hand: the example that each law checks first. -/
import Derived.Test.YthboaobgipodiaaK17
import Derived.Test.YthboaobgipodiaaPLaw
import Derived.KernelRfl
namespace Go.Proofs.Ythboaobgipodiaa.K
open Go.RowKit Go.Proofs.YthboaobgipodiaaW.PrintWords
set_option maxRecDepth 100000 in
theorem awake_at : spilelaw51_awake.f 40 = some true := by kernel_rfl
theorem awake_ev : Ev (fun k => spilelaw51_awake.f k) true := Ev.of_mono (fun k => spilelaw51_awake.mono k) awake_at
end Go.Proofs.Ythboaobgipodiaa.K
