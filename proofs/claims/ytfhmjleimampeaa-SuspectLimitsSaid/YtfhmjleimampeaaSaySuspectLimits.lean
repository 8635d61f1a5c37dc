-- PRINTED by row.py: what the plain law of SuspectLimits has to say.
import Derived.Test.YtfhmjleimampeaaK28
import Derived.Test.YtfhmjleimampeaaROpenSuspectLimits
namespace Go.Proofs.Ytfhmjleimampeaa.K
open Go.RowKit Go.Proofs.YtfhmjleimampeaaW.PrintWords
def SuspectLimitsPure : Prop := ∀ (x0 : (List S30)) (x1 : Int) (x2 : S42), ok22 x0 → ok3 x1 → ok42 x2 → ∃ k, spilelaw34_SuspectLimits.f k x0 x1 x2.f0 x2.f1 = some true
end Go.Proofs.Ytfhmjleimampeaa.K
