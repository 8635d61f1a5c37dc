-- PRINTED by row.py: what the plain law of SuspectTests has to say.
import Derived.Test.YtfhmjleimampeaaK19
import Derived.Test.YtfhmjleimampeaaROpenSuspectTests
namespace Go.Proofs.Ytfhmjleimampeaa.K
open Go.RowKit Go.Proofs.YtfhmjleimampeaaW.PrintWords
def SuspectTestsPure : Prop := ∀ (x0 : (List S30)) (x1 : Int) (x2 : Int), ok22 x0 → ok3 x1 → ok3 x2 → ∃ k, spilelaw34_SuspectTests.f k x0 x1 x2 = some true
end Go.Proofs.Ytfhmjleimampeaa.K
