-- PRINTED by row.py: what the plain law of SuspectEqual has to say.
import Derived.Test.YtfhmjleimampeaaK22
import Derived.Test.YtfhmjleimampeaaROpenSuspectEqual
namespace Go.Proofs.Ytfhmjleimampeaa.K
open Go.RowKit Go.Proofs.YtfhmjleimampeaaW.PrintWords
def SuspectEqualPure : Prop := ∀ (x0 : (List S30)) (x1 : Int) (x2 : Int), ok22 x0 → ok3 x1 → ok3 x2 → ∃ k, spilelaw34_SuspectEqual.f k x0 x1 x2 = some true
end Go.Proofs.Ytfhmjleimampeaa.K
