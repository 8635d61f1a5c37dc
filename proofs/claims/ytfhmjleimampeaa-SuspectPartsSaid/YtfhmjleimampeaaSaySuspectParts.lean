-- PRINTED by row.py: what the plain law of SuspectParts has to say.
import Derived.Test.YtfhmjleimampeaaK15
import Derived.Test.YtfhmjleimampeaaROpenSuspectParts
namespace Go.Proofs.Ytfhmjleimampeaa.K
open Go.RowKit Go.Proofs.YtfhmjleimampeaaW.PrintWords
def SuspectPartsPure : Prop := ∀ (x0 : (List S30)) (x1 : Int) (x2 : Int), ok22 x0 → ok3 x1 → ok3 x2 → ∃ k, spilelaw34_SuspectParts.f k x0 x1 x2 = some true
end Go.Proofs.Ytfhmjleimampeaa.K
