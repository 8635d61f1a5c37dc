-- PRINTED by row.py: what the plain law of SuspectRenamed has to say.
import Derived.Test.YtfhmjleimampeaaK27
import Derived.Test.YtfhmjleimampeaaROpenSuspectRenamed
namespace Go.Proofs.Ytfhmjleimampeaa.K
open Go.RowKit Go.Proofs.YtfhmjleimampeaaW.PrintWords
def SuspectRenamedPure : Prop := ∀ (x0 : (List S30)) (x1 : Int) (x2 : Int) (x3 : Int), ok22 x0 → ok3 x1 → ok3 x2 → ok46 x3 → ∃ k, spilelaw34_SuspectRenamed.f k x0 x1 x2 x3 = some true
end Go.Proofs.Ytfhmjleimampeaa.K
