import Derived.SizedLaws
import Derived.ChangeSlices
namespace Go.Proofs.YtefjmcljkmppoaaW.PrintWords
open Go.ChangeShapes Go.WideShapes
end Go.Proofs.YtefjmcljkmppoaaW.PrintWords
