/- By hand: two rows' outer blocks are apart both ways, where the elements have no rows inside. -/
import Derived.Test.YtefjmcljkmppoaaWWords
namespace Go.Proofs.Ytefjmcljkmppoaa.GW
open Go.RowKit Go.Proofs.YtefjmcljkmppoaaW.PrintWords
end Go.Proofs.Ytefjmcljkmppoaa.GW
