/- By hand: a load and a making of memory may come up in either order, and both orders end in the same. -/
import Derived.Test.YtfafeeobjlkjnaaK0
import Derived.Test.YtfafeeobjlkjnaaWLast
namespace Go.Proofs.Ytfafeeobjlkjnaa.GS
open Go.RowKit Go.Proofs.YtfafeeobjlkjnaaW.PrintWords Go.Proofs.YtfafeeobjlkjnaaW.PrintLast
set_option linter.unusedVariables false
variable {P : Program} {ops : Array Oper} {Q : Exit → Act → World → Prop} {md : Region.Mode} {S : World → Prop} {ds : List Nat}
theorem two_same {i j : Nat} {Ni Nj : Option Tmp} {oi oj : Oper} {fuel : Nat} {l : Array Bool} {a : Act} {w : World} (li lj lij : Array Bool) (vi vj : Value) (wj : World) (hi : ops[i]? = some oi) (hj : ops[j]? = some oj) (hNi : oi.dst = Ni) (hNj : oj.dst = Nj)
    (hc : (Region.ready md ops l == [i, j] && l.setIfInBounds i true == li && l.setIfInBounds j true == lj) = true) (hc1 : readyB md ops li lij j = true) (hc2 : readyB md ops lj lij i = true) (hdi : i ∉ ds) (hdj : j ∉ ds)
    (w1 : Region.wanted oi (yielded ops a.tmps) = true) (w2 : Region.wanted oj (yielded ops a.tmps) = true) (w3 : Region.wanted oj (yielded ops (a.put Ni vi).tmps) = true) (w4 : Region.wanted oi (yielded ops (a.put Nj vj).tmps) = true)
    (r1 : (execOp a.eval oi).run P w = .ok (.value vi) w) (r2 : (execOp (a.put Ni vi).eval oj).run P w = .ok (.value vj) wj) (r3 : (execOp a.eval oj).run P w = .ok (.value vj) wj) (r4 : (execOp (a.put Nj vj).eval oi).run P wj = .ok (.value vi) wj)
    (hp : (a.put Nj vj).put Ni vi = (a.put Ni vi).put Nj vj) (hS : S w) (hSj : S wj) (h : S wj → wpAnyLast P md ops Q S ds fuel lij ((a.put Ni vi).put Nj vj) wj) : wpAnyLast P md ops Q S ds (fuel + 1 + 1) l a w :=
  two_ li lj hi hj hNi hNj hc hdi hdj
    (fun K hK => value_ w1 hNi r1 (hK.out _ _ hS (fun _ => one_ lij hj hNj hc1 hdj (fun K hK => value_ w3 hNj r2 (hK.out _ _ hSj h)))))
    (fun K hK => value_ w2 hNj r3 (hK.out _ _ hSj (fun _ => one_ lij hi hNi hc2 hdi (fun K hK => value_ w4 hNi r4 (hK.out _ _ hSj (fun hS' => hp ▸ h hS'))))))
end Go.Proofs.Ytfafeeobjlkjnaa.GS
