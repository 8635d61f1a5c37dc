/- By hand: the fields of bounds that are no variable. -/
import Derived.Test.YtefjmcljkmppoaaK0
import Derived.WalkKit
namespace Go.Proofs.Ytefjmcljkmppoaa.K
open Go Go.RowKit
theorem field28 : (∀ (x y : Int) (w : World), (Instr.field 28 (.agg #[.int .i64 x, .int .i64 y]) 0).run Try.prog w = .ok (.int .i64 x) w) ∧ (∀ (x y : Int) (w : World), (Instr.field 28 (.agg #[.int .i64 x, .int .i64 y]) 1).run Try.prog w = .ok (.int .i64 y) w) := by
  have hu28 := Try.underlying28
  constructor <;> (intro x y w; simp [Instr.field, go_sem, asAgg])
end Go.Proofs.Ytefjmcljkmppoaa.K
