/- By hand: the third field of a cask that is no variable. -/
import Derived.Test.YtmcmbjkjilcmeaaK0
import Derived.WalkKit
namespace Go.Proofs.Ytmcmbjkjilcmeaa.K
open Go Go.RowKit
theorem field24 : ∀ (s : ByteArray) (x y : Int) (A : Option Addr) (n c : Nat) (w : World), (Instr.field 24 (.agg #[.string s, .int .i64 x, .slice A n c, .int .i64 y]) 2).run Try.prog w = .ok (.slice A n c) w := by
  intro s x y A n c w
  have hu24 := Try.underlying24
  simp [Instr.field, go_sem, asAgg]
theorem field40 : (∀ (x y : Int) (w : World), (Instr.field 40 (.agg #[.int .i64 x, .int .i64 y]) 0).run Try.prog w = .ok (.int .i64 x) w) ∧ (∀ (x y : Int) (w : World), (Instr.field 40 (.agg #[.int .i64 x, .int .i64 y]) 1).run Try.prog w = .ok (.int .i64 y) w) := by
  have hu40 := Try.underlying40
  constructor <;> (intro x y w; simp [Instr.field, go_sem, asAgg])
end Go.Proofs.Ytmcmbjkjilcmeaa.K
