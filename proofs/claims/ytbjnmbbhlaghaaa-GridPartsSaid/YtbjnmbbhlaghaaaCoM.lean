/- CO: bounds. -/
import Derived.Test.YtbjnmbbhlaghaaaCoL
namespace Go.Co
open Go.Am Go.Proofs
set_option linter.unusedSimpArgs false
set_option linter.unusedVariables false
@[simp 5000] theorem rd_biasN (a b : Int) (x : Bias) (y : AV) (k : Nat) (h : k < 3) : rd [.int .i64 a, .int .i64 b, .int .i64 x.b0, .int .i64 x.b1, .int .i64 x.b2, y] (2 + k) 1 false = some (.int .i64 (x.get k)) := by
  have := rd_bias a b x y k (by omega) (by omega)
  simpa using this
end Go.Co
