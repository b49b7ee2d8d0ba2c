/- CO: what changes of pairs are. -/
import Derived.Test.YtagfmcachoaacaaCoP
namespace Go.Co
open Go.Am Go.Proofs
set_option linter.unusedSimpArgs false
set_option linter.unusedVariables false
end Go.Co
