/- CO: margins, the best class (written by mkCoO.py). -/
import Derived.Test.YtcjflbmpfmibbaaCoIn
namespace Go.Co
open Go.Am Go.Proofs
set_option linter.unusedSimpArgs false
set_option linter.unusedVariables false
end Go.Co
