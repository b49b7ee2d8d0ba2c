/- CO: the document's own answers: trees and models. -/
import Derived.Test.YtcjflbmpfmibbaaCoM
import Derived.Test.YtcjflbmpfmibbaaCoMap
namespace Go.Co
open Go.Am Go.Proofs
set_option linter.unusedSimpArgs false
set_option linter.unusedVariables false
end Go.Co
