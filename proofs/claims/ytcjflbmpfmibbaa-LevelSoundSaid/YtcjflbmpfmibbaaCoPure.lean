/- CO: slices made pure, one level at a time. -/
import Derived.Test.YtcjflbmpfmibbaaCoRun
namespace Go.Co
open Go.Am
section
variable {s : St} {fp : List Nat} {m : Nat}
end
end Go.Co
