/- CO: slices made pure, one level at a time. -/
import Derived.Test.YtbjnmbbhlaghaaaCoRun
namespace Go.Co
open Go.Am
section
variable {s : St} {fp : List Nat} {m : Nat}
theorem pure1_own (b g o n : Nat) : pure1 s fp (m + 1) (.own b g o n) = (match blkAt s fp b g with
      | some k => if o + n * k.esz ≤ k.cs.length then
          (if ((k.cs.drop o).take (n * k.esz)).all AV.plain = true then some (.lst n ((k.cs.drop o).take (n * k.esz)), [b])
           else match mapO (pure1 s fp m) ((k.cs.drop o).take (n * k.esz)) with
            | some (vs, f) => some (.lst n vs, b :: f)
            | none => none) else none
      | none => none) := rfl
theorem pure1_nils : pure1 s fp (m + 1) .nils = some (.lst 0 [], []) := rfl
theorem pure1_int (k : IntKind) (n : Int) : pure1 s fp (m + 1) (.int k n) = some (.int k n, []) := rfl
theorem pure1_bool (b : Bool) : pure1 s fp (m + 1) (.bool b) = some (.bool b, []) := rfl
theorem pure1_lst (n : Nat) (xs : List AV) : pure1 s fp (m + 1) (.lst n xs) = some (.lst n xs, []) := rfl
end
end Go.Co
