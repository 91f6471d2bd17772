/- Lemmas and walks, part 31: QJBuildNested. -/
import Derived.Test.YtkcmghlhpbepcaaGreatDoorRows
import Derived.JoinedCond
set_option linter.unusedVariables false
set_option linter.unusedSimpArgs false

/- What the row of BuildNested asks of the program's text: by the kernel (alone in its text: it takes much memory). -/
namespace Go.Proofs.YtkcmghlhpbepcaaGreatDoor.fnBuildNested
open Go.Proofs.YtkcmghlhpbepcaaGreatDoor Go
theorem facts : joinedFacts Tryz.pinned.checked.prog 6 Tryz.f6 (OpenSpec.ofChange Rows.buildNestedSpec).bare Rows.buildNestedRow = true := by kernel_rfl
end Go.Proofs.YtkcmghlhpbepcaaGreatDoor.fnBuildNested
