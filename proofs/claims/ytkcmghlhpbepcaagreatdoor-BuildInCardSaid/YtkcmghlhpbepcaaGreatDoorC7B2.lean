/- Lemmas and walks, part 2: QJBuildIn. -/
import Derived.Test.YtkcmghlhpbepcaaGreatDoorRows
import Derived.JoinedCond
set_option linter.unusedVariables false
set_option linter.unusedSimpArgs false

/- What the row of BuildIn asks of the program's text: by the kernel (alone in its text: it takes much memory). -/
namespace Go.Proofs.YtkcmghlhpbepcaaGreatDoor.fnBuildIn
open Go.Proofs.YtkcmghlhpbepcaaGreatDoor Go
theorem facts : joinedFacts Tryz.pinned.checked.prog 8 Tryz.f8 (OpenSpec.ofChange Rows.buildInSpec).bare Rows.buildInRow = true := by kernel_rfl
end Go.Proofs.YtkcmghlhpbepcaaGreatDoor.fnBuildIn
