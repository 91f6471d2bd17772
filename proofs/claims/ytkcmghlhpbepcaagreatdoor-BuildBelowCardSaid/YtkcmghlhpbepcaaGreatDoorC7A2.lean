/- Lemmas and walks, part 2: QJBuildBelow. -/
import Derived.Test.YtkcmghlhpbepcaaGreatDoorRows
import Derived.JoinedCond
set_option linter.unusedVariables false
set_option linter.unusedSimpArgs false

/- What the row of BuildBelow asks of the program's text: by the kernel (alone in its text: it takes much memory). -/
namespace Go.Proofs.YtkcmghlhpbepcaaGreatDoor.fnBuildBelow
open Go.Proofs.YtkcmghlhpbepcaaGreatDoor Go
theorem facts : joinedFacts Tryz.pinned.checked.prog 9 Tryz.f9 (OpenSpec.ofChange Rows.buildBelowSpec).bare Rows.buildBelowRow = true := by kernel_rfl
end Go.Proofs.YtkcmghlhpbepcaaGreatDoor.fnBuildBelow
