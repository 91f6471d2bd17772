/- Lemmas and walks, part 8: QJBuildParts. -/
import Derived.Test.YtkcmghlhpbepcaaGreatDoorRows
import Derived.JoinedCond
set_option linter.unusedVariables false
set_option linter.unusedSimpArgs false

/- What the row of BuildParts asks of the program's text: by the kernel (alone in its text: it takes much memory). -/
namespace Go.Proofs.YtkcmghlhpbepcaaGreatDoor.fnBuildParts
open Go.Proofs.YtkcmghlhpbepcaaGreatDoor Go
theorem facts : joinedFacts Tryz.pinned.checked.prog 10 Tryz.f10 (OpenSpec.ofChange Rows.buildPartsSpec).bare Rows.buildPartsRow = true := by kernel_rfl
end Go.Proofs.YtkcmghlhpbepcaaGreatDoor.fnBuildParts
