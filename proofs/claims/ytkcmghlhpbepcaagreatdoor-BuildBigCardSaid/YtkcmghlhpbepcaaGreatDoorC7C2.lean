/- Lemmas and walks, part 2: QJBuildBig. -/
import Derived.Test.YtkcmghlhpbepcaaGreatDoorRows
import Derived.JoinedCond
set_option linter.unusedVariables false
set_option linter.unusedSimpArgs false

/- What the row of BuildBig asks of the program's text: by the kernel (alone in its text: it takes much memory). -/
namespace Go.Proofs.YtkcmghlhpbepcaaGreatDoor.fnBuildBig
open Go.Proofs.YtkcmghlhpbepcaaGreatDoor Go
theorem facts : joinedFacts Tryz.pinned.checked.prog 7 Tryz.f7 (OpenSpec.ofChange Rows.buildBigSpec).bare Rows.buildBigRow = true := by kernel_rfl
end Go.Proofs.YtkcmghlhpbepcaaGreatDoor.fnBuildBig
