/- Lemmas and walks, part 40. -/
import Derived.Test.YtkcmghlhpbepcaaGreatDoorRows
import Derived.JoinedCond
set_option linter.unusedVariables false
set_option linter.unusedSimpArgs false
namespace Go.Proofs.YtkcmghlhpbepcaaGreatDoor.fnBuildTrees
open Go.Proofs.YtkcmghlhpbepcaaGreatDoor Go
theorem facts:joinedFacts Tryz.pinned.checked.prog 4 Tryz.f4 (OpenSpec.ofChange Rows.buildTreesSpec).bare Rows.buildTreesRow=true:=by kernel_rfl
end Go.Proofs.YtkcmghlhpbepcaaGreatDoor.fnBuildTrees
