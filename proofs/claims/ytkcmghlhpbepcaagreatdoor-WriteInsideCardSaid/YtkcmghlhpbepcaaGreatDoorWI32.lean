/- Lemmas and walks, part 32. -/
import Derived.Test.YtkcmghlhpbepcaaGreatDoorRows
import Derived.JoinedCond
set_option linter.unusedVariables false
set_option linter.unusedSimpArgs false
namespace Go.Proofs.YtkcmghlhpbepcaaGreatDoor.fnWriteInside
open YtkcmghlhpbepcaaGreatDoor Go
theorem facts:joinedFacts Tryz.pinned.checked.prog 14 Tryz.f14 (OpenSpec.ofChange Rows.writeInsideSpec).bare Rows.writeInsideRow=true:=by kernel_rfl
end Go.Proofs.YtkcmghlhpbepcaaGreatDoor.fnWriteInside
