/- Lemmas and walks, part 50. -/
import Derived.Test.YtkcmghlhpbepcaaGreatDoorRows
import Derived.JoinedCond
set_option linter.unusedVariables false
set_option linter.unusedSimpArgs false
namespace Go.Proofs.YtkcmghlhpbepcaaGreatDoor.fnWriteStays
open Go.Proofs.YtkcmghlhpbepcaaGreatDoor Go
theorem facts:joinedFacts Tryz.pinned.checked.prog 13 Tryz.f13 (OpenSpec.ofChange Rows.writeStaysSpec).bare Rows.writeStaysRow=true:=by kernel_rfl
end Go.Proofs.YtkcmghlhpbepcaaGreatDoor.fnWriteStays
