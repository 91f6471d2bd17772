/- Lemmas and walks, part 49. -/
import Derived.Test.YtkcmghlhpbepcaaGreatDoorRows
import Derived.JoinedCond
set_option linter.unusedVariables false
set_option linter.unusedSimpArgs false
namespace Go.Proofs.YtkcmghlhpbepcaaGreatDoor.fnWriteBack
open Go.Proofs.YtkcmghlhpbepcaaGreatDoor Go
theorem facts:joinedFacts Tryz.pinned.checked.prog 12 Tryz.f12 (Rows.OpenSpec.upto Rows.writeBackSpec).bare Rows.writeBackUptoRow=true:=by kernel_rfl
end Go.Proofs.YtkcmghlhpbepcaaGreatDoor.fnWriteBack
