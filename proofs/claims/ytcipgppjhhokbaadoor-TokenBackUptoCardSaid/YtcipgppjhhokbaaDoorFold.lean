/- Contracts of package fold: Space, Letter, Lower, Same, Trim. Nothing that lay in memory turns. -/
import Derived.Test.YtcipgppjhhokbaaDoorTokP
import Derived.Test.YtcipgppjhhokbaaDoorOwn
set_option linter.unusedVariables false
set_option linter.unusedSimpArgs false
namespace Go.Proofs.YtcipgppjhhokbaaDoor
open Go.RowKit Go.Proofs

def spaceI (n : Int) : Bool := n == 32 || n == 9 || n == 10 || n == 12 || n == 13
def letterI (n : Int) : Bool := (decide (97 ≤ n) && decide (n ≤ 122)) || (decide (65 ≤ n) && decide (n ≤ 90))
theorem spaceI_u8 (c : UInt8) : spaceI c.toNat = spaceB c := by
  have := all_u8 (p := fun c => spaceI c.toNat == spaceB c) (by decide +kernel) c
  simpa using this
theorem letterI_u8 (c : UInt8) : letterI c.toNat = letterB c := by
  have := all_u8 (p := fun c => letterI c.toNat == letterB c) (by decide +kernel) c
  simpa using this

theorem space_i (n : Int) (w : World) :
    Calls Tryd.prog 42 #[.int .u8 n] w fun e w' => e = .returned (.bool (spaceI n)) ∧ w = w' := by
  go_enter Tryd.func42, Tryd.ntmps42
  go_wp2
  all_goals go_ret
  all_goals (refine ⟨ret_b ?_, rfl⟩; simp_all [spaceI])
theorem letter_i (n : Int) (w : World) :
    Calls Tryd.prog 31 #[.int .u8 n] w fun e w' => e = .returned (.bool (letterI n)) ∧ w = w' := by
  go_enter Tryd.func31, Tryd.ntmps31
  go_wp2
  all_goals go_ret
  all_goals (refine ⟨ret_b ?_, rfl⟩; simp_all [letterI]; try omega)
end Go.Proofs.YtcipgppjhhokbaaDoor
