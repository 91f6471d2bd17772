/- Plain: whether a byte stands in a text. No program in sight. -/
import Derived.Test.YtcipgppjhhokbaaDoorDecP
set_option linter.unusedVariables false
namespace Go.Proofs.YtcipgppjhhokbaaDoor
open Go.Proofs

def hasL (l : List UInt8) (c : Nat) : Bool := l.any fun x => x.toNat == c

theorem has_yes {l : List UInt8} {c k : Nat} (hk : k < l.length) (h : l[k].toNat = c) : hasL l c = true := by
  unfold hasL
  rw [List.any_eq_true]
  exact ⟨l[k], List.getElem_mem hk, by simp [h]⟩
theorem has_no {l : List UInt8} {c : Nat} (h : ∀ j (hj : j < l.length), l[j].toNat ≠ c) : hasL l c = false := by
  unfold hasL
  rw [List.any_eq_false]
  intro x hx
  obtain ⟨j, hj, rfl⟩ := List.getElem_of_mem hx
  simpa using h j hj
end Go.Proofs.YtcipgppjhhokbaaDoor
