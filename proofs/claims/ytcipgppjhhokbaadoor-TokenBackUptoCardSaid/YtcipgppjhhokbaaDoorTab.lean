/- Rows of texts and of numbers at a block. -/
import Derived.Test.YtcipgppjhhokbaaDoorStd
import Derived.Lib.Builder
set_option linter.unusedVariables false
namespace Go.Proofs.YtcipgppjhhokbaaDoor
open Go.RowKit Go.Proofs

theorem new_cells (w : World) (cs : Array Value) (t : TypeId) : (w.alloc (.cells cs t)).heap[w.heap.size]? = some (.cells cs t (0, 0)) := by
  show (w.heap.push _)[w.heap.size]? = _
  simp
/-- A row of texts at a block. -/
def TextsAt (b n : Nat) (L : List (List UInt8)) (w : World) : Prop := ∀ k, k < n → w.cell? ⟨b, k, none⟩ = some (.string ⟨(L.getD k []).toArray⟩)
def IntsAt (b n : Nat) (L : List Int) (w : World) : Prop := ∀ k, k < n → w.cell? ⟨b, k, none⟩ = some (.int .i64 (L.getD k 0))
theorem TextsAt.below {b n : Nat} {L : List (List UInt8)} {w w' : World} (h : TextsAt b n L w) (hb : Below w.heap.size w w') : TextsAt b n L w' := fun k hk => cell_keep (h k hk) hb
theorem IntsAt.below {b n : Nat} {L : List Int} {w w' : World} (h : IntsAt b n L w) (hb : Below w.heap.size w w') : IntsAt b n L w' := fun k hk => cell_keep (h k hk) hb
theorem TextsAt.of {b n : Nat} {L : List (List UInt8)} {w : World} {cs : Array Value} {t : TypeId} {fr : Nat × Nat} (h : w.heap[b]? = some (.cells cs t fr)) (hc : cs.toList = L.map fun l => Value.string ⟨l.toArray⟩) (hn : n ≤ L.length) : TextsAt b n L w := by
  intro k hk
  rw [Lib.cell_of_heap h, ← Array.getElem?_toList, hc, List.getElem?_map, List.getElem?_eq_getElem (show k < L.length by omega)]
  simp [List.getD, List.getElem?_eq_getElem (show k < L.length by omega)]
theorem IntsAt.of {b n : Nat} {L : List Int} {w : World} {cs : Array Value} {t : TypeId} {fr : Nat × Nat} (h : w.heap[b]? = some (.cells cs t fr)) (hc : cs.toList = L.map fun l => Value.int .i64 l) (hn : n ≤ L.length) : IntsAt b n L w := by
  intro k hk
  rw [Lib.cell_of_heap h, ← Array.getElem?_toList, hc, List.getElem?_map, List.getElem?_eq_getElem (show k < L.length by omega)]
  simp [List.getD, List.getElem?_eq_getElem (show k < L.length by omega)]
end Go.Proofs.YtcipgppjhhokbaaDoor
