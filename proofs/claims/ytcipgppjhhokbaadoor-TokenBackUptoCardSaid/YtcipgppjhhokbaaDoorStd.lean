/- What the walks ask of the package-level variables of Go's library; it stands while nothing that lay in memory turns. -/
import Derived.Test.YtcipgppjhhokbaaDoorProg
import Derived.Test.YtcipgppjhhokbaaDoorBase
set_option linter.unusedVariables false
namespace Go.Proofs.YtcipgppjhhokbaaDoor
open Go.RowKit Go.Proofs

structure Std (w : World) : Prop where
  maxLen : ∃ m, w.cell? ⟨0, 0, none⟩ = some (.int .i64 m)
  errRange : ∃ te pe, w.cell? ⟨2, 0, none⟩ = some (.iface te pe)
theorem block_lt {w : World} {a : Addr} {v : Value} (h : w.cell? a = some v) : a.block < w.heap.size := by
  rcases Nat.lt_or_ge a.block w.heap.size with h' | h'
  · exact h'
  · simp [World.cell?, Array.getElem?_eq_none h'] at h
theorem cell_keep {w w' : World} {a : Addr} {v : Value} (h : w.cell? a = some v) (hb : Below w.heap.size w w') : w'.cell? a = some v := (hb.cell (block_lt h)).trans h
theorem Std.below {w w' : World} (h : Std w) (hb : Below w.heap.size w w') : Std w' := by
  obtain ⟨⟨m, hm⟩, ⟨te, pe, he⟩⟩ := h
  exact ⟨⟨m, cell_keep hm hb⟩, ⟨te, pe, cell_keep he hb⟩⟩
theorem Std.drewN {w : World} (h : Std w) (n : Nat) : Std (w.drewN n) := h.below (below_drewN (Below.refl _ _) n)
theorem Std.drew {w : World} (h : Std w) : Std w.drew := h.below (Below.refl _ _).drew
theorem Std.alloc {w : World} (h : Std w) (o : Obj) : Std (w.alloc o) := h.below ((Below.refl _ _).alloc (Nat.le_refl _) o)
end Go.Proofs.YtcipgppjhhokbaaDoor
