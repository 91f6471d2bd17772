/- A row of bytes that the call itself owns: appended to, and made a text. -/
import Derived.Test.YtcipgppjhhokbaaDoorWrite
import Derived.Test.YtcipgppjhhokbaaDoorTab
import Derived.Lib.AppendStr
import Derived.Laws.AppendOwn
set_option linter.unusedVariables false
set_option linter.unusedSimpArgs false
namespace Go.Proofs.YtcipgppjhhokbaaDoor
open Go.RowKit Go.Proofs

/-- A value that is a row of bytes of the call's own, from block 'base' on. -/
def Bts (w : World) (base : Nat) (v : Value) (l : List UInt8) : Prop := w.ownsRow base 5 1 v l.length (Lib.byteCells l)
theorem Bts.below {w w1 : World} {base : Nat} {v : Value} {l : List UInt8} (h : Bts w base v l) (hb : Below w.heap.size w w1) : Bts w1 base v l :=
  World.ownsRow.kept h (grown_of_below hb none) (by cases hv : v.ownBlock <;> simp)
theorem Bts.nil (w : World) (base : Nat) : Bts w base (.slice none 0 0) [] := World.ownsRow_nil _ _ _ _
theorem Bts.new (w : World) (base : Nat) (hB : base ≤ w.heap.size) : Bts (w.alloc (.cells #[] 5)) base (.slice (some ⟨w.heap.size, 0, none⟩) 0 0) [] :=
  ⟨rfl, .inr ⟨w.heap.size, 0, #[], rfl, hB, new_cells _ _ _, Nat.le_refl _, by unfold maxLen; omega, rfl, rfl⟩⟩
theorem conv_own {w : World} {base : Nat} {v : Value} {l : List UInt8} (h : Bts w base v l) : (convert 39 9 v).run Tryd.prog w = .ok (.string ⟨l.toArray⟩) w := by
  rcases h.2 with ⟨rfl, h0⟩ | ⟨g, cap, cur, rfl, hg, hh, hn, hc, hs, ht⟩
  · have : l = [] := List.eq_nil_of_length_eq_zero h0
    subst this
    exact run_convert_bytes_nil (P := Tryd.prog) w 39 5 Tryd.underlying39 Tryd.underlying5 0 0 9 Tryd.underlying9
  · refine run_convert_bytes_back (P := Tryd.prog) w 39 9 5 ⟨g, 0, none⟩ cap l Tryd.underlying39 Tryd.underlying5 Tryd.underlying9 ?_
    intro j hj
    have ha : (⟨g, 0, none⟩ : Addr).add j = ⟨g, j, none⟩ := by unfold Addr.add; split <;> simp_all
    rw [ha, Lib.cell_of_heap hh, ← Array.getElem?_toList]
    have h1 : (cur.toList.take (l.length * 1))[j]? = (Lib.byteCells l)[j]? := by rw [ht]
    rw [List.getElem?_take, if_pos (by omega)] at h1
    rw [h1]
    simp [Lib.byteCells, hj]
theorem own_base {w : World} {base : Nat} {e : TypeId} {size n : Nat} {v : Value} {xs : List Value} (h : w.ownsRow base e size v n xs) {k : Nat} (hk : v.ownBlock = some k) : base ≤ k := by
  rcases h.2 with ⟨rfl, _⟩ | ⟨g, cap, cur, rfl, hb, _⟩
  · simp [Value.ownBlock] at hk
  · have : g = k := by simpa [Value.ownBlock] using hk
    omega
theorem byteInfo : ∃ i, Tryd.prog.info? 5 = some i ∧ i.zero = some (.int .u8 0) ∧ i.size = 1 ∧ i.bytes = 1 := by
  obtain ⟨i0, hi, hz0, hz1, hz2⟩ := info_parts bByte
  exact ⟨i0, hi, hz0, hz1, hz2⟩
/-- append(b, s...): a text onto a row of bytes of the call's own. -/
theorem app_text {w : World} {ops : Array Oper} {rest : List Oper} {o : Oper} {a : Act} {Q : Exit → Act → World → Prop} (hgd : o.guard = none) (sl x : Operand)
    (ho : o.op = .call { callee := .builtin .append, args := #[sl, x], argTypes := #[39, 9] })
    (base : Nat) (v : Value) (l t : List UInt8) (hs : a.eval sl = v) (hown : Bts w base v l) (hx : a.eval x = .string ⟨t.toArray⟩)
    (hlen : l.length + t.length ≤ 100000000000000) (hbase : base ≤ w.heap.size)
    (h : ∀ v' w', Bts w' base v' (l ++ t) → Below base w w' → w.heap.size ≤ w'.heap.size → wpList Tryd.prog ops Q rest (a.put o.dst v') w') : wpList Tryd.prog ops Q (o :: rest) a w := by
  obtain ⟨i0, hi, hz0, hz1, hz2⟩ := byteInfo
  have hsz := mk_size t
  refine Lib.wpList_append_own_string w hgd sl x 39 9 ho base 5 i0 Tryd.underlying39 Tryd.underlying9 hi hz0 hz1 hz2 v l.length (Lib.byteCells l) hs hown ⟨t.toArray⟩ hx (by unfold maxLen; omega) (by omega) hbase ?_
  intro v' w' hown' hgrow _
  refine h v' w' ?_ ?_ hgrow.size
  · unfold Bts
    rw [bytes_str, ← Lib.byteCells_append, hsz] at hown'
    simpa using hown'
  · exact (Below.refl base w).grown hgrow hbase (fun k hk => own_base hown hk)
end Go.Proofs.YtcipgppjhhokbaaDoor
