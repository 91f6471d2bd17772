/- What a token, or a row of attributes or of tokens, that came in reads as: it can be read; how much it is. -/
import Derived.Test.YtcipgppjhhokbaaDoorRows
import Derived.Test.YtcipgppjhhokbaaDoorSame
import Derived.WalkKit
import Derived.ProofKit
import Derived.OpenShut
set_option linter.unusedVariables false
namespace Go.Proofs.YtcipgppjhhokbaaDoor
open Go.ChangeShapes Go.WideShapes Go.ChangeAt Go.RowKit

theorem bulk_part {H : Type} {d : DataW H} {l : List (DataW H)} (h : d ∈ l) : Rows.uptoBulk d ≤ Rows.uptoBulkAll l := by
  induction l with
  | nil => cases h
  | cons x r ih =>
    simp only [Rows.uptoBulkAll]
    rcases List.mem_cons.1 h with e | e
    · subst e; omega
    · have := ih e; omega
theorem bulk_one {H : Type} (d : DataW H) : 1 ≤ Rows.uptoBulk d := by
  cases d with
  | lit l => cases l <;> simp [Rows.uptoBulk]
  | nil => simp [Rows.uptoBulk]
  | ptr d => simp [Rows.uptoBulk]
  | slice elems spare => simp [Rows.uptoBulk]
  | agg parts => simp [Rows.uptoBulk]
  | iface t d => simp [Rows.uptoBulk]
  | map entries => simp [Rows.uptoBulk]
  | held h => simp [Rows.uptoBulk]
theorem bulk_len {H : Type} (l : List (DataW H)) : l.length ≤ Rows.uptoBulkAll l := by
  induction l with
  | nil => simp [Rows.uptoBulkAll]
  | cons x r ih => have := bulk_one x; simp only [Rows.uptoBulkAll, List.length_cons]; omega

theorem cells_at {w : World} {base n : Nat} {a : Addr} {cs : List Value} (h : w.cells? base a n = some cs) : cs.length = n ∧ ∀ j, j < n → w.cell? (a.add j) = cs[j]? := by
  unfold World.cells? at h
  split at h
  · have hl := mapM_some_length h
    refine ⟨by simpa using hl, fun j hj => ?_⟩
    have := mapM_some_get h j j (by simp [hj])
    exact this
  · cases h
theorem spot_none {w : World} {a : Addr} {v : Value} (h : w.cell? a = some v) : a = ⟨a.block, a.off, none⟩ := by
  obtain ⟨b, o, s⟩ := a
  cases s with
  | none => rfl
  | some s =>
    unfold World.cell? at h
    split at h <;> simp at h
theorem add_at (b o n : Nat) : Addr.add ⟨b, o, none⟩ n = ⟨b, o + n, none⟩ := by
  unfold Addr.add
  split <;> simp_all

theorem two_of {α : Type} {cs : List α} (h : cs.length = 2) : ∃ a b, cs = [a, b] := by
  match cs, h with
  | [a, b], _ => exact ⟨a, b, rfl⟩
theorem five_of {α : Type} {cs : List α} (h : cs.length = 5) : ∃ a b c d e, cs = [a, b, c, d, e] := by
  match cs, h with
  | [a, b, c, d, e], _ => exact ⟨a, b, c, d, e, rfl⟩
def pairOf {H : Type} : DataW H → Txt × Txt
  | .agg [.lit (.string a), .lit (.string b)] => (a, b)
  | _ => ([], [])
theorem cells_attr : Tryd.prog.cellsOf 33 = 2 := by kernel_rfl
theorem cells_tok : Tryd.prog.cellsOf 30 = 5 := by kernel_rfl
theorem cells_str : Tryd.prog.cellsOf 9 = 1 := by kernel_rfl
theorem cells_int : Tryd.prog.cellsOf 3 = 1 := by kernel_rfl
theorem cells_bool : Tryd.prog.cellsOf 4 = 1 := by kernel_rfl
theorem cells_attrs : Tryd.prog.cellsOf 28 = 1 := by kernel_rfl

variable {H : Type} {enc : TypeId × Value → H} {w : World} {base : Nat} {spare : Nat → Bool} {held : Bool}

theorem attr_open {fuel : Nat} {cs : List Value} {x : DataW H × List MemPlace} (h : DataW.trod enc Tryd.prog w base spare held fuel 33 cs = some x) :
    ∃ a b : Txt, cs = [.string ⟨a.toArray⟩, .string ⟨b.toArray⟩] ∧ pairOf x.1 = (a, b) ∧ a.length + b.length ≤ Rows.uptoBulk x.1 := by
  obtain ⟨y0, y1, n, rfl, hl, h0, h1⟩ := trod_struct2 Tryd.underlying33 h
  rw [cells_attr] at hl
  obtain ⟨c0, c1, rfl⟩ := two_of hl
  simp only [cells_str, List.drop_zero, List.take_succ_cons, List.take_zero, List.drop_succ_cons] at h0 h1
  obtain ⟨s0, e0, rfl, _⟩ := DataW.trod_string Tryd.underlying9 h0
  obtain ⟨s1, e1, rfl, _⟩ := DataW.trod_string Tryd.underlying9 h1
  simp only [List.cons.injEq, and_true] at e0 e1
  subst e0 e1
  refine ⟨s0.data.toList, s1.data.toList, by simp, rfl, ?_⟩
  simp only [Rows.uptoBulk, Rows.uptoBulkAll]
  omega
theorem attrs_open {fuel : Nat} {cs : List Value} {x : DataW H × List MemPlace} (h : DataW.trod enc Tryd.prog w base spare held fuel 28 cs = some x) :
    ∃ va l, cs = [va] ∧ RdA w va l ∧ l.length ≤ Rows.uptoBulk x.1 ∧ ∀ i (hi : i < l.length), l[i].1.length + l[i].2.length ≤ Rows.uptoBulk x.1 := by
  rcases DataW.trod_slice Tryd.underlying28 h with ⟨rfl, rfl⟩ | ⟨a, len, cap, elems, rest, n, _, rfl, rfl, hb, hle, hc, hlen, hel, _, _⟩
  · exact ⟨_, [], rfl, ⟨none, 0, rfl, fun i hi => by simp at hi⟩, by simp, fun i hi => by simp at hi⟩
  · have each : ∀ i (hi : i < elems.length), ∃ p q : Txt, pairOf elems[i].1 = (p, q) ∧ w.cell? (a.add (i * 2)) = some (.string ⟨p.toArray⟩) ∧ w.cell? ((a.add (i * 2)).add 1) = some (.string ⟨q.toArray⟩) ∧ p.length + q.length ≤ Rows.uptoBulk elems[i].1 := by
      intro i hi
      have h1 := hel i (by omega)
      rw [List.getElem?_eq_getElem hi, Option.bind_eq_some_iff, cells_attr] at h1
      obtain ⟨cs', h2, h3⟩ := h1
      obtain ⟨p, q, e, h4, h5⟩ := attr_open h3
      obtain ⟨_, h6⟩ := cells_at h2
      subst e
      refine ⟨p, q, h4, ?_, h6 1 (by omega), h5⟩
      have := h6 0 (by omega)
      rw [show (a.add (i * 2)).add 0 = a.add (i * 2) from by simp [Addr.add]] at this
      exact this
    refine ⟨_, elems.map (fun y => pairOf y.1), rfl, ?_, ?_, ?_⟩
    · refine ⟨some a, cap, by rw [List.length_map, hlen], fun i hi => ?_⟩
      rw [List.length_map] at hi
      obtain ⟨p, q, e1, e2, e3, _⟩ := each i hi
      obtain ⟨p0, q0, _, e20, _, _⟩ := each 0 (by omega)
      rw [Nat.zero_mul, show a.add 0 = a from by simp [Addr.add]] at e20
      have ha := spot_none e20
      rw [ha, add_at] at e2 e3
      rw [add_at] at e3
      rw [List.getElem_map, e1]
      exact ⟨a.block, a.off, by rw [← ha], e2, e3⟩
    · have := bulk_len (elems.map (·.1))
      simp only [List.length_map, Rows.uptoBulk] at *
      omega
    · intro i hi
      rw [List.length_map] at hi
      obtain ⟨p, q, e1, _, _, e4⟩ := each i hi
      rw [List.getElem_map, e1]
      have h7 : elems[i].1 ∈ elems.map (·.1) := List.mem_map_of_mem (List.getElem_mem hi)
      have := bulk_part h7
      simp only [Rows.uptoBulk]
      omega
theorem tok_open {fuel : Nat} {cs : List Value} {x : DataW H × List MemPlace} (h : DataW.trod enc Tryd.prog w base spare held fuel 30 cs = some x) :
    ∃ (k : Int) (nm d : Txt) (va : Value) (sf : Bool) (l : List (Txt × Txt)), cs = [.int .i64 k, .string ⟨nm.toArray⟩, .string ⟨d.toArray⟩, va, .bool sf] ∧ RdA w va l ∧ nm.length ≤ Rows.uptoBulk x.1 ∧ d.length ≤ Rows.uptoBulk x.1 ∧ l.length ≤ Rows.uptoBulk x.1 ∧ ∀ i (hi : i < l.length), l[i].1.length + l[i].2.length ≤ Rows.uptoBulk x.1 := by
  obtain ⟨xs, n, _, rfl, hl, hlen, hf⟩ := DataW.trod_struct Tryd.underlying30 h
  rw [cells_tok] at hl
  obtain ⟨c0, c1, c2, c3, c4, rfl⟩ := five_of hl
  obtain ⟨x0, x1, x2, x3, x4, rfl⟩ := five_of (hlen.trans rfl)
  have f0 : DataW.trod enc Tryd.prog w base spare held n 3 (([c0, c1, c2, c3, c4].drop 0).take (Tryd.prog.cellsOf 3)) = some x0 := hf 0 _ rfl
  rw [cells_int] at f0
  have f1 : DataW.trod enc Tryd.prog w base spare held n 9 (([c0, c1, c2, c3, c4].drop 1).take (Tryd.prog.cellsOf 9)) = some x1 := hf 1 _ rfl
  rw [cells_str] at f1
  have f2 : DataW.trod enc Tryd.prog w base spare held n 9 (([c0, c1, c2, c3, c4].drop 2).take (Tryd.prog.cellsOf 9)) = some x2 := hf 2 _ rfl
  rw [cells_str] at f2
  have f3 : DataW.trod enc Tryd.prog w base spare held n 28 (([c0, c1, c2, c3, c4].drop 3).take (Tryd.prog.cellsOf 28)) = some x3 := hf 3 _ rfl
  rw [cells_attrs] at f3
  have f4 : DataW.trod enc Tryd.prog w base spare held n 4 (([c0, c1, c2, c3, c4].drop 4).take (Tryd.prog.cellsOf 4)) = some x4 := hf 4 _ rfl
  rw [cells_bool] at f4
  simp only [List.drop_zero, List.take_succ_cons, List.take_zero, List.drop_succ_cons] at f0 f1 f2 f3 f4
  obtain ⟨k, e0, rfl, _⟩ := DataW.trod_int Tryd.underlying3 f0
  obtain ⟨s1, e1, rfl, _⟩ := DataW.trod_string Tryd.underlying9 f1
  obtain ⟨s2, e2, rfl, _⟩ := DataW.trod_string Tryd.underlying9 f2
  obtain ⟨va, l, e3, hA, hb1, hb2⟩ := attrs_open f3
  obtain ⟨sf, e4, rfl⟩ := DataW.trod_bool Tryd.underlying4 f4
  simp only [List.cons.injEq, and_true] at e0 e1 e2 e3 e4
  subst e0 e1 e2 e3 e4
  refine ⟨k, s1.data.toList, s2.data.toList, c3, sf, l, by simp, hA, ?_, ?_, ?_, ?_⟩
  · simp only [List.map_cons, List.map_nil, Rows.uptoBulk, Rows.uptoBulkAll]; omega
  · simp only [List.map_cons, List.map_nil, Rows.uptoBulk, Rows.uptoBulkAll]; omega
  · simp only [List.map_cons, List.map_nil, Rows.uptoBulk, Rows.uptoBulkAll]; omega
  · intro i hi
    have := hb2 i hi
    simp only [List.map_cons, List.map_nil, Rows.uptoBulk, Rows.uptoBulkAll]; omega
end Go.Proofs.YtcipgppjhhokbaaDoor
