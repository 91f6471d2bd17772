/- Lemmas and walks, part 13: Same, OpenT, KTok, Tagged, TWrite, RWrite, RTagged, RHas. -/
import Derived.Test.YtdnbaliibiginaaDoorTWM12
import Derived.Test.YtdnbaliibiginaaDoorRows
import Derived.WalkKit
import Derived.ProofKit
import Derived.OpenShut
import Derived.Test.YtdnbaliibiginaaDoorTWM1
import Derived.Test.YtdnbaliibiginaaDoorTWM7
import Derived.Deep.RegionWith
import Derived.Laws.Strings2
import Derived.Test.YtdnbaliibiginaaDoorTWM5
set_option linter.unusedVariables false
set_option linter.unusedSimpArgs false

/- Rows of tokens that can be read; contract of the reference's Same: the same tokens are the same. Nothing that lay in memory turns. -/
namespace Go.Proofs.YtdnbaliibiginaaDoor
open Go.RowKit Go.Proofs

/-- A value is a row of attributes, or of tokens, that can be read. -/
def RdA (w : World) (va : Value) (l : List (Txt × Txt)) : Prop :=
  ∃ ad cp, va = .slice ad l.length cp ∧ ∀ i (hi : i < l.length), ∃ g o, ad = some ⟨g, o, none⟩ ∧ w.cell? ⟨g, o + i * 2, none⟩ = some (.string ⟨l[i].1.toArray⟩) ∧ w.cell? ⟨g, o + i * 2 + 1, none⟩ = some (.string ⟨l[i].2.toArray⟩)
def RdT (w : World) (v : Value) (l : List Tok) : Prop :=
  ∃ ad cp, v = .slice ad l.length cp ∧ ∀ i (hi : i < l.length), ∃ g o va, ad = some ⟨g, o, none⟩ ∧ w.cell? ⟨g, o + i * 5, none⟩ = some (.int .i64 l[i].kind) ∧ w.cell? ⟨g, o + i * 5 + 1, none⟩ = some (.string ⟨l[i].name.toArray⟩) ∧ w.cell? ⟨g, o + i * 5 + 2, none⟩ = some (.string ⟨l[i].data.toArray⟩) ∧ w.cell? ⟨g, o + i * 5 + 3, none⟩ = some va ∧ w.cell? ⟨g, o + i * 5 + 4, none⟩ = some (.bool l[i].self) ∧ RdA w va l[i].attrs
theorem RdA.below {w w' : World} {va : Value} {l : List (Txt × Txt)} (h : RdA w va l) (hb : Below w.heap.size w w') : RdA w' va l := by
  obtain ⟨ad, cp, h1, h2⟩ := h
  refine ⟨ad, cp, h1, fun i hi => ?_⟩
  obtain ⟨g, o, h3, h4, h5⟩ := h2 i hi
  exact ⟨g, o, h3, cell_keep h4 hb, cell_keep h5 hb⟩
theorem RdT.below {w w' : World} {v : Value} {l : List Tok} (h : RdT w v l) (hb : Below w.heap.size w w') : RdT w' v l := by
  obtain ⟨ad, cp, h1, h2⟩ := h
  refine ⟨ad, cp, h1, fun i hi => ?_⟩
  obtain ⟨g, o, va, h3, h4, h5, h6, h7, h8, h9⟩ := h2 i hi
  exact ⟨g, o, va, h3, cell_keep h4 hb, cell_keep h5 hb, cell_keep h6 hb, cell_keep h7 hb, cell_keep h8 hb, h9.below hb⟩
theorem Atts.rd {w : World} {base : Nat} {va : Value} {l : List (Txt × Txt)} (h : Atts w base va l) : RdA w va l := by
  obtain ⟨ad, cp, rfl⟩ := h.len
  refine ⟨ad, cp, rfl, fun i hi => ?_⟩
  obtain ⟨g, cap, e, h2, h3, h4, h5⟩ := h.at hi
  simp only [Value.slice.injEq] at e
  exact ⟨g, 0, e.1, by rw [Nat.zero_add]; exact h4, by rw [Nat.zero_add]; exact h5⟩
theorem Toks.rd {w : World} {base : Nat} {v : Value} {l : List Tok} (h : Toks w base v l) : RdT w v l := by
  obtain ⟨ad, cp, rfl⟩ := h.len
  refine ⟨ad, cp, rfl, fun i hi => ?_⟩
  obtain ⟨ps, k1, k2, k3⟩ := h
  subst k1
  rw [List.length_map] at hi k2
  rcases k2.2 with ⟨e, h0⟩ | ⟨g, cap, cur, e, hg, hh, hn, hc, hs, ht⟩
  · omega
  · simp only [Value.slice.injEq] at e
    have key : ∀ j, j < 5 → w.cell? ⟨g, i * 5 + j, none⟩ = (ps.flatMap fun p => tokV p.1 p.2)[i * 5 + j]? := by
      intro j hj
      rw [Lib.cell_of_heap hh, ← Array.getElem?_toList, ← ht, List.getElem?_take, if_pos (by omega)]
    have hv : ∀ (l : List (Tok × Value)) (i : Nat) (hi : i < l.length) (j : Nat), j < 5 → (l.flatMap fun p => tokV p.1 p.2)[i * 5 + j]? = (tokV l[i].1 l[i].2)[j]? := by
      intro l
      induction l with
      | nil => intro i hi; simp at hi
      | cons a l ih =>
        intro i hi j hj
        have hlen : (tokV a.1 a.2).length = 5 := rfl
        cases i with
        | zero =>
          rw [List.flatMap_cons, List.getElem?_append_left (by omega), Nat.zero_mul, Nat.zero_add]
          rfl
        | succ i =>
          have := ih i (by simpa using hi) j hj
          rw [show (i + 1) * 5 + j = 5 + (i * 5 + j) from by omega, List.flatMap_cons, List.getElem?_append_right (by omega), hlen, Nat.add_sub_cancel_left, this]
          rfl
    have hk := fun j hj => (key j hj).trans (hv ps i hi j hj)
    have h0 := hk 0 (by omega)
    have h1 := hk 1 (by omega)
    have h2 := hk 2 (by omega)
    have h3 := hk 3 (by omega)
    have h4 := hk 4 (by omega)
    rw [List.getElem_map]
    refine ⟨g, 0, ps[i].2, by rw [← e.1], ?_, ?_, ?_, ?_, ?_, (k3 _ (List.getElem_mem hi)).rd⟩ <;> rw [Nat.zero_add]
    · exact h0
    · exact h1
    · exact h2
    · exact h3
    · exact h4

theorem cell_al {w : World} {a : Addr} {v : Value} (h : w.cell? a = some v) : ∀ o, (w.alloc o).cell? a = some v := fun o => cell_keep h ((Below.refl _ w).alloc (Nat.le_refl _) o)
theorem cell_al2 {w : World} {a : Addr} {v : Value} (h : w.cell? a = some v) : ∀ o p, ((w.alloc o).alloc p).cell? a = some v := fun o p => cell_al (cell_al h o) p
theorem cell_lt {w : World} {g j : Nat} {v : Value} (h : w.cell? ⟨g, j, none⟩ = some v) : g < w.heap.size := by
  rcases Nat.lt_or_ge g w.heap.size with e | e
  · exact e
  · unfold World.cell? at h
    rw [Array.getElem?_eq_none e] at h
    cases h
theorem two_new {wr : World} {A B : Array Value} {t u : TypeId} : (((wr.alloc (.cells A t)).alloc (.cells B u)).drew).heap[wr.heap.size]? = some (.cells A t (0, 0)) ∧ (((wr.alloc (.cells A t)).alloc (.cells B u)).drew).heap[wr.heap.size + 1]? = some (.cells B u (0, 0)) ∧ Below wr.heap.size wr (((wr.alloc (.cells A t)).alloc (.cells B u)).drew) := by
  refine ⟨heap_old (new_cells wr A t) (.cells B u), ?_, (((Below.refl _ wr).alloc (Nat.le_refl _) _).alloc (by rw [World.size_alloc]; omega) _).drew⟩
  have := new_cells (wr.alloc (.cells A t)) B u
  rw [World.size_alloc] at this
  exact this
set_option maxHeartbeats 4000000 in
set_option maxRecDepth 100000 in
theorem same_c (v1 v2 : Value) (l : List Tok) (hl : l.length ≤ 9223372036854775807) (hla : ∀ t ∈ l, t.attrs.length ≤ 9223372036854775807) (w : World) (h1 : RdT w v1 l) (h2 : RdT w v2 l) :
    Calls Tryd.prog 41 #[v1, v2] w fun e w' => e = .returned (.bool true) ∧ Below w.heap.size w w' := by
  obtain ⟨ad1, cp1, rfl, h1⟩ := h1
  obtain ⟨ad2, cp2, rfl, h2⟩ := h2
  go_enter Tryd.func41, Tryd.ntmps41
  go_wp2
  go_loopw [5] (fun vi wr => ∃ (i : Nat), vi = .int .i64 i ∧ i ≤ l.length ∧ Below w.heap.size w wr) (fun vi _ => l.length - (intOf vi).toNat)
  case atStart => exact ⟨0, rfl, by omega, Below.refl _ _⟩
  case round =>
    obtain ⟨i, rfl, hi, hB⟩ := hrel
    by_cases hlt : i < l.length
    · obtain ⟨g1, o1, va1, rfl, a0, a1, a2, a3, a4, hA1⟩ := h1 i hlt
      obtain ⟨g2, o2, va2, rfl, b0, b1, b2, b3, b4, hA2⟩ := h2 i hlt
      replace a0 := cell_keep a0 hB
      replace a1 := cell_keep a1 hB
      replace a2 := cell_keep a2 hB
      replace a3 := cell_keep a3 hB
      replace a4 := cell_keep a4 hB
      replace b0 := cell_keep b0 hB
      replace b1 := cell_keep b1 hB
      replace b2 := cell_keep b2 hB
      replace b3 := cell_keep b3 hB
      replace b4 := cell_keep b4 hB
      replace hA1 := hA1.below hB
      replace hA2 := hA2.below hB
      have hlI : (i : Int) < l.length := by omega
      have hal := hla _ (List.getElem_mem hlt)
      generalize l[i] = tk at *
      obtain ⟨k, nm, at0, d, sf⟩ := tk
      simp only at a0 a1 a2 a3 a4 b0 b1 b2 b3 b4 hA1 hA2 hal
      obtain ⟨ae1, ce1, rfl, hA1⟩ := hA1
      obtain ⟨ae2, ce2, rfl, hA2⟩ := hA2
      have hg1 := cell_lt a0
      have hg2 := cell_lt b0
      have A0 := cell_al a0
      have A1 := cell_al a1
      have A2 := cell_al a2
      have A3 := cell_al a3
      have A4 := cell_al a4
      have B0 := cell_al b0
      have B1 := cell_al b1
      have B2 := cell_al b2
      have B3 := cell_al b3
      have B4 := cell_al b4
      have C0 := cell_al2 a0
      have C1 := cell_al2 a1
      have C2 := cell_al2 a2
      have C3 := cell_al2 a3
      have C4 := cell_al2 a4
      have D0 := cell_al2 b0
      have D1 := cell_al2 b1
      have D2 := cell_al2 b2
      have D3 := cell_al2 b3
      have D4 := cell_al2 b4
      have hn1 : g1 ≠ wr.heap.size := by omega
      have hn2 : g2 ≠ wr.heap.size := by omega
      have hn3 : g1 ≠ wr.heap.size + 1 := by omega
      have hn4 : g2 ≠ wr.heap.size + 1 := by omega
      go_wp2
      go_region
      · obtain ⟨r0, r1, hBw⟩ := two_new (wr := wr) (A := #[.int .i64 k, .string ⟨nm.toArray⟩, .string ⟨d.toArray⟩, .slice ae1 at0.length ce1, .bool sf]) (B := #[.int .i64 k, .string ⟨nm.toArray⟩, .string ⟨d.toArray⟩, .slice ae2 at0.length ce2, .bool sf]) (t := 56) (u := 56)
        have hB7 := below_seq hB hBw
        replace hA1 : RdA _ (.slice ae1 at0.length ce1) at0 := (show RdA wr (.slice ae1 at0.length ce1) at0 from ⟨_, _, rfl, hA1⟩).below hBw
        replace hA2 : RdA _ (.slice ae2 at0.length ce2) at0 := (show RdA wr (.slice ae2 at0.length ce2) at0 from ⟨_, _, rfl, hA2⟩).below hBw
        clear A0 A1 A2 A3 A4 B0 B1 B2 B3 B4 C0 C1 C2 C3 C4 D0 D1 D2 D3 D4 a0 a1 a2 a3 a4 b0 b1 b2 b3 b4
        generalize ((wr.alloc (.cells #[.int .i64 k, .string ⟨nm.toArray⟩, .string ⟨d.toArray⟩, .slice ae1 at0.length ce1, .bool sf] 56)).alloc (.cells #[.int .i64 k, .string ⟨nm.toArray⟩, .string ⟨d.toArray⟩, .slice ae2 at0.length ce2, .bool sf] 56)).drew = W7 at *
        obtain ⟨⟨p0, p1, p2, p3, p4⟩, p5⟩ := five_facts r0
        obtain ⟨⟨q0, q1, q2, q3, q4⟩, q5⟩ := five_facts r1
        go_wp2
        go_loopw [8] (fun vk wx => ∃ (j : Nat), vk = .int .i64 j ∧ j ≤ at0.length ∧ Below W7.heap.size W7 wx) (fun vk _ => at0.length - (intOf vk).toNat)
        case atStart => exact ⟨0, rfl, by omega, Below.refl _ _⟩
        case round =>
          obtain ⟨j, rfl, hj, hBx⟩ := hrel
          obtain ⟨⟨p0, p1, p2, p3, p4⟩, p5⟩ := five_facts (heap_below r0 hBx)
          obtain ⟨⟨q0, q1, q2, q3, q4⟩, q5⟩ := five_facts (heap_below r1 hBx)
          by_cases hjl : j < at0.length
          · obtain ⟨x1, y1, e1, t1⟩ := hA1.below hBx
            obtain ⟨x2, y2, e2, t2⟩ := hA2.below hBx
            simp only [Value.slice.injEq] at e1 e2
            obtain ⟨rfl, _, rfl⟩ := e1
            obtain ⟨rfl, _, rfl⟩ := e2
            obtain ⟨g3, o3, rfl, z0, z1⟩ := t1 j hjl
            obtain ⟨g4, o4, rfl, z2, z3⟩ := t2 j hjl
            have hjI : (j : Int) < at0.length := by omega
            generalize at0[j] = av at *
            obtain ⟨av1, av2⟩ := av
            simp only at z0 z1 z2 z3
            go_wp2
            go_region
            all_goals
              go_wp2
              exact ⟨⟨j + 1, rfl, by omega, (hBx.drew)⟩, by simp [intOf]; omega⟩
          · go_wp2
            exact ⟨⟨i + 1, rfl, by omega, below_seq hB7 hBx⟩, by simp [intOf]; omega⟩
      · obtain ⟨r0, r1, hBw⟩ := two_new (wr := wr) (A := #[.int .i64 k, .string ⟨nm.toArray⟩, .string ⟨d.toArray⟩, .slice ae2 at0.length ce2, .bool sf]) (B := #[.int .i64 k, .string ⟨nm.toArray⟩, .string ⟨d.toArray⟩, .slice ae1 at0.length ce1, .bool sf]) (t := 56) (u := 56)
        have hB7 := below_seq hB hBw
        replace hA1 : RdA _ (.slice ae1 at0.length ce1) at0 := (show RdA wr (.slice ae1 at0.length ce1) at0 from ⟨_, _, rfl, hA1⟩).below hBw
        replace hA2 : RdA _ (.slice ae2 at0.length ce2) at0 := (show RdA wr (.slice ae2 at0.length ce2) at0 from ⟨_, _, rfl, hA2⟩).below hBw
        clear A0 A1 A2 A3 A4 B0 B1 B2 B3 B4 C0 C1 C2 C3 C4 D0 D1 D2 D3 D4 a0 a1 a2 a3 a4 b0 b1 b2 b3 b4
        generalize ((wr.alloc (.cells #[.int .i64 k, .string ⟨nm.toArray⟩, .string ⟨d.toArray⟩, .slice ae2 at0.length ce2, .bool sf] 56)).alloc (.cells #[.int .i64 k, .string ⟨nm.toArray⟩, .string ⟨d.toArray⟩, .slice ae1 at0.length ce1, .bool sf] 56)).drew = W7 at *
        obtain ⟨⟨p0, p1, p2, p3, p4⟩, p5⟩ := five_facts r0
        obtain ⟨⟨q0, q1, q2, q3, q4⟩, q5⟩ := five_facts r1
        go_wp2
        go_loopw [8] (fun vk wx => ∃ (j : Nat), vk = .int .i64 j ∧ j ≤ at0.length ∧ Below W7.heap.size W7 wx) (fun vk _ => at0.length - (intOf vk).toNat)
        case atStart => exact ⟨0, rfl, by omega, Below.refl _ _⟩
        case round =>
          obtain ⟨j, rfl, hj, hBx⟩ := hrel
          obtain ⟨⟨p0, p1, p2, p3, p4⟩, p5⟩ := five_facts (heap_below r0 hBx)
          obtain ⟨⟨q0, q1, q2, q3, q4⟩, q5⟩ := five_facts (heap_below r1 hBx)
          by_cases hjl : j < at0.length
          · obtain ⟨x1, y1, e1, t1⟩ := hA1.below hBx
            obtain ⟨x2, y2, e2, t2⟩ := hA2.below hBx
            simp only [Value.slice.injEq] at e1 e2
            obtain ⟨rfl, _, rfl⟩ := e1
            obtain ⟨rfl, _, rfl⟩ := e2
            obtain ⟨g3, o3, rfl, z0, z1⟩ := t1 j hjl
            obtain ⟨g4, o4, rfl, z2, z3⟩ := t2 j hjl
            have hjI : (j : Int) < at0.length := by omega
            generalize at0[j] = av at *
            obtain ⟨av1, av2⟩ := av
            simp only at z0 z1 z2 z3
            go_wp2
            go_region
            all_goals
              go_wp2
              exact ⟨⟨j + 1, rfl, by omega, (hBx.drew)⟩, by simp [intOf]; omega⟩
          · go_wp2
            exact ⟨⟨i + 1, rfl, by omega, below_seq hB7 hBx⟩, by simp [intOf]; omega⟩
    · go_wp2
      go_ret
      exact ⟨rfl, hB⟩
end Go.Proofs.YtdnbaliibiginaaDoor

/- What a token, or a row of attributes or of tokens, that came in reads as: it can be read; how much it is. -/
namespace Go.Proofs.YtdnbaliibiginaaDoor
open Go.ChangeShapes Go.WideShapes Go.ChangeAt Go.RowKit

theorem bulk_part {H : Type} {d : DataW H} {l : List (DataW H)} (h : d ∈ l) : Rows.uptoBulk d ≤ Rows.uptoBulkAll l := by
  induction l with
  | nil => cases h
  | cons x r ih =>
    simp only [Rows.uptoBulkAll]
    rcases List.mem_cons.1 h with e | e
    · subst e; omega
    · have := ih e; omega
theorem bulk_one {H : Type} (d : DataW H) : 1 ≤ Rows.uptoBulk d := by
  cases d with
  | lit l => cases l <;> simp [Rows.uptoBulk]
  | nil => simp [Rows.uptoBulk]
  | ptr d => simp [Rows.uptoBulk]
  | slice elems spare => simp [Rows.uptoBulk]
  | agg parts => simp [Rows.uptoBulk]
  | iface t d => simp [Rows.uptoBulk]
  | map entries => simp [Rows.uptoBulk]
  | held h => simp [Rows.uptoBulk]
theorem bulk_len {H : Type} (l : List (DataW H)) : l.length ≤ Rows.uptoBulkAll l := by
  induction l with
  | nil => simp [Rows.uptoBulkAll]
  | cons x r ih => have := bulk_one x; simp only [Rows.uptoBulkAll, List.length_cons]; omega

theorem cells_at {w : World} {base n : Nat} {a : Addr} {cs : List Value} (h : w.cells? base a n = some cs) : cs.length = n ∧ ∀ j, j < n → w.cell? (a.add j) = cs[j]? := by
  unfold World.cells? at h
  split at h
  · have hl := mapM_some_length h
    refine ⟨by simpa using hl, fun j hj => ?_⟩
    have := mapM_some_get h j j (by simp [hj])
    exact this
  · cases h
theorem spot_none {w : World} {a : Addr} {v : Value} (h : w.cell? a = some v) : a = ⟨a.block, a.off, none⟩ := by
  obtain ⟨b, o, s⟩ := a
  cases s with
  | none => rfl
  | some s =>
    unfold World.cell? at h
    split at h <;> simp at h
theorem add_at (b o n : Nat) : Addr.add ⟨b, o, none⟩ n = ⟨b, o + n, none⟩ := by
  unfold Addr.add
  split <;> simp_all

theorem two_of {α : Type} {cs : List α} (h : cs.length = 2) : ∃ a b, cs = [a, b] := by
  match cs, h with
  | [a, b], _ => exact ⟨a, b, rfl⟩
theorem five_of {α : Type} {cs : List α} (h : cs.length = 5) : ∃ a b c d e, cs = [a, b, c, d, e] := by
  match cs, h with
  | [a, b, c, d, e], _ => exact ⟨a, b, c, d, e, rfl⟩
def pairOf {H : Type} : DataW H → Txt × Txt
  | .agg [.lit (.string a), .lit (.string b)] => (a, b)
  | _ => ([], [])
theorem cells_attr : Tryd.prog.cellsOf 45 = 2 := by kernel_rfl
theorem cells_tok : Tryd.prog.cellsOf 56 = 5 := by kernel_rfl
theorem cells_str : Tryd.prog.cellsOf 9 = 1 := by kernel_rfl
theorem cells_int : Tryd.prog.cellsOf 3 = 1 := by kernel_rfl
theorem cells_bool : Tryd.prog.cellsOf 4 = 1 := by kernel_rfl
theorem cells_attrs : Tryd.prog.cellsOf 33 = 1 := by kernel_rfl

variable {H : Type} {enc : TypeId × Value → H} {w : World} {base : Nat} {spare : Nat → Bool} {held : Bool}

theorem attr_open {fuel : Nat} {cs : List Value} {x : DataW H × List MemPlace} (h : DataW.trod enc Tryd.prog w base spare held fuel 45 cs = some x) :
    ∃ a b : Txt, cs = [.string ⟨a.toArray⟩, .string ⟨b.toArray⟩] ∧ pairOf x.1 = (a, b) ∧ a.length + b.length ≤ Rows.uptoBulk x.1 := by
  obtain ⟨y0, y1, n, rfl, hl, h0, h1⟩ := trod_struct2 Tryd.underlying45 h
  rw [cells_attr] at hl
  obtain ⟨c0, c1, rfl⟩ := two_of hl
  simp only [cells_str, List.drop_zero, List.take_succ_cons, List.take_zero, List.drop_succ_cons] at h0 h1
  obtain ⟨s0, e0, rfl, _⟩ := DataW.trod_string Tryd.underlying9 h0
  obtain ⟨s1, e1, rfl, _⟩ := DataW.trod_string Tryd.underlying9 h1
  simp only [List.cons.injEq, and_true] at e0 e1
  subst e0 e1
  refine ⟨s0.data.toList, s1.data.toList, by simp, rfl, ?_⟩
  simp only [Rows.uptoBulk, Rows.uptoBulkAll]
  omega
theorem attrs_open {fuel : Nat} {cs : List Value} {x : DataW H × List MemPlace} (h : DataW.trod enc Tryd.prog w base spare held fuel 33 cs = some x) :
    ∃ va l, cs = [va] ∧ RdA w va l ∧ l.length ≤ Rows.uptoBulk x.1 ∧ ∀ i (hi : i < l.length), l[i].1.length + l[i].2.length ≤ Rows.uptoBulk x.1 := by
  rcases DataW.trod_slice Tryd.underlying33 h with ⟨rfl, rfl⟩ | ⟨a, len, cap, elems, rest, n, _, rfl, rfl, hb, hle, hc, hlen, hel, _, _⟩
  · exact ⟨_, [], rfl, ⟨none, 0, rfl, fun i hi => by simp at hi⟩, by simp, fun i hi => by simp at hi⟩
  · have each : ∀ i (hi : i < elems.length), ∃ p q : Txt, pairOf elems[i].1 = (p, q) ∧ w.cell? (a.add (i * 2)) = some (.string ⟨p.toArray⟩) ∧ w.cell? ((a.add (i * 2)).add 1) = some (.string ⟨q.toArray⟩) ∧ p.length + q.length ≤ Rows.uptoBulk elems[i].1 := by
      intro i hi
      have h1 := hel i (by omega)
      rw [List.getElem?_eq_getElem hi, Option.bind_eq_some_iff, cells_attr] at h1
      obtain ⟨cs', h2, h3⟩ := h1
      obtain ⟨p, q, e, h4, h5⟩ := attr_open h3
      obtain ⟨_, h6⟩ := cells_at h2
      subst e
      refine ⟨p, q, h4, ?_, h6 1 (by omega), h5⟩
      have := h6 0 (by omega)
      rw [show (a.add (i * 2)).add 0 = a.add (i * 2) from by simp [Addr.add]] at this
      exact this
    refine ⟨_, elems.map (fun y => pairOf y.1), rfl, ?_, ?_, ?_⟩
    · refine ⟨some a, cap, by rw [List.length_map, hlen], fun i hi => ?_⟩
      rw [List.length_map] at hi
      obtain ⟨p, q, e1, e2, e3, _⟩ := each i hi
      obtain ⟨p0, q0, _, e20, _, _⟩ := each 0 (by omega)
      rw [Nat.zero_mul, show a.add 0 = a from by simp [Addr.add]] at e20
      have ha := spot_none e20
      rw [ha, add_at] at e2 e3
      rw [add_at] at e3
      rw [List.getElem_map, e1]
      exact ⟨a.block, a.off, by rw [← ha], e2, e3⟩
    · have := bulk_len (elems.map (·.1))
      simp only [List.length_map, Rows.uptoBulk] at *
      omega
    · intro i hi
      rw [List.length_map] at hi
      obtain ⟨p, q, e1, _, _, e4⟩ := each i hi
      rw [List.getElem_map, e1]
      have h7 : elems[i].1 ∈ elems.map (·.1) := List.mem_map_of_mem (List.getElem_mem hi)
      have := bulk_part h7
      simp only [Rows.uptoBulk]
      omega
theorem tok_open {fuel : Nat} {cs : List Value} {x : DataW H × List MemPlace} (h : DataW.trod enc Tryd.prog w base spare held fuel 56 cs = some x) :
    ∃ (k : Int) (nm d : Txt) (va : Value) (sf : Bool) (l : List (Txt × Txt)), cs = [.int .i64 k, .string ⟨nm.toArray⟩, .string ⟨d.toArray⟩, va, .bool sf] ∧ RdA w va l ∧ nm.length ≤ Rows.uptoBulk x.1 ∧ d.length ≤ Rows.uptoBulk x.1 ∧ l.length ≤ Rows.uptoBulk x.1 ∧ ∀ i (hi : i < l.length), l[i].1.length + l[i].2.length ≤ Rows.uptoBulk x.1 := by
  obtain ⟨xs, n, _, rfl, hl, hlen, hf⟩ := DataW.trod_struct Tryd.underlying56 h
  rw [cells_tok] at hl
  obtain ⟨c0, c1, c2, c3, c4, rfl⟩ := five_of hl
  obtain ⟨x0, x1, x2, x3, x4, rfl⟩ := five_of (hlen.trans rfl)
  have f0 : DataW.trod enc Tryd.prog w base spare held n 3 (([c0, c1, c2, c3, c4].drop 0).take (Tryd.prog.cellsOf 3)) = some x0 := hf 0 _ rfl
  rw [cells_int] at f0
  have f1 : DataW.trod enc Tryd.prog w base spare held n 9 (([c0, c1, c2, c3, c4].drop 1).take (Tryd.prog.cellsOf 9)) = some x1 := hf 1 _ rfl
  rw [cells_str] at f1
  have f2 : DataW.trod enc Tryd.prog w base spare held n 9 (([c0, c1, c2, c3, c4].drop 2).take (Tryd.prog.cellsOf 9)) = some x2 := hf 2 _ rfl
  rw [cells_str] at f2
  have f3 : DataW.trod enc Tryd.prog w base spare held n 33 (([c0, c1, c2, c3, c4].drop 3).take (Tryd.prog.cellsOf 33)) = some x3 := hf 3 _ rfl
  rw [cells_attrs] at f3
  have f4 : DataW.trod enc Tryd.prog w base spare held n 4 (([c0, c1, c2, c3, c4].drop 4).take (Tryd.prog.cellsOf 4)) = some x4 := hf 4 _ rfl
  rw [cells_bool] at f4
  simp only [List.drop_zero, List.take_succ_cons, List.take_zero, List.drop_succ_cons] at f0 f1 f2 f3 f4
  obtain ⟨k, e0, rfl, _⟩ := DataW.trod_int Tryd.underlying3 f0
  obtain ⟨s1, e1, rfl, _⟩ := DataW.trod_string Tryd.underlying9 f1
  obtain ⟨s2, e2, rfl, _⟩ := DataW.trod_string Tryd.underlying9 f2
  obtain ⟨va, l, e3, hA, hb1, hb2⟩ := attrs_open f3
  obtain ⟨sf, e4, rfl⟩ := DataW.trod_bool Tryd.underlying4 f4
  simp only [List.cons.injEq, and_true] at e0 e1 e2 e3 e4
  subst e0 e1 e2 e3 e4
  refine ⟨k, s1.data.toList, s2.data.toList, c3, sf, l, by simp, hA, ?_, ?_, ?_, ?_⟩
  · simp only [List.map_cons, List.map_nil, Rows.uptoBulk, Rows.uptoBulkAll]; omega
  · simp only [List.map_cons, List.map_nil, Rows.uptoBulk, Rows.uptoBulkAll]; omega
  · simp only [List.map_cons, List.map_nil, Rows.uptoBulk, Rows.uptoBulkAll]; omega
  · intro i hi
    have := hb2 i hi
    simp only [List.map_cons, List.map_nil, Rows.uptoBulk, Rows.uptoBulkAll]; omega
end Go.Proofs.YtdnbaliibiginaaDoor

/- Rows of tokens and of attributes in the words of the printed walks, and in our own. -/
namespace Go.Proofs.YtdnbaliibiginaaDoorH.TW
open Go.RowKit Go.Proofs Go.Proofs.YtdnbaliibiginaaDoor Go.Proofs.YtdnbaliibiginaaDoorW.PrintWords

def pairS (a : S45) : Txt × Txt := (a.f0.data.toList, a.f1.data.toList)
def tokS (x : S56) : Tok := ⟨x.f0, x.f1.data.toList, x.f3.map pairS, x.f2.data.toList, x.f4⟩
def pairT (a : Txt × Txt) : S45 := ⟨⟨a.1.toArray⟩, ⟨a.2.toArray⟩⟩
def tokT (x : Tok) : S56 := ⟨x.kind, ⟨x.name.toArray⟩, ⟨x.data.toArray⟩, x.attrs.map pairT, x.self⟩
theorem pairS_T (a : Txt × Txt) : pairS (pairT a) = a := rfl
theorem pairsS_T (l : List (Txt × Txt)) : (l.map pairT).map pairS = l := by
  induction l with
  | nil => rfl
  | cons a l ih => simp only [List.map_cons, pairS_T, ih]
theorem tokS_T (x : Tok) : tokS (tokT x) = x := by simp only [tokS, tokT, pairsS_T]
theorem toksS_T (l : List Tok) : (l.map tokT).map tokS = l := by
  induction l with
  | nil => rfl
  | cons a l ih => simp only [List.map_cons, tokS_T, ih]
theorem pairT_S (a : S45) : pairT (pairS a) = a := by cases a; simp [pairS, pairT]
theorem pairsT_S (l : List S45) : (l.map pairS).map pairT = l := by
  induction l with
  | nil => rfl
  | cons a l ih => simp only [List.map_cons, pairT_S, ih]
theorem tokT_S (x : S56) : tokT (tokS x) = x := by simp only [tokS, tokT, pairsT_S]
theorem toksT_S (l : List S56) : (l.map tokS).map tokT = l := by
  induction l with
  | nil => rfl
  | cons a l ih => simp only [List.map_cons, tokT_S, ih]

theorem spot_at {w : World} {ad : Addr} {v : Value} (h : w.cell? ad = some v) : ad = ⟨ad.block, ad.off, none⟩ := by
  have := spot_none h
  exact this
theorem rdA_of {w : World} {A : Option Addr} {l : List S45} {c : Nat} (h : k45.C w A l.length l) : RdA w (.slice A l.length c) (l.map pairS) := by
  refine ⟨A, c, by rw [List.length_map], fun i hi => ?_⟩
  rw [List.length_map] at hi
  obtain ⟨ad, e, c0, c1⟩ := at_T45 h i (by omega) (by omega)
  obtain ⟨ad0, e0, z0, _⟩ := at_T45 h 0 (by omega) (by omega)
  obtain rfl : ad0 = ad := Option.some.inj (e0.symm.trans e)
  have hs := spot_at (ad := ad0) (by simpa [Addr.add] using z0)
  simp only [Int.toNat_natCast] at c0 c1
  rw [hs, Go.Proofs.YtdnbaliibiginaaDoor.add_at] at c0 c1
  have er : rd_T45 l i = l[i] := by simp [rd_T45, hi]
  rw [er] at c0 c1
  refine ⟨ad0.block, ad0.off, by rw [e0, ← hs], ?_, ?_⟩
  · rw [List.getElem_map]; exact c0
  · rw [List.getElem_map]; exact c1
theorem rdT_of {w : World} {A : Option Addr} {l : List S56} {c : Nat} (h : k56.C w A l.length l) : RdT w (.slice A l.length c) (l.map tokS) := by
  refine ⟨A, c, by rw [List.length_map], fun i hi => ?_⟩
  rw [List.length_map] at hi
  obtain ⟨ad, A3, c3, e, c0, c1, c2, c3', c4, l3, g3⟩ := at_T56 h i (by omega) (by omega)
  obtain ⟨ad0, _, _, e0, z0, _⟩ := at_T56 h 0 (by omega) (by omega)
  obtain rfl : ad0 = ad := Option.some.inj (e0.symm.trans e)
  have hs := spot_at (ad := ad0) (by simpa [Addr.add] using z0)
  simp only [Int.toNat_natCast] at c0 c1 c2 c3' c4
  rw [hs, Go.Proofs.YtdnbaliibiginaaDoor.add_at] at c0 c1 c2 c3' c4
  have er : rd_T56 l i = l[i] := by simp [rd_T56, hi]
  rw [er] at c0 c1 c2 c3' c4 g3
  have hA := rdA_of (c := c3) g3
  refine ⟨ad0.block, ad0.off, _, by rw [e, ← hs], ?_, ?_, ?_, c3', ?_, ?_⟩
  · rw [List.getElem_map]; exact c0
  · rw [List.getElem_map]; exact c1
  · rw [List.getElem_map]; exact c2
  · rw [List.getElem_map]; exact c4
  · rw [List.getElem_map]; exact hA
end Go.Proofs.YtdnbaliibiginaaDoorH.TW

/- Contract of token.tagged: a tag, written. Nothing that lay in memory turns. -/
namespace Go.Proofs.YtdnbaliibiginaaDoor
open Go.RowKit Go.Proofs

theorem attrsW_app (a b : List (Txt × Txt)) : attrsW (a ++ b) = attrsW a ++ attrsW b := by simp only [attrsW, List.flatMap_append]
theorem attrsW_take {l : List (Txt × Txt)} {i : Nat} (h : i < l.length) : attrsW (l.take (i + 1)) = attrsW (l.take i) ++ 32 :: (l[i].1 ++ 61 :: 34 :: (wrL true l[i].2 ++ [34])) := by
  rw [List.take_add_one, List.getElem?_eq_getElem h, attrsW_app]
  simp [attrsW]
theorem attrsW_part0 {a b c d : Txt} (x y : Txt) (e : a = (b ++ 32 :: (x ++ 61 :: 34 :: (y ++ [34]))) ++ d) : b.length + (x.length + y.length + 4) ≤ a.length := by
  rw [e]
  simp only [List.length_append, List.length_cons, List.length_nil]
  omega
theorem step_str (acc an wv : Txt) : (⟨acc.toArray⟩ : ByteArray) ++ (⟨#[32]⟩ ++ ⟨an.toArray⟩ ++ ⟨#[61, 34]⟩ ++ ⟨wv.toArray⟩ ++ ⟨#[34]⟩) = ⟨(acc ++ 32 :: (an ++ 61 :: 34 :: (wv ++ [34]))).toArray⟩ := by
  apply ByteArray.ext
  simp
theorem attrsW_part {l : List (Txt × Txt)} {i : Nat} (h : i < l.length) : (attrsW (l.take i)).length + (l[i].1.length + (wrL true l[i].2).length + 4) ≤ (attrsW l).length := by
  have e : attrsW l = attrsW (l.take (i + 1)) ++ attrsW (l.drop (i + 1)) := by
    conv => lhs; rw [← List.take_append_drop (i + 1) l]
    exact attrsW_app _ _
  rw [attrsW_take h] at e
  exact attrsW_part0 (c := []) _ _ e

set_option maxHeartbeats 4000000 in
set_option maxRecDepth 100000 in
theorem tagged_c (o nm d : Txt) (k : Int) (at0 : List (Txt × Txt)) (sf : Bool) (va : Value) (hz : (taggedW o ⟨k, nm, at0, d, sf⟩).length ≤ 1000000000) (hat : at0.length ≤ 1000000000000) (w : World) (hA : RdA w va at0) :
    Calls Tryd.prog 45 #[.string ⟨o.toArray⟩, .agg #[.int .i64 k, .string ⟨nm.toArray⟩, .string ⟨d.toArray⟩, va, .bool sf]] w fun e w' => e = .returned (.string ⟨(taggedW o ⟨k, nm, at0, d, sf⟩).toArray⟩) ∧ Below w.heap.size w w' := by
  have hW : taggedW o ⟨k, nm, at0, d, sf⟩ = o ++ nm ++ attrsW at0 ++ selfW sf ++ [62] := rfl
  rw [hW] at hz ⊢
  simp only [List.length_append] at hz
  obtain ⟨ad, cp, rfl, hA0⟩ := id hA
  have hnb := new_cells w #[.int .i64 k, .string ⟨nm.toArray⟩, .string ⟨d.toArray⟩, .slice ad at0.length cp, .bool sf] 56
  have hb0 := (Below.refl w.heap.size w).alloc (Nat.le_refl _) (.cells #[.int .i64 k, .string ⟨nm.toArray⟩, .string ⟨d.toArray⟩, .slice ad at0.length cp, .bool sf] 56)
  obtain ⟨⟨g0, g1, g2, g3, g4⟩, g5⟩ := five_facts hnb
  go_enter Tryd.func45, Tryd.ntmps45
  go_wp2
  go_loopw [5, 7, 15] (fun vs _ vi wr => ∃ (i : Nat), vi = .int .i64 i ∧ vs = .string ⟨(o ++ nm ++ attrsW (at0.take i)).toArray⟩ ∧ i ≤ at0.length ∧ Below w.heap.size w wr ∧ wr.heap[w.heap.size]? = some (.cells #[.int .i64 k, .string ⟨nm.toArray⟩, .string ⟨d.toArray⟩, .slice ad at0.length cp, .bool sf] 56 (0, 0))) (fun _ _ vi _ => at0.length - (intOf vi).toNat)
  case atStart => exact ⟨0, rfl, by rw [str_app]; simp [attrsW], by omega, hb0, hnb⟩
  case round =>
    obtain ⟨i, rfl, rfl, hi, hB, hh⟩ := hrel
    obtain ⟨⟨p0, p1, p2, p3, p4⟩, p5⟩ := five_facts hh
    by_cases hlt : i < at0.length
    · obtain ⟨g, o2, rfl, z0, z1⟩ := hA0 i hlt
      replace z0 := cell_keep z0 hB
      replace z1 := cell_keep z1 hB
      have hlI : (i : Int) < at0.length := by omega
      have hp := attrsW_part hlt
      have hs := Lib.hid (attrsW_take hlt)
      generalize at0[i] = av at *
      obtain ⟨an, av⟩ := av
      simp only at z0 z1 hp hs
      have hwl := wr_ge true av
      have cv := Lib.hid (fun W => value_c av (by omega) W)
      generalize wrL true av = wv at *
      generalize hacc : o ++ nm ++ attrsW (at0.take i) = acc at *
      have Z0 := cell_al z0
      have Z1 := cell_al z1
      have hg := cell_lt z0
      have hn1 : g ≠ wr.heap.size := by omega
      obtain ⟨m0, m1, m2, m3⟩ := two_facts (new_cells wr #[.string ⟨an.toArray⟩, .string ⟨av.toArray⟩] 45)
      have s1 : ¬ 9223372036854775807 < 1 + an.length := by omega
      have s2 : ¬ 9223372036854775807 < 1 + an.length + 2 := by omega
      have s3 : ¬ 9223372036854775807 < 1 + an.length + 2 + wv.length := by omega
      have s4 : ¬ 9223372036854775807 < 1 + an.length + 2 + wv.length + 1 := by omega
      have hal : acc.length ≤ 1000000000 := by rw [← hacc]; simp only [List.length_append]; omega
      have s5 : ¬ 9223372036854775807 < acc.length + (1 + an.length + 2 + wv.length + 1) := by omega
      go_wp2
      go_region_law (go_simp; go_at_call 73; ((with_reducible refine (cv.out _).mono ?_); rintro e w2 ⟨rfl, hb2⟩; have hq := (hb2.block wr.heap.size (by show wr.heap.size < (wr.alloc _).heap.size; rw [World.size_alloc]; omega)).trans (new_cells wr #[.string ⟨an.toArray⟩, .string ⟨av.toArray⟩] 45); obtain ⟨y0, y1, y2, y3⟩ := two_facts hq))
      all_goals
        have hb3 : Below wr.heap.size wr w2 := below_then ((Below.refl _ wr).alloc (Nat.le_refl _) (.cells #[.string ⟨an.toArray⟩, .string ⟨av.toArray⟩] 45)).drew (by show wr.heap.size ≤ (wr.alloc _).heap.size; rw [World.size_alloc]; omega) hb2
        have hb4 := below_seq hB hb3
        have hh4 := heap_below hh hb3
        go_wp2
        refine ⟨⟨i + 1, rfl, ?_, by omega, by first | exact hb4 | exact hb4.drew, hh4⟩, by simp [intOf]; omega⟩
        rw [step_str, hs.out, ← hacc]
        simp only [List.append_assoc]
    · obtain rfl : i = at0.length := by omega
      rw [List.take_length] at *
      have hfin : ∀ x : Txt, (⟨(o ++ nm ++ attrsW at0).toArray⟩ : ByteArray) ++ ⟨x.toArray⟩ ++ ⟨#[62]⟩ = ⟨(o ++ nm ++ attrsW at0 ++ x ++ [62]).toArray⟩ := by
        intro x
        apply ByteArray.ext
        simp
      generalize hacc : o ++ nm ++ attrsW at0 = acc at *
      have hal : acc.length ≤ 1000000000 := by rw [← hacc]; simp only [List.length_append]; omega
      cases sf with
      | false =>
        go_wp2
        go_ret
        refine ⟨?_, hB⟩
        rw [show selfW false = [] from rfl, List.append_nil, hacc]
        exact congrArg (fun b => Ending.returned (Value.string b)) (str_app acc [62])
      | true =>
        go_wp2
        go_ret
        refine ⟨?_, hB⟩
        exact congrArg (fun x : Txt => Ending.returned (Value.string ⟨x.toArray⟩)) (show acc ++ [32, 47, 62] = o ++ nm ++ attrsW at0 ++ selfW true ++ [62] by rw [hacc]; simp [selfW])
end Go.Proofs.YtdnbaliibiginaaDoor

/- Contract of token.Write: tokens, written. Nothing that lay in memory turns. Condition: at most 10^9 bytes come of it. -/
namespace Go.Proofs.YtdnbaliibiginaaDoor
open Go.RowKit Go.Proofs

theorem RdA.nil (w : World) : RdA w (.slice none 0 0) [] := ⟨none, 0, rfl, fun i hi => by simp at hi⟩
def rawAt (l : List Tok) : Nat → Bool
  | 0 => false
  | j + 1 => match l[j]? with | some t => rawT t | none => false
theorem rawAt_succ {l : List Tok} {j : Nat} (h : j < l.length) : rawAt l (j + 1) = rawT l[j] := by simp [rawAt, List.getElem?_eq_getElem h]
theorem attrsW_len (l : List (Txt × Txt)) : l.length ≤ (attrsW l).length := by
  induction l with
  | nil => simp
  | cons a l ih =>
    rw [show attrsW (a :: l) = attrsW [a] ++ attrsW l from attrsW_app [a] l]
    simp only [List.length_append, List.length_cons]
    have : 1 ≤ (attrsW [a]).length := by simp [attrsW]
    omega
theorem write_step {l : List Tok} {acc : Txt} {i : Nat} (h : i < l.length) (he : writeN false l = acc ++ writeN (rawAt l i) (l.drop i)) : writeN false l = (acc ++ tokW (rawAt l i) l[i]) ++ writeN (rawAt l (i + 1)) (l.drop (i + 1)) := by
  rw [he, List.drop_eq_getElem_cons h, writeN, rawAt_succ h, List.append_assoc]
theorem write_len {a b c : Txt} (h : a = b ++ c) (n : Nat) (hn : a.length ≤ n) : b.length ≤ n := by
  have := congrArg List.length h
  simp only [List.length_append] at this
  omega


set_option maxHeartbeats 8000000 in
set_option maxRecDepth 100000 in
theorem write_g (v : Value) (l : List Tok) (hl : l.length ≤ 9223372036854775807) (hz : (writeL l).length ≤ 1000000000) (w : World) (hT : RdT w v l) :
    Calls Tryd.prog 21 #[v] w fun e w' => e = .returned (.string ⟨(writeL l).toArray⟩) ∧ Below w.heap.size w w' := by
  unfold writeL at *
  obtain ⟨ad, cp, rfl, hT0⟩ := id hT
  have hbn := bld_new _ w (Nat.le_refl _)
  have hb0 := (Below.refl w.heap.size w).alloc (Nat.le_refl _) (.cells #[.pointer none, .slice none 0 0] 63)
  have hs0 : w.heap.size < (w.alloc (.cells #[.pointer none, .slice none 0 0] 63)).heap.size := by rw [World.size_alloc]; omega
  go_enter Tryd.func21, Tryd.ntmps21
  go_wp2
  go_loopw [8] (fun vi wr => ∃ (i : Nat) (acc : Txt), vi = .int .i64 i ∧ i ≤ l.length ∧ Lib.IsBuilderF 63 5 w.heap.size w.heap.size (Lib.byteCells acc) wr ∧ Below w.heap.size w wr ∧ Hid (writeN false l = acc ++ writeN (rawAt l i) (l.drop i))) (fun vi _ => l.length - (intOf vi).toNat)
  case atStart => exact ⟨0, [], rfl, by omega, hbn, hb0, rfl⟩
  case round =>
    obtain ⟨i, acc, rfl, hi, hI, hB, hinv⟩ := hrel
    have hsz0 := hB.size
    by_cases hlt : i < l.length
    · obtain ⟨g, o, va, rfl, z0, z1, z2, z3, z4, hA⟩ := hT0 i hlt
      have hst := Lib.hid (write_step hlt hinv.out)
      have hbl := write_len hst.out _ hz
      rw [List.length_append] at hbl
      have hacc : acc.length ≤ 1000000000 := by omega
      have hr0 := rawAt_succ hlt
      replace z0 := cell_keep z0 hB
      replace z1 := cell_keep z1 hB
      replace z2 := cell_keep z2 hB
      replace z3 := cell_keep z3 hB
      replace z4 := cell_keep z4 hB
      replace hA := hA.below hB
      have hlI : (i : Int) < l.length := by omega
      clear hinv hr0
      generalize hrw : rawAt l i = rw0 at *
      generalize htk : l[i] = tk at *
      obtain ⟨kk, nm, at0, d, sf⟩ := tk
      simp only at z0 z1 z2 z3 z4 hA
      obtain ⟨ad3, cp3, rfl, hA0⟩ := id hA
      have hg := cell_lt z0
      have hn1 : g ≠ wr.heap.size := by omega
      have Z0 := cell_al z0
      have Z1 := cell_al z1
      have Z2 := cell_al z2
      have Z3 := cell_al z3
      have Z4 := cell_al z4
      have hnt := new_cells wr #[.int .i64 kk, .string ⟨nm.toArray⟩, .string ⟨d.toArray⟩, .slice ad3 at0.length cp3, .bool sf] 56
      have hIt := hI.alloc (.cells #[.int .i64 kk, .string ⟨nm.toArray⟩, .string ⟨d.toArray⟩, .slice ad3 at0.length cp3, .bool sf] 56)
      have hBt := hB.alloc (by omega) (.cells #[.int .i64 kk, .string ⟨nm.toArray⟩, .string ⟨d.toArray⟩, .slice ad3 at0.length cp3, .bool sf] 56)
      have hAt := hA.below ((Below.refl _ wr).alloc (Nat.le_refl _) (.cells #[.int .i64 kk, .string ⟨nm.toArray⟩, .string ⟨d.toArray⟩, .slice ad3 at0.length cp3, .bool sf] 56))
      have hszt : wr.heap.size < (wr.alloc (.cells #[.int .i64 kk, .string ⟨nm.toArray⟩, .string ⟨d.toArray⟩, .slice ad3 at0.length cp3, .bool sf] 56)).heap.size := by rw [World.size_alloc]; omega
      obtain ⟨⟨p0, p1, p2, p3, p4⟩, p5⟩ := five_facts hnt
      by_cases k0 : kk = 0
      · subst k0
        have hwl := wr_ge false d
        cases rw0 with
        | false =>
          have htw : tokW false ⟨0, nm, at0, d, sf⟩ = wrL false d := rfl
          rw [htw] at hst hbl
          have ctx := Lib.hid (fun W => text_c d (by omega) W)
          generalize wrL false d = wd at *
          cases i with
          | zero =>
            simp only [Nat.zero_mul, Nat.add_zero] at z0 z1 z2 z3 z4 Z0 Z1 Z2 Z3 Z4
            go_wp2_with (first
              | (go_at_call 44; ((with_reducible refine (ctx.out _).mono ?_); rintro e w3 ⟨rfl, hb3⟩; have hI3 := bld_below hIt hb3; have hB3 := below_then hBt (by have := hBt.size; omega) hb3))
              | (go_at_call 43; ((with_reducible refine (write_l _ _ acc wd _ hI3 (by omega) (by have := hB3.size; omega)).mono ?_); rintro e w5 ⟨rfl, hI5, hb5, _⟩; have hB5 := hB3.trans hb5)))
            exact ⟨⟨0 + 1, _, rfl, by omega, hI5, hB5, hst.out⟩, by simp [intOf]; omega⟩
          | succ j =>
            obtain ⟨g', o', va', e', x0, x1, x2, x3, x4, hA'⟩ := hT0 j (by omega)
            simp only [Option.some.injEq, Addr.mk.injEq, and_true] at e'
            obtain ⟨rfl, rfl⟩ := e'
            rw [rawAt_succ (by omega)] at hrw
            replace x0 := cell_keep x0 hB
            replace x1 := cell_keep x1 hB
            have X0 := cell_al x0
            have X1 := cell_al x1
            have hjI : (j : Int) < l.length := by omega
            generalize l[j] = tj at *
            obtain ⟨kj, nj, aj, dj, sj⟩ := tj
            simp only at X0 X1
            by_cases h1 : kj = 1
            · subst h1
              have hrj : rawB nj = false := by simpa [rawT] using hrw
              have craw := Lib.hid (fun W => raw_c nj W)
              rw [hrj] at craw
              go_wp2_with (first
                | (go_at_call 42; ((with_reducible refine (craw.out _).mono ?_); rintro e w2 ⟨rfl, hb2⟩; have hI2 := bld_below hIt hb2; have hB2 := below_then hBt (by have := hBt.size; omega) hb2; obtain ⟨⟨y0, y1, y2, y3, y4⟩, y5⟩ := five_facts (heap_below hnt hb2)))
                | (go_at_call 44; ((with_reducible refine (ctx.out _).mono ?_); rintro e w3 ⟨rfl, hb3⟩; have hI3 := bld_below hI2 hb3; have hB3 := below_then hB2 (by have := hB2.size; omega) hb3))
                | (go_at_call 43; ((with_reducible refine (write_l _ _ acc wd _ hI3 (by omega) (by have := hB3.size; omega)).mono ?_); rintro e w5 ⟨rfl, hI5, hb5, _⟩; have hB5 := hB3.trans hb5)))
              exact ⟨⟨j + 1 + 1, _, rfl, by omega, hI5, hB5, hst.out⟩, by simp [intOf]; omega⟩
            · have hk1 : ¬ (kj : Int) = 1 := h1
              go_wp2_with (first
                | (go_at_call 44; ((with_reducible refine (ctx.out _).mono ?_); rintro e w3 ⟨rfl, hb3⟩; have hI3 := bld_below hIt hb3; have hB3 := below_then hBt (by have := hBt.size; omega) hb3))
                | (go_at_call 43; ((with_reducible refine (write_l _ _ acc wd _ hI3 (by omega) (by have := hB3.size; omega)).mono ?_); rintro e w5 ⟨rfl, hI5, hb5, _⟩; have hB5 := hB3.trans hb5)))
              exact ⟨⟨j + 1 + 1, _, rfl, by omega, hI5, hB5, hst.out⟩, by simp [intOf]; omega⟩
        | true =>
          have htw : tokW true ⟨0, nm, at0, d, sf⟩ = d := rfl
          rw [htw] at hst hbl
          cases i with
          | zero => cases hrw
          | succ j =>
            obtain ⟨g', o', va', e', x0, x1, x2, x3, x4, hA'⟩ := hT0 j (by omega)
            simp only [Option.some.injEq, Addr.mk.injEq, and_true] at e'
            obtain ⟨rfl, rfl⟩ := e'
            rw [rawAt_succ (by omega)] at hrw
            replace x0 := cell_keep x0 hB
            replace x1 := cell_keep x1 hB
            have X0 := cell_al x0
            have X1 := cell_al x1
            have hjI : (j : Int) < l.length := by omega
            generalize l[j] = tj at *
            obtain ⟨kj, nj, aj, dj, sj⟩ := tj
            simp only at X0 X1
            simp only [rawT, Bool.and_eq_true, beq_iff_eq] at hrw
            obtain ⟨rfl, hrj⟩ := hrw
            have craw := Lib.hid (fun W => raw_c nj W)
            rw [hrj] at craw
            go_wp2_with (first
              | (go_at_call 42; ((with_reducible refine (craw.out _).mono ?_); rintro e w2 ⟨rfl, hb2⟩; have hI2 := bld_below hIt hb2; have hB2 := below_then hBt (by have := hBt.size; omega) hb2; obtain ⟨⟨y0, y1, y2, y3, y4⟩, y5⟩ := five_facts (heap_below hnt hb2)))
              | (go_at_call 43; ((with_reducible refine (write_l _ _ acc d _ hI2 (by omega) (by have := hB2.size; omega)).mono ?_); rintro e w5 ⟨rfl, hI5, hb5, _⟩; have hB5 := hB2.trans hb5)))
            exact ⟨⟨j + 1 + 1, _, rfl, by omega, hI5, hB5, hst.out⟩, by simp [intOf]; omega⟩
      · by_cases k1 : kk = 1
        · subst k1
          have htw : tokW rw0 ⟨1, nm, at0, d, sf⟩ = taggedW [60] ⟨1, nm, at0, d, sf⟩ := rfl
          rw [htw] at hst hbl
          have hsub : at0.length ≤ 1000000000000 := by
            have := attrsW_len at0
            simp only [taggedW, List.length_append] at hbl
            omega
          have ctag := Lib.hid (fun W h => tagged_c [60] nm d 1 at0 sf (.slice ad3 at0.length cp3) (by omega) hsub W h)
          generalize taggedW [60] ⟨1, nm, at0, d, sf⟩ = tx at *
          go_wp2_with (first
            | (go_at_call 45; ((with_reducible refine (ctag.out _ (hAt)).mono ?_); rintro e w3 ⟨rfl, hb3⟩; have hI3 := bld_below hIt hb3; have hB3 := below_then hBt (by have := hBt.size; omega) hb3))
            | (go_at_call 43; ((with_reducible refine (write_l _ _ acc tx _ hI3 (by omega) (by have := hB3.size; omega)).mono ?_); rintro e w5 ⟨rfl, hI5, hb5, _⟩; have hB5 := hB3.trans hb5)))
          exact ⟨⟨i + 1, _, rfl, by omega, hI5, hB5, hst.out⟩, by simp [intOf]; omega⟩
        · by_cases k2 : kk = 2
          · subst k2
            have htw : tokW rw0 ⟨2, nm, at0, d, sf⟩ = taggedW [60, 47] ⟨0, nm, [], [], false⟩ := rfl
            rw [htw] at hst hbl
            have ctag := Lib.hid (fun W h => tagged_c [60, 47] nm [] 0 [] false (.slice none 0 0) (by omega) (by simp) W h)
            generalize taggedW [60, 47] ⟨0, nm, [], [], false⟩ = tx at *
            go_wp2_with (first
              | (go_at_call 45; ((with_reducible refine (ctag.out _ (RdA.nil _)).mono ?_); rintro e w3 ⟨rfl, hb3⟩; have hI3 := bld_below hIt hb3; have hB3 := below_then hBt (by have := hBt.size; omega) hb3))
              | (go_at_call 43; ((with_reducible refine (write_l _ _ acc tx _ hI3 (by omega) (by have := hB3.size; omega)).mono ?_); rintro e w5 ⟨rfl, hI5, hb5, _⟩; have hB5 := hB3.trans hb5)))
            exact ⟨⟨i + 1, _, rfl, by omega, hI5, hB5, hst.out⟩, by simp [intOf]; omega⟩
          · by_cases k3 : kk = 3
            · subst k3
              have htw : tokW rw0 ⟨3, nm, at0, d, sf⟩ = [60, 33, 45, 45] ++ d ++ [45, 45, 62] := rfl
              rw [htw] at hst hbl
              have hdl : d.length ≤ 1000000000 := by simp at hbl; omega
              have hcat : (⟨#[60, 33, 45, 45]⟩ : ByteArray) ++ ⟨d.toArray⟩ ++ ⟨#[45, 45, 62]⟩ = ⟨([60, 33, 45, 45] ++ d ++ [45, 45, 62]).toArray⟩ := by
                apply ByteArray.ext
                simp
              generalize [60, 33, 45, 45] ++ d ++ [45, 45, 62] = tx at *
              go_wp2_with (first
                | (go_at_call 43; ((with_reducible refine (write_l _ _ acc tx _ hIt (by omega) (by have := hBt.size; omega)).mono ?_); rintro e w5 ⟨rfl, hI5, hb5, _⟩; have hB5 := hBt.trans hb5)))
              exact ⟨⟨i + 1, _, rfl, by omega, hI5, hB5, hst.out⟩, by simp [intOf]; omega⟩
            · by_cases k4 : kk = 4
              · subst k4
                have htw : tokW rw0 ⟨4, nm, at0, d, sf⟩ = [60, 33, 100, 111, 99, 116, 121, 112, 101, 32] ++ d ++ [62] := rfl
                rw [htw] at hst hbl
                have hdl : d.length ≤ 1000000000 := by simp at hbl; omega
                have hcat : (⟨#[60, 33, 100, 111, 99, 116, 121, 112, 101, 32]⟩ : ByteArray) ++ ⟨d.toArray⟩ ++ ⟨#[62]⟩ = ⟨([60, 33, 100, 111, 99, 116, 121, 112, 101, 32] ++ d ++ [62]).toArray⟩ := by
                  apply ByteArray.ext
                  simp
                generalize [60, 33, 100, 111, 99, 116, 121, 112, 101, 32] ++ d ++ [62] = tx at *
                go_wp2_with (first
                  | (go_at_call 43; ((with_reducible refine (write_l _ _ acc tx _ hIt (by omega) (by have := hBt.size; omega)).mono ?_); rintro e w5 ⟨rfl, hI5, hb5, _⟩; have hB5 := hBt.trans hb5)))
                exact ⟨⟨i + 1, _, rfl, by omega, hI5, hB5, hst.out⟩, by simp [intOf]; omega⟩
              · have htw : tokW rw0 ⟨kk, nm, at0, d, sf⟩ = [] := by simp [tokW, k0, k1, k2, k3, k4]
                rw [htw, List.append_nil] at hst
                go_wp2
                exact ⟨⟨i + 1, _, rfl, by omega, hIt, hBt, hst.out⟩, by simp [intOf]; omega⟩
    · have hd : writeN false l = acc := by
        rw [hinv.out, List.drop_eq_nil_of_le (by omega), writeN, List.append_nil]
      have hd := Lib.hid hd
      rename_i hd0
      clear hd0
      go_wp2_with (go_at_call 46; ((with_reducible refine (Tryd.Builder_String_any_k _ _ _ _ hI (by omega)).mono ?_); rintro e w3 ⟨rfl, _, hb3, _⟩))
      go_ret
      rw [hd.out]
      exact ⟨rfl, hB.trans hb3⟩
end Go.Proofs.YtdnbaliibiginaaDoor

/- Contract of boltingref03.Write: a text with what may not stand so written out, as refs has it. Nothing that lay in memory turns. -/
namespace Go.Proofs.YtdnbaliibiginaaDoor
open Go.RowKit Go.Proofs

theorem ext_one (l : List UInt8) (k : Nat) (h : k < l.length) : (⟨l.toArray⟩ : ByteArray).extract k (k + 1) = ⟨#[l[k]]⟩ := by
  rw [Lib.extract_eq, mk_data_list, List.drop_eq_getElem_cons h, show k + 1 - k = 1 from by omega]
  rfl
theorem hard_two {l : List UInt8} {k : Nat} {c d : UInt8} (h : k < l.length) (h2 : k + 1 < l.length) (hc : l[k] = c) (hd : l[k + 1] = d) : hardL (l.drop k) = (c == 194 && d == 160) := by
  rw [List.drop_eq_getElem_cons h, List.drop_eq_getElem_cons h2, hc, hd]
  simp only [hardL, Lib.hasPrefix, List.isPrefixOf, Bool.and_true]
  rw [BEq.comm (a := (194 : UInt8)), BEq.comm (a := (160 : UInt8))]
theorem hardT {x : List UInt8} {c d : UInt8} (h : hardL x = (c == 194 && d == 160)) (hc : c.toNat = 194) (hd : d.toNat = 160) : hardL x = true := by
  rw [h, u8_eq hc (by omega), u8_eq hd (by omega)]
  rfl
theorem hardF {x : List UInt8} {c d : UInt8} (h : hardL x = (c == 194 && d == 160)) (hd : d.toNat ≠ 160) : hardL x = false := by
  rw [h]
  have : (d == 160) = false := by
    rw [beq_eq_false_iff_ne]
    intro e
    exact hd (by rw [e]; rfl)
  rw [this, Bool.and_false]
theorem hard_end {l : List UInt8} {k : Nat} (h2 : ¬ k + 1 < l.length) : hardL (l.drop k) = false := by
  cases hh : hardL (l.drop k) with
  | false => rfl
  | true => exact absurd (hard_len hh) (by omega)

set_option maxHeartbeats 1000000 in
set_option maxRecDepth 100000 in
theorem rwrite_false (l : List UInt8) (hl : l.length ≤ 1000000000) (w : World) :
    Calls Tryd.prog 28 #[.string ⟨l.toArray⟩, .bool false] w fun e w' => e = .returned (.string ⟨(wrL false l).toArray⟩) ∧ Below w.heap.size w w' := by
  go_enter Tryd.func28, Tryd.ntmps28
  go_wp2
  go_loopw [5, 6] (fun vb vi wr => ∃ (k : Nat) (acc : List UInt8), vi = .int .i64 k ∧ k ≤ l.length ∧ Bts wr w.heap.size vb acc ∧ Below w.heap.size w wr ∧ Hid (wrL false l = acc ++ wrL false (l.drop k)) ∧ acc.length ≤ 6 * k) (fun _ vi _ => l.length - (intOf vi).toNat)
  case atStart =>
    exact ⟨0, [], rfl, by omega, Bts.new _ _ (Nat.le_refl _), (Below.refl _ w).alloc (Nat.le_refl _) _, rfl, by simp⟩
  case round =>
    obtain ⟨k, acc, rfl, hk, hI, hbw, hdec, hal⟩ := hrel
    have hsz := hbw.size
    by_cases hlt : k < l.length
    · have hx1 := ext_one l k hlt
      obtain ⟨c, hc⟩ : ∃ c, l[k] = c := ⟨_, rfl⟩
      rw [hc] at hx1
      have hkA : (0 : Int) ≤ (k : Int) := by omega
      have hkB : (k : Int) ≤ (k : Int) + 1 := by omega
      have hkC : (k : Int) + 1 ≤ (l.length : Int) := by omega
      have hc' := Lib.hid hc
      by_cases hlt2 : k + 1 < l.length
      · obtain ⟨d, hd⟩ : ∃ d, l[k + 1] = d := ⟨_, rfl⟩
        have hh2 := Lib.hid (hard_two hlt hlt2 hc hd)
        go_wp2_with (at_builtin; refine app_text rfl _ _ rfl w.heap.size _ acc _ rfl hI rfl (by simp; omega) hsz ?_; intro v' w5 hI5 hb5 hz5)
        all_goals (try simp only [beq_iff_eq, beq_eq_false_iff_ne, ne_eq] at *)
        all_goals first
          | (refine ⟨⟨k + 1, acc ++ _, rfl, by omega, hI5, hbw.trans hb5, wr_at hlt hc'.out hdec.out (hard_no hlt hc'.out (by omega)) (esc38 (by omega)), by simp; omega⟩, by simp [intOf]; omega⟩)
          | (refine ⟨⟨k + 1, acc ++ _, rfl, by omega, hI5, hbw.trans hb5, wr_at hlt hc'.out hdec.out (hard_no hlt hc'.out (by omega)) (esc60 (by omega)), by simp; omega⟩, by simp [intOf]; omega⟩)
          | (refine ⟨⟨k + 1, acc ++ _, rfl, by omega, hI5, hbw.trans hb5, wr_at hlt hc'.out hdec.out (hard_no hlt hc'.out (by omega)) (esc62 (by omega)), by simp; omega⟩, by simp [intOf]; omega⟩)
          | (refine ⟨⟨k + 1, acc ++ _, rfl, by omega, hI5, hbw.trans hb5, wr_at hlt hc'.out hdec.out (hard_no hlt hc'.out (by omega)) (esc34f (by omega)), by simp; omega⟩, by simp [intOf]; omega⟩)
          | (refine ⟨⟨k + 1, acc ++ _, rfl, by omega, hI5, hbw.trans hb5, wr_at hlt hc'.out hdec.out (hard_no hlt hc'.out (by omega)) (escNo (by omega) (by omega) (by omega) (by simp; try omega)), by simp; omega⟩, by simp [intOf]; omega⟩)
          | (refine ⟨⟨k + 1, acc ++ _, rfl, by omega, hI5, hbw.trans hb5, wr_at hlt hc'.out hdec.out (hardF hh2.out (by omega)) (escNo (by omega) (by omega) (by omega) (by simp; try omega)), by simp; omega⟩, by simp [intOf]; omega⟩)
          | (refine ⟨⟨k + 1 + 1, acc ++ _, by first | rfl | (congr 1; omega), by omega, hI5, hbw.trans hb5, wr_hard hdec.out (hardT hh2.out (by omega) (by omega)), by simp; omega⟩, by simp [intOf]; omega⟩)
          | skip
      · have hh2 := Lib.hid (hard_end hlt2)
        go_wp2_with (at_builtin; refine app_text rfl _ _ rfl w.heap.size _ acc _ rfl hI rfl (by simp; omega) hsz ?_; intro v' w5 hI5 hb5 hz5)
        all_goals (try simp only [beq_iff_eq, beq_eq_false_iff_ne, ne_eq] at *)
        all_goals first
          | (refine ⟨⟨k + 1, acc ++ _, rfl, by omega, hI5, hbw.trans hb5, wr_at hlt hc'.out hdec.out hh2.out (esc38 (by omega)), by simp; omega⟩, by simp [intOf]; omega⟩)
          | (refine ⟨⟨k + 1, acc ++ _, rfl, by omega, hI5, hbw.trans hb5, wr_at hlt hc'.out hdec.out hh2.out (esc60 (by omega)), by simp; omega⟩, by simp [intOf]; omega⟩)
          | (refine ⟨⟨k + 1, acc ++ _, rfl, by omega, hI5, hbw.trans hb5, wr_at hlt hc'.out hdec.out hh2.out (esc62 (by omega)), by simp; omega⟩, by simp [intOf]; omega⟩)
          | (refine ⟨⟨k + 1, acc ++ _, rfl, by omega, hI5, hbw.trans hb5, wr_at hlt hc'.out hdec.out hh2.out (esc34f (by omega)), by simp; omega⟩, by simp [intOf]; omega⟩)
          | (refine ⟨⟨k + 1, acc ++ _, rfl, by omega, hI5, hbw.trans hb5, wr_at hlt hc'.out hdec.out hh2.out (escNo (by omega) (by omega) (by omega) (by simp; try omega)), by simp; omega⟩, by simp [intOf]; omega⟩)
          | skip
    · have hd : wrL false l = acc := by
        rw [hdec.out, List.drop_eq_nil_of_le (by omega)]
        simp [wrL]
      have hd := Lib.hid hd
      rename_i hd0
      clear hd0
      have hcv := conv_own hI
      go_wp2
      go_ret
      rw [hd.out]
      exact ⟨rfl, hbw⟩

set_option maxHeartbeats 1000000 in
set_option maxRecDepth 100000 in
theorem rwrite_true (l : List UInt8) (hl : l.length ≤ 1000000000) (w : World) :
    Calls Tryd.prog 28 #[.string ⟨l.toArray⟩, .bool true] w fun e w' => e = .returned (.string ⟨(wrL true l).toArray⟩) ∧ Below w.heap.size w w' := by
  go_enter Tryd.func28, Tryd.ntmps28
  go_wp2
  go_loopw [5, 6] (fun vb vi wr => ∃ (k : Nat) (acc : List UInt8), vi = .int .i64 k ∧ k ≤ l.length ∧ Bts wr w.heap.size vb acc ∧ Below w.heap.size w wr ∧ Hid (wrL true l = acc ++ wrL true (l.drop k)) ∧ acc.length ≤ 6 * k) (fun _ vi _ => l.length - (intOf vi).toNat)
  case atStart =>
    exact ⟨0, [], rfl, by omega, Bts.new _ _ (Nat.le_refl _), (Below.refl _ w).alloc (Nat.le_refl _) _, rfl, by simp⟩
  case round =>
    obtain ⟨k, acc, rfl, hk, hI, hbw, hdec, hal⟩ := hrel
    have hsz := hbw.size
    by_cases hlt : k < l.length
    · have hx1 := ext_one l k hlt
      obtain ⟨c, hc⟩ : ∃ c, l[k] = c := ⟨_, rfl⟩
      rw [hc] at hx1
      have hkA : (0 : Int) ≤ (k : Int) := by omega
      have hkB : (k : Int) ≤ (k : Int) + 1 := by omega
      have hkC : (k : Int) + 1 ≤ (l.length : Int) := by omega
      have hc' := Lib.hid hc
      by_cases hlt2 : k + 1 < l.length
      · obtain ⟨d, hd⟩ : ∃ d, l[k + 1] = d := ⟨_, rfl⟩
        have hh2 := Lib.hid (hard_two hlt hlt2 hc hd)
        go_wp2_with (at_builtin; refine app_text rfl _ _ rfl w.heap.size _ acc _ rfl hI rfl (by simp; omega) hsz ?_; intro v' w5 hI5 hb5 hz5)
        all_goals (try simp only [beq_iff_eq, beq_eq_false_iff_ne, ne_eq] at *)
        all_goals first
          | (refine ⟨⟨k + 1, acc ++ _, rfl, by omega, hI5, hbw.trans hb5, wr_at hlt hc'.out hdec.out (hard_no hlt hc'.out (by omega)) (esc38 (by omega)), by simp; omega⟩, by simp [intOf]; omega⟩)
          | (refine ⟨⟨k + 1, acc ++ _, rfl, by omega, hI5, hbw.trans hb5, wr_at hlt hc'.out hdec.out (hard_no hlt hc'.out (by omega)) (esc60 (by omega)), by simp; omega⟩, by simp [intOf]; omega⟩)
          | (refine ⟨⟨k + 1, acc ++ _, rfl, by omega, hI5, hbw.trans hb5, wr_at hlt hc'.out hdec.out (hard_no hlt hc'.out (by omega)) (esc62 (by omega)), by simp; omega⟩, by simp [intOf]; omega⟩)
          | (refine ⟨⟨k + 1, acc ++ _, rfl, by omega, hI5, hbw.trans hb5, wr_at hlt hc'.out hdec.out (hard_no hlt hc'.out (by omega)) (esc34 (by omega)), by simp; omega⟩, by simp [intOf]; omega⟩)
          | (refine ⟨⟨k + 1, acc ++ _, rfl, by omega, hI5, hbw.trans hb5, wr_at hlt hc'.out hdec.out (hard_no hlt hc'.out (by omega)) (escNo (by omega) (by omega) (by omega) (by simp; try omega)), by simp; omega⟩, by simp [intOf]; omega⟩)
          | (refine ⟨⟨k + 1, acc ++ _, rfl, by omega, hI5, hbw.trans hb5, wr_at hlt hc'.out hdec.out (hardF hh2.out (by omega)) (escNo (by omega) (by omega) (by omega) (by simp; try omega)), by simp; omega⟩, by simp [intOf]; omega⟩)
          | (refine ⟨⟨k + 1 + 1, acc ++ _, by first | rfl | (congr 1; omega), by omega, hI5, hbw.trans hb5, wr_hard hdec.out (hardT hh2.out (by omega) (by omega)), by simp; omega⟩, by simp [intOf]; omega⟩)
          | skip
      · have hh2 := Lib.hid (hard_end hlt2)
        go_wp2_with (at_builtin; refine app_text rfl _ _ rfl w.heap.size _ acc _ rfl hI rfl (by simp; omega) hsz ?_; intro v' w5 hI5 hb5 hz5)
        all_goals (try simp only [beq_iff_eq, beq_eq_false_iff_ne, ne_eq] at *)
        all_goals first
          | (refine ⟨⟨k + 1, acc ++ _, rfl, by omega, hI5, hbw.trans hb5, wr_at hlt hc'.out hdec.out hh2.out (esc38 (by omega)), by simp; omega⟩, by simp [intOf]; omega⟩)
          | (refine ⟨⟨k + 1, acc ++ _, rfl, by omega, hI5, hbw.trans hb5, wr_at hlt hc'.out hdec.out hh2.out (esc60 (by omega)), by simp; omega⟩, by simp [intOf]; omega⟩)
          | (refine ⟨⟨k + 1, acc ++ _, rfl, by omega, hI5, hbw.trans hb5, wr_at hlt hc'.out hdec.out hh2.out (esc62 (by omega)), by simp; omega⟩, by simp [intOf]; omega⟩)
          | (refine ⟨⟨k + 1, acc ++ _, rfl, by omega, hI5, hbw.trans hb5, wr_at hlt hc'.out hdec.out hh2.out (esc34 (by omega)), by simp; omega⟩, by simp [intOf]; omega⟩)
          | (refine ⟨⟨k + 1, acc ++ _, rfl, by omega, hI5, hbw.trans hb5, wr_at hlt hc'.out hdec.out hh2.out (escNo (by omega) (by omega) (by omega) (by simp; try omega)), by simp; omega⟩, by simp [intOf]; omega⟩)
          | skip
    · have hd : wrL true l = acc := by
        rw [hdec.out, List.drop_eq_nil_of_le (by omega)]
        simp [wrL]
      have hd := Lib.hid hd
      rename_i hd0
      clear hd0
      have hcv := conv_own hI
      go_wp2
      go_ret
      rw [hd.out]
      exact ⟨rfl, hbw⟩
end Go.Proofs.YtdnbaliibiginaaDoor

/- Contract of the reference's tagged: a tag, written. Nothing that lay in memory turns. -/
namespace Go.Proofs.YtdnbaliibiginaaDoor
open Go.RowKit Go.Proofs

set_option maxHeartbeats 8000000 in
set_option maxRecDepth 100000 in
theorem rtagged_c (o nm d : Txt) (k : Int) (at0 : List (Txt × Txt)) (sf : Bool) (va : Value) (hz : (taggedW o ⟨k, nm, at0, d, sf⟩).length ≤ 1000000000) (hat : at0.length ≤ 1000000000000) (w : World) (hA : RdA w va at0) :
    Calls Tryd.prog 47 #[.string ⟨o.toArray⟩, .agg #[.int .i64 k, .string ⟨nm.toArray⟩, .string ⟨d.toArray⟩, va, .bool sf]] w fun e w' => e = .returned (.string ⟨(taggedW o ⟨k, nm, at0, d, sf⟩).toArray⟩) ∧ Below w.heap.size w w' := by
  have hW : taggedW o ⟨k, nm, at0, d, sf⟩ = o ++ nm ++ attrsW at0 ++ selfW sf ++ [62] := rfl
  rw [hW] at hz ⊢
  simp only [List.length_append] at hz
  obtain ⟨ad, cp, rfl, hA0⟩ := id hA
  have hnb := new_cells w #[.int .i64 k, .string ⟨nm.toArray⟩, .string ⟨d.toArray⟩, .slice ad at0.length cp, .bool sf] 56
  have hb0 := (Below.refl w.heap.size w).alloc (Nat.le_refl _) (.cells #[.int .i64 k, .string ⟨nm.toArray⟩, .string ⟨d.toArray⟩, .slice ad at0.length cp, .bool sf] 56)
  obtain ⟨⟨g0, g1, g2, g3, g4⟩, g5⟩ := five_facts hnb
  go_enter Tryd.func47, Tryd.ntmps47
  go_wp2
  go_loopw [5, 6] (fun vs vi wr => ∃ (i : Nat), vi = .int .i64 i ∧ vs = .string ⟨(o ++ nm ++ attrsW (at0.take i)).toArray⟩ ∧ i ≤ at0.length ∧ Below w.heap.size w wr ∧ wr.heap[w.heap.size]? = some (.cells #[.int .i64 k, .string ⟨nm.toArray⟩, .string ⟨d.toArray⟩, .slice ad at0.length cp, .bool sf] 56 (0, 0))) (fun _ vi _ => at0.length - (intOf vi).toNat)
  case atStart => exact ⟨0, rfl, by rw [str_app]; simp [attrsW], by omega, hb0, hnb⟩
  case round =>
    obtain ⟨i, rfl, rfl, hi, hB, hh⟩ := hrel
    obtain ⟨⟨p0, p1, p2, p3, p4⟩, p5⟩ := five_facts hh
    by_cases hlt : i < at0.length
    · obtain ⟨g, o2, rfl, z0, z1⟩ := hA0 i hlt
      replace z0 := cell_keep z0 hB
      replace z1 := cell_keep z1 hB
      have hlI : (i : Int) < at0.length := by omega
      have hp := attrsW_part hlt
      have hs := Lib.hid (attrsW_take hlt)
      generalize at0[i] = av at *
      obtain ⟨an, av⟩ := av
      simp only at z0 z1 hp hs
      have hwl := wr_ge true av
      have cv := Lib.hid (fun W => rwrite_true av (by omega) W)
      generalize wrL true av = wv at *
      generalize hacc : o ++ nm ++ attrsW (at0.take i) = acc at *
      have hg := cell_lt z0
      have s1 : ¬ 9223372036854775807 < 1 + an.length := by omega
      have s2 : ¬ 9223372036854775807 < 1 + an.length + 2 := by omega
      have s3 : ¬ 9223372036854775807 < 1 + an.length + 2 + wv.length := by omega
      have s4 : ¬ 9223372036854775807 < 1 + an.length + 2 + wv.length + 1 := by omega
      have hal : acc.length ≤ 1000000000 := by rw [← hacc]; simp only [List.length_append]; omega
      have s5 : ¬ 9223372036854775807 < acc.length + (1 + an.length + 2 + wv.length + 1) := by omega
      go_wp2
      go_region_law (go_simp; go_at_call 28; ((with_reducible refine (cv.out _).mono ?_); rintro e w2 ⟨rfl, hb2⟩; have hb3 : Below wr.heap.size wr w2 := (by first | exact below_then (Below.refl _ wr).drew (Nat.le_refl _) hb2 | exact hb2); have hh4 := heap_below hh hb3; obtain ⟨⟨x0, x1, x2, x3, x4⟩, x5⟩ := five_facts hh4; have y0 := cell_keep z0 hb3; have y1 := cell_keep z1 hb3))
      all_goals
        have hb4 := below_seq hB hb3
        go_wp2
        refine ⟨⟨i + 1, rfl, ?_, by omega, by first | exact hb4 | exact hb4.drew, hh4⟩, by simp [intOf]; omega⟩
        rw [step_str, hs.out, ← hacc]
        simp only [List.append_assoc]
    · obtain rfl : i = at0.length := by omega
      rw [List.take_length] at *
      have hfin : ∀ x : Txt, (⟨(o ++ nm ++ attrsW at0).toArray⟩ : ByteArray) ++ ⟨x.toArray⟩ ++ ⟨#[62]⟩ = ⟨(o ++ nm ++ attrsW at0 ++ x ++ [62]).toArray⟩ := by
        intro x
        apply ByteArray.ext
        simp
      generalize hacc : o ++ nm ++ attrsW at0 = acc at *
      have hal : acc.length ≤ 1000000000 := by rw [← hacc]; simp only [List.length_append]; omega
      cases sf with
      | false =>
        go_wp2
        go_ret
        refine ⟨?_, hB⟩
        rw [show selfW false = [] from rfl, List.append_nil, hacc]
        exact congrArg (fun b => Ending.returned (Value.string b)) (str_app acc [62])
      | true =>
        go_wp2
        go_ret
        refine ⟨?_, hB⟩
        exact congrArg (fun x : Txt => Ending.returned (Value.string ⟨x.toArray⟩)) (show acc ++ [32, 47, 62] = o ++ nm ++ attrsW at0 ++ selfW true ++ [62] by rw [hacc]; simp [selfW])
end Go.Proofs.YtdnbaliibiginaaDoor

/- Contracts of the references' Has and of their list of elements with text as it stands. Nothing that lay in memory turns. -/
namespace Go.Proofs.YtdnbaliibiginaaDoor
open Go.RowKit Go.Proofs

set_option maxHeartbeats 1000000 in
set_option maxRecDepth 100000 in
theorem rhas_c (b n : Nat) (L : List Txt) (l : Txt) (hn : n = L.length) (hN : n ≤ 1000000) (w : World) (ht : TextsAt b n L w) :
    Calls Tryd.prog 26 #[.slice (some ⟨b, 0, none⟩) n n, .string ⟨l.toArray⟩] w fun e w' => e = .returned (.bool (inB L l)) ∧ w = w' := by
  go_enter Tryd.func26, Tryd.ntmps26
  go_wp2
  go_loop [5] (fun v => ∃ (k : Nat), v = .int .i64 k ∧ k ≤ n ∧ Hid (∀ j, j < k → L.getD j [] ≠ l)) (fun v => n - (intOf v).toNat)
  case atStart => exact ⟨0, rfl, by omega, fun j h => by omega⟩
  case round =>
    obtain ⟨k, rfl, hk, hno⟩ := hrel
    by_cases hlt : k < n
    · have c1 := ht k hlt
      by_cases he : L.getD k [] = l
      · have hy := Lib.hid (among_yes (by omega) he)
        rw [he] at c1
        have hbe : (l == l) = true := by simp
        clear he
        go_wp2
        go_ret
        rw [hy.out]
        exact ⟨rfl, rfl⟩
      · have hno2 := Lib.hid (show ∀ j, j < k + 1 → L.getD j [] ≠ l by
          intro j hj
          by_cases e : j = k
          · subst e; exact he
          · exact hno.out j (by omega))
        have hbe : (L.getD k [] == l) = false := by simpa using he
        clear he
        generalize L.getD k [] = nm at *
        go_wp2
        refine ⟨⟨k + 1, rfl, by omega, hno2⟩, by simp [intOf]; omega⟩
    · have hm := Lib.hid (among_no (L := L) (l := l) fun k hk => hno.out k (by omega))
      go_wp2
      go_ret
      rw [hm.out]
      exact ⟨rfl, rfl⟩

def rawCells : Array Value := #[.string ⟨#[105, 102, 114, 97, 109, 101]⟩, .string ⟨#[110, 111, 101, 109, 98, 101, 100]⟩, .string ⟨#[110, 111, 102, 114, 97, 109, 101, 115]⟩, .string ⟨#[115, 99, 114, 105, 112, 116]⟩, .string ⟨#[115, 116, 121, 108, 101]⟩, .string ⟨#[120, 109, 112]⟩]
set_option maxRecDepth 100000 in
theorem rraw_c (w : World) : Calls Tryd.prog 27 #[] w fun e w' => ∃ b, e = .returned (.slice (some ⟨b, 0, none⟩) 6 6) ∧ TextsAt b 6 rawsL w' ∧ Below w.heap.size w w' := by
  go_enter Tryd.func27, Tryd.ntmps27
  go_wp2
  go_ret
  exact ⟨_, rfl, TextsAt.of (new_cells _ _ _) (by rfl) (by decide), (Below.refl _ w).alloc (Nat.le_refl _) _⟩
end Go.Proofs.YtdnbaliibiginaaDoor
