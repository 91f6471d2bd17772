/- Rows of tokens that can be read; contract of the reference's Same: the same tokens are the same. Nothing that lay in memory turns. -/
import Derived.Test.YtcipgppjhhokbaaDoorScanI
set_option linter.unusedVariables false
set_option linter.unusedSimpArgs false
namespace Go.Proofs.YtcipgppjhhokbaaDoor
open Go.RowKit Go.Proofs

/-- A value is a row of attributes, or of tokens, that can be read. -/
def RdA (w : World) (va : Value) (l : List (Txt × Txt)) : Prop :=
  ∃ ad cp, va = .slice ad l.length cp ∧ ∀ i (hi : i < l.length), ∃ g o, ad = some ⟨g, o, none⟩ ∧ w.cell? ⟨g, o + i * 2, none⟩ = some (.string ⟨l[i].1.toArray⟩) ∧ w.cell? ⟨g, o + i * 2 + 1, none⟩ = some (.string ⟨l[i].2.toArray⟩)
def RdT (w : World) (v : Value) (l : List Tok) : Prop :=
  ∃ ad cp, v = .slice ad l.length cp ∧ ∀ i (hi : i < l.length), ∃ g o va, ad = some ⟨g, o, none⟩ ∧ w.cell? ⟨g, o + i * 5, none⟩ = some (.int .i64 l[i].kind) ∧ w.cell? ⟨g, o + i * 5 + 1, none⟩ = some (.string ⟨l[i].name.toArray⟩) ∧ w.cell? ⟨g, o + i * 5 + 2, none⟩ = some (.string ⟨l[i].data.toArray⟩) ∧ w.cell? ⟨g, o + i * 5 + 3, none⟩ = some va ∧ w.cell? ⟨g, o + i * 5 + 4, none⟩ = some (.bool l[i].self) ∧ RdA w va l[i].attrs
theorem RdA.below {w w' : World} {va : Value} {l : List (Txt × Txt)} (h : RdA w va l) (hb : Below w.heap.size w w') : RdA w' va l := by
  obtain ⟨ad, cp, h1, h2⟩ := h
  refine ⟨ad, cp, h1, fun i hi => ?_⟩
  obtain ⟨g, o, h3, h4, h5⟩ := h2 i hi
  exact ⟨g, o, h3, cell_keep h4 hb, cell_keep h5 hb⟩
theorem RdT.below {w w' : World} {v : Value} {l : List Tok} (h : RdT w v l) (hb : Below w.heap.size w w') : RdT w' v l := by
  obtain ⟨ad, cp, h1, h2⟩ := h
  refine ⟨ad, cp, h1, fun i hi => ?_⟩
  obtain ⟨g, o, va, h3, h4, h5, h6, h7, h8, h9⟩ := h2 i hi
  exact ⟨g, o, va, h3, cell_keep h4 hb, cell_keep h5 hb, cell_keep h6 hb, cell_keep h7 hb, cell_keep h8 hb, h9.below hb⟩
theorem Atts.rd {w : World} {base : Nat} {va : Value} {l : List (Txt × Txt)} (h : Atts w base va l) : RdA w va l := by
  obtain ⟨ad, cp, rfl⟩ := h.len
  refine ⟨ad, cp, rfl, fun i hi => ?_⟩
  obtain ⟨g, cap, e, h2, h3, h4, h5⟩ := h.at hi
  simp only [Value.slice.injEq] at e
  exact ⟨g, 0, e.1, by rw [Nat.zero_add]; exact h4, by rw [Nat.zero_add]; exact h5⟩
theorem Toks.rd {w : World} {base : Nat} {v : Value} {l : List Tok} (h : Toks w base v l) : RdT w v l := by
  obtain ⟨ad, cp, rfl⟩ := h.len
  refine ⟨ad, cp, rfl, fun i hi => ?_⟩
  obtain ⟨ps, k1, k2, k3⟩ := h
  subst k1
  rw [List.length_map] at hi k2
  rcases k2.2 with ⟨e, h0⟩ | ⟨g, cap, cur, e, hg, hh, hn, hc, hs, ht⟩
  · omega
  · simp only [Value.slice.injEq] at e
    have key : ∀ j, j < 5 → w.cell? ⟨g, i * 5 + j, none⟩ = (ps.flatMap fun p => tokV p.1 p.2)[i * 5 + j]? := by
      intro j hj
      rw [Lib.cell_of_heap hh, ← Array.getElem?_toList, ← ht, List.getElem?_take, if_pos (by omega)]
    have hv : ∀ (l : List (Tok × Value)) (i : Nat) (hi : i < l.length) (j : Nat), j < 5 → (l.flatMap fun p => tokV p.1 p.2)[i * 5 + j]? = (tokV l[i].1 l[i].2)[j]? := by
      intro l
      induction l with
      | nil => intro i hi; simp at hi
      | cons a l ih =>
        intro i hi j hj
        have hlen : (tokV a.1 a.2).length = 5 := rfl
        cases i with
        | zero =>
          rw [List.flatMap_cons, List.getElem?_append_left (by omega), Nat.zero_mul, Nat.zero_add]
          rfl
        | succ i =>
          have := ih i (by simpa using hi) j hj
          rw [show (i + 1) * 5 + j = 5 + (i * 5 + j) from by omega, List.flatMap_cons, List.getElem?_append_right (by omega), hlen, Nat.add_sub_cancel_left, this]
          rfl
    have hk := fun j hj => (key j hj).trans (hv ps i hi j hj)
    have h0 := hk 0 (by omega)
    have h1 := hk 1 (by omega)
    have h2 := hk 2 (by omega)
    have h3 := hk 3 (by omega)
    have h4 := hk 4 (by omega)
    rw [List.getElem_map]
    refine ⟨g, 0, ps[i].2, by rw [← e.1], ?_, ?_, ?_, ?_, ?_, (k3 _ (List.getElem_mem hi)).rd⟩ <;> rw [Nat.zero_add]
    · exact h0
    · exact h1
    · exact h2
    · exact h3
    · exact h4

theorem cell_al {w : World} {a : Addr} {v : Value} (h : w.cell? a = some v) : ∀ o, (w.alloc o).cell? a = some v := fun o => cell_keep h ((Below.refl _ w).alloc (Nat.le_refl _) o)
theorem cell_al2 {w : World} {a : Addr} {v : Value} (h : w.cell? a = some v) : ∀ o p, ((w.alloc o).alloc p).cell? a = some v := fun o p => cell_al (cell_al h o) p
theorem cell_lt {w : World} {g j : Nat} {v : Value} (h : w.cell? ⟨g, j, none⟩ = some v) : g < w.heap.size := by
  rcases Nat.lt_or_ge g w.heap.size with e | e
  · exact e
  · unfold World.cell? at h
    rw [Array.getElem?_eq_none e] at h
    cases h
theorem two_new {wr : World} {A B : Array Value} {t u : TypeId} : (((wr.alloc (.cells A t)).alloc (.cells B u)).drew).heap[wr.heap.size]? = some (.cells A t (0, 0)) ∧ (((wr.alloc (.cells A t)).alloc (.cells B u)).drew).heap[wr.heap.size + 1]? = some (.cells B u (0, 0)) ∧ Below wr.heap.size wr (((wr.alloc (.cells A t)).alloc (.cells B u)).drew) := by
  refine ⟨heap_old (new_cells wr A t) (.cells B u), ?_, (((Below.refl _ wr).alloc (Nat.le_refl _) _).alloc (by rw [World.size_alloc]; omega) _).drew⟩
  have := new_cells (wr.alloc (.cells A t)) B u
  rw [World.size_alloc] at this
  exact this
set_option maxHeartbeats 4000000 in
set_option maxRecDepth 100000 in
theorem same_c (v1 v2 : Value) (l : List Tok) (hl : l.length ≤ 9223372036854775807) (hla : ∀ t ∈ l, t.attrs.length ≤ 9223372036854775807) (w : World) (h1 : RdT w v1 l) (h2 : RdT w v2 l) :
    Calls Tryd.prog 16 #[v1, v2] w fun e w' => e = .returned (.bool true) ∧ Below w.heap.size w w' := by
  obtain ⟨ad1, cp1, rfl, h1⟩ := h1
  obtain ⟨ad2, cp2, rfl, h2⟩ := h2
  go_enter Tryd.func16, Tryd.ntmps16
  go_wp2
  go_loopw [5] (fun vi wr => ∃ (i : Nat), vi = .int .i64 i ∧ i ≤ l.length ∧ Below w.heap.size w wr) (fun vi _ => l.length - (intOf vi).toNat)
  case atStart => exact ⟨0, rfl, by omega, Below.refl _ _⟩
  case round =>
    obtain ⟨i, rfl, hi, hB⟩ := hrel
    by_cases hlt : i < l.length
    · obtain ⟨g1, o1, va1, rfl, a0, a1, a2, a3, a4, hA1⟩ := h1 i hlt
      obtain ⟨g2, o2, va2, rfl, b0, b1, b2, b3, b4, hA2⟩ := h2 i hlt
      replace a0 := cell_keep a0 hB
      replace a1 := cell_keep a1 hB
      replace a2 := cell_keep a2 hB
      replace a3 := cell_keep a3 hB
      replace a4 := cell_keep a4 hB
      replace b0 := cell_keep b0 hB
      replace b1 := cell_keep b1 hB
      replace b2 := cell_keep b2 hB
      replace b3 := cell_keep b3 hB
      replace b4 := cell_keep b4 hB
      replace hA1 := hA1.below hB
      replace hA2 := hA2.below hB
      have hlI : (i : Int) < l.length := by omega
      have hal := hla _ (List.getElem_mem hlt)
      generalize l[i] = tk at *
      obtain ⟨k, nm, at0, d, sf⟩ := tk
      simp only at a0 a1 a2 a3 a4 b0 b1 b2 b3 b4 hA1 hA2 hal
      obtain ⟨ae1, ce1, rfl, hA1⟩ := hA1
      obtain ⟨ae2, ce2, rfl, hA2⟩ := hA2
      have hg1 := cell_lt a0
      have hg2 := cell_lt b0
      have A0 := cell_al a0
      have A1 := cell_al a1
      have A2 := cell_al a2
      have A3 := cell_al a3
      have A4 := cell_al a4
      have B0 := cell_al b0
      have B1 := cell_al b1
      have B2 := cell_al b2
      have B3 := cell_al b3
      have B4 := cell_al b4
      have C0 := cell_al2 a0
      have C1 := cell_al2 a1
      have C2 := cell_al2 a2
      have C3 := cell_al2 a3
      have C4 := cell_al2 a4
      have D0 := cell_al2 b0
      have D1 := cell_al2 b1
      have D2 := cell_al2 b2
      have D3 := cell_al2 b3
      have D4 := cell_al2 b4
      have hn1 : g1 ≠ wr.heap.size := by omega
      have hn2 : g2 ≠ wr.heap.size := by omega
      have hn3 : g1 ≠ wr.heap.size + 1 := by omega
      have hn4 : g2 ≠ wr.heap.size + 1 := by omega
      go_wp2
      go_region
      · obtain ⟨r0, r1, hBw⟩ := two_new (wr := wr) (A := #[.int .i64 k, .string ⟨nm.toArray⟩, .string ⟨d.toArray⟩, .slice ae1 at0.length ce1, .bool sf]) (B := #[.int .i64 k, .string ⟨nm.toArray⟩, .string ⟨d.toArray⟩, .slice ae2 at0.length ce2, .bool sf]) (t := 30) (u := 30)
        have hB7 := below_seq hB hBw
        replace hA1 : RdA _ (.slice ae1 at0.length ce1) at0 := (show RdA wr (.slice ae1 at0.length ce1) at0 from ⟨_, _, rfl, hA1⟩).below hBw
        replace hA2 : RdA _ (.slice ae2 at0.length ce2) at0 := (show RdA wr (.slice ae2 at0.length ce2) at0 from ⟨_, _, rfl, hA2⟩).below hBw
        clear A0 A1 A2 A3 A4 B0 B1 B2 B3 B4 C0 C1 C2 C3 C4 D0 D1 D2 D3 D4 a0 a1 a2 a3 a4 b0 b1 b2 b3 b4
        generalize ((wr.alloc (.cells #[.int .i64 k, .string ⟨nm.toArray⟩, .string ⟨d.toArray⟩, .slice ae1 at0.length ce1, .bool sf] 30)).alloc (.cells #[.int .i64 k, .string ⟨nm.toArray⟩, .string ⟨d.toArray⟩, .slice ae2 at0.length ce2, .bool sf] 30)).drew = W7 at *
        obtain ⟨⟨p0, p1, p2, p3, p4⟩, p5⟩ := five_facts r0
        obtain ⟨⟨q0, q1, q2, q3, q4⟩, q5⟩ := five_facts r1
        go_wp2
        go_loopw [8] (fun vk wx => ∃ (j : Nat), vk = .int .i64 j ∧ j ≤ at0.length ∧ Below W7.heap.size W7 wx) (fun vk _ => at0.length - (intOf vk).toNat)
        case atStart => exact ⟨0, rfl, by omega, Below.refl _ _⟩
        case round =>
          obtain ⟨j, rfl, hj, hBx⟩ := hrel
          obtain ⟨⟨p0, p1, p2, p3, p4⟩, p5⟩ := five_facts (heap_below r0 hBx)
          obtain ⟨⟨q0, q1, q2, q3, q4⟩, q5⟩ := five_facts (heap_below r1 hBx)
          by_cases hjl : j < at0.length
          · obtain ⟨x1, y1, e1, t1⟩ := hA1.below hBx
            obtain ⟨x2, y2, e2, t2⟩ := hA2.below hBx
            simp only [Value.slice.injEq] at e1 e2
            obtain ⟨rfl, _, rfl⟩ := e1
            obtain ⟨rfl, _, rfl⟩ := e2
            obtain ⟨g3, o3, rfl, z0, z1⟩ := t1 j hjl
            obtain ⟨g4, o4, rfl, z2, z3⟩ := t2 j hjl
            have hjI : (j : Int) < at0.length := by omega
            generalize at0[j] = av at *
            obtain ⟨av1, av2⟩ := av
            simp only at z0 z1 z2 z3
            go_wp2
            go_region
            all_goals
              go_wp2
              exact ⟨⟨j + 1, rfl, by omega, (hBx.drew)⟩, by simp [intOf]; omega⟩
          · go_wp2
            exact ⟨⟨i + 1, rfl, by omega, below_seq hB7 hBx⟩, by simp [intOf]; omega⟩
      · obtain ⟨r0, r1, hBw⟩ := two_new (wr := wr) (A := #[.int .i64 k, .string ⟨nm.toArray⟩, .string ⟨d.toArray⟩, .slice ae2 at0.length ce2, .bool sf]) (B := #[.int .i64 k, .string ⟨nm.toArray⟩, .string ⟨d.toArray⟩, .slice ae1 at0.length ce1, .bool sf]) (t := 30) (u := 30)
        have hB7 := below_seq hB hBw
        replace hA1 : RdA _ (.slice ae1 at0.length ce1) at0 := (show RdA wr (.slice ae1 at0.length ce1) at0 from ⟨_, _, rfl, hA1⟩).below hBw
        replace hA2 : RdA _ (.slice ae2 at0.length ce2) at0 := (show RdA wr (.slice ae2 at0.length ce2) at0 from ⟨_, _, rfl, hA2⟩).below hBw
        clear A0 A1 A2 A3 A4 B0 B1 B2 B3 B4 C0 C1 C2 C3 C4 D0 D1 D2 D3 D4 a0 a1 a2 a3 a4 b0 b1 b2 b3 b4
        generalize ((wr.alloc (.cells #[.int .i64 k, .string ⟨nm.toArray⟩, .string ⟨d.toArray⟩, .slice ae2 at0.length ce2, .bool sf] 30)).alloc (.cells #[.int .i64 k, .string ⟨nm.toArray⟩, .string ⟨d.toArray⟩, .slice ae1 at0.length ce1, .bool sf] 30)).drew = W7 at *
        obtain ⟨⟨p0, p1, p2, p3, p4⟩, p5⟩ := five_facts r0
        obtain ⟨⟨q0, q1, q2, q3, q4⟩, q5⟩ := five_facts r1
        go_wp2
        go_loopw [8] (fun vk wx => ∃ (j : Nat), vk = .int .i64 j ∧ j ≤ at0.length ∧ Below W7.heap.size W7 wx) (fun vk _ => at0.length - (intOf vk).toNat)
        case atStart => exact ⟨0, rfl, by omega, Below.refl _ _⟩
        case round =>
          obtain ⟨j, rfl, hj, hBx⟩ := hrel
          obtain ⟨⟨p0, p1, p2, p3, p4⟩, p5⟩ := five_facts (heap_below r0 hBx)
          obtain ⟨⟨q0, q1, q2, q3, q4⟩, q5⟩ := five_facts (heap_below r1 hBx)
          by_cases hjl : j < at0.length
          · obtain ⟨x1, y1, e1, t1⟩ := hA1.below hBx
            obtain ⟨x2, y2, e2, t2⟩ := hA2.below hBx
            simp only [Value.slice.injEq] at e1 e2
            obtain ⟨rfl, _, rfl⟩ := e1
            obtain ⟨rfl, _, rfl⟩ := e2
            obtain ⟨g3, o3, rfl, z0, z1⟩ := t1 j hjl
            obtain ⟨g4, o4, rfl, z2, z3⟩ := t2 j hjl
            have hjI : (j : Int) < at0.length := by omega
            generalize at0[j] = av at *
            obtain ⟨av1, av2⟩ := av
            simp only at z0 z1 z2 z3
            go_wp2
            go_region
            all_goals
              go_wp2
              exact ⟨⟨j + 1, rfl, by omega, (hBx.drew)⟩, by simp [intOf]; omega⟩
          · go_wp2
            exact ⟨⟨i + 1, rfl, by omega, below_seq hB7 hBx⟩, by simp [intOf]; omega⟩
    · go_wp2
      go_ret
      exact ⟨rfl, hB⟩
end Go.Proofs.YtcipgppjhhokbaaDoor
