/- Lemmas and walks, part 13: Same, OpenT, KTok, KOwn, Tagged, TWrite, Fixed6, RLower, RDecA, Ref3A, Ref3B, RDecB, RDec, ETI, PTIx1, PTIx4. -/
import Derived.Test.YtdnbaliibiginaaGreatDoorTIM12
import Derived.Test.YtdnbaliibiginaaGreatDoorRows
import Derived.WalkKit
import Derived.ProofKit
import Derived.OpenShut
import Derived.Test.YtdnbaliibiginaaGreatDoorTIM1
import Derived.Test.YtdnbaliibiginaaGreatDoorTIM3
import Derived.Test.YtdnbaliibiginaaGreatDoorTIM7
import Derived.Deep.RegionWith
import Derived.Lib.ConvBytes
import Derived.Laws.BytesArg
import Derived.WalkSpells
set_option linter.unusedVariables false
set_option linter.unusedSimpArgs false

/- Rows of tokens that can be read; contract of the reference's Same: the same tokens are the same. Nothing that lay in memory turns. -/
namespace Go.Proofs.YtdnbaliibiginaaGreatDoor
open Go.RowKit Go.Proofs

/-- A value is a row of attributes, or of tokens, that can be read. -/
def RdA (w : World) (va : Value) (l : List (Txt × Txt)) : Prop :=
  ∃ ad cp, va = .slice ad l.length cp ∧ ∀ i (hi : i < l.length), ∃ g o, ad = some ⟨g, o, none⟩ ∧ w.cell? ⟨g, o + i * 2, none⟩ = some (.string ⟨l[i].1.toArray⟩) ∧ w.cell? ⟨g, o + i * 2 + 1, none⟩ = some (.string ⟨l[i].2.toArray⟩)
def RdT (w : World) (v : Value) (l : List Tok) : Prop :=
  ∃ ad cp, v = .slice ad l.length cp ∧ ∀ i (hi : i < l.length), ∃ g o va, ad = some ⟨g, o, none⟩ ∧ w.cell? ⟨g, o + i * 5, none⟩ = some (.int .i64 l[i].kind) ∧ w.cell? ⟨g, o + i * 5 + 1, none⟩ = some (.string ⟨l[i].name.toArray⟩) ∧ w.cell? ⟨g, o + i * 5 + 2, none⟩ = some (.string ⟨l[i].data.toArray⟩) ∧ w.cell? ⟨g, o + i * 5 + 3, none⟩ = some va ∧ w.cell? ⟨g, o + i * 5 + 4, none⟩ = some (.bool l[i].self) ∧ RdA w va l[i].attrs
theorem RdA.below {w w' : World} {va : Value} {l : List (Txt × Txt)} (h : RdA w va l) (hb : Below w.heap.size w w') : RdA w' va l := by
  obtain ⟨ad, cp, h1, h2⟩ := h
  refine ⟨ad, cp, h1, fun i hi => ?_⟩
  obtain ⟨g, o, h3, h4, h5⟩ := h2 i hi
  exact ⟨g, o, h3, cell_keep h4 hb, cell_keep h5 hb⟩
theorem RdT.below {w w' : World} {v : Value} {l : List Tok} (h : RdT w v l) (hb : Below w.heap.size w w') : RdT w' v l := by
  obtain ⟨ad, cp, h1, h2⟩ := h
  refine ⟨ad, cp, h1, fun i hi => ?_⟩
  obtain ⟨g, o, va, h3, h4, h5, h6, h7, h8, h9⟩ := h2 i hi
  exact ⟨g, o, va, h3, cell_keep h4 hb, cell_keep h5 hb, cell_keep h6 hb, cell_keep h7 hb, cell_keep h8 hb, h9.below hb⟩
theorem Atts.rd {w : World} {base : Nat} {va : Value} {l : List (Txt × Txt)} (h : Atts w base va l) : RdA w va l := by
  obtain ⟨ad, cp, rfl⟩ := h.len
  refine ⟨ad, cp, rfl, fun i hi => ?_⟩
  obtain ⟨g, cap, e, h2, h3, h4, h5⟩ := h.at hi
  simp only [Value.slice.injEq] at e
  exact ⟨g, 0, e.1, by rw [Nat.zero_add]; exact h4, by rw [Nat.zero_add]; exact h5⟩
theorem Toks.rd {w : World} {base : Nat} {v : Value} {l : List Tok} (h : Toks w base v l) : RdT w v l := by
  obtain ⟨ad, cp, rfl⟩ := h.len
  refine ⟨ad, cp, rfl, fun i hi => ?_⟩
  obtain ⟨ps, k1, k2, k3⟩ := h
  subst k1
  rw [List.length_map] at hi k2
  rcases k2.2 with ⟨e, h0⟩ | ⟨g, cap, cur, e, hg, hh, hn, hc, hs, ht⟩
  · omega
  · simp only [Value.slice.injEq] at e
    have key : ∀ j, j < 5 → w.cell? ⟨g, i * 5 + j, none⟩ = (ps.flatMap fun p => tokV p.1 p.2)[i * 5 + j]? := by
      intro j hj
      rw [Lib.cell_of_heap hh, ← Array.getElem?_toList, ← ht, List.getElem?_take, if_pos (by omega)]
    have hv : ∀ (l : List (Tok × Value)) (i : Nat) (hi : i < l.length) (j : Nat), j < 5 → (l.flatMap fun p => tokV p.1 p.2)[i * 5 + j]? = (tokV l[i].1 l[i].2)[j]? := by
      intro l
      induction l with
      | nil => intro i hi; simp at hi
      | cons a l ih =>
        intro i hi j hj
        have hlen : (tokV a.1 a.2).length = 5 := rfl
        cases i with
        | zero =>
          rw [List.flatMap_cons, List.getElem?_append_left (by omega), Nat.zero_mul, Nat.zero_add]
          rfl
        | succ i =>
          have := ih i (by simpa using hi) j hj
          rw [show (i + 1) * 5 + j = 5 + (i * 5 + j) from by omega, List.flatMap_cons, List.getElem?_append_right (by omega), hlen, Nat.add_sub_cancel_left, this]
          rfl
    have hk := fun j hj => (key j hj).trans (hv ps i hi j hj)
    have h0 := hk 0 (by omega)
    have h1 := hk 1 (by omega)
    have h2 := hk 2 (by omega)
    have h3 := hk 3 (by omega)
    have h4 := hk 4 (by omega)
    rw [List.getElem_map]
    refine ⟨g, 0, ps[i].2, by rw [← e.1], ?_, ?_, ?_, ?_, ?_, (k3 _ (List.getElem_mem hi)).rd⟩ <;> rw [Nat.zero_add]
    · exact h0
    · exact h1
    · exact h2
    · exact h3
    · exact h4

theorem cell_al {w : World} {a : Addr} {v : Value} (h : w.cell? a = some v) : ∀ o, (w.alloc o).cell? a = some v := fun o => cell_keep h ((Below.refl _ w).alloc (Nat.le_refl _) o)
theorem cell_al2 {w : World} {a : Addr} {v : Value} (h : w.cell? a = some v) : ∀ o p, ((w.alloc o).alloc p).cell? a = some v := fun o p => cell_al (cell_al h o) p
theorem cell_lt {w : World} {g j : Nat} {v : Value} (h : w.cell? ⟨g, j, none⟩ = some v) : g < w.heap.size := by
  rcases Nat.lt_or_ge g w.heap.size with e | e
  · exact e
  · unfold World.cell? at h
    rw [Array.getElem?_eq_none e] at h
    cases h
theorem two_new {wr : World} {A B : Array Value} {t u : TypeId} : (((wr.alloc (.cells A t)).alloc (.cells B u)).drew).heap[wr.heap.size]? = some (.cells A t (0, 0)) ∧ (((wr.alloc (.cells A t)).alloc (.cells B u)).drew).heap[wr.heap.size + 1]? = some (.cells B u (0, 0)) ∧ Below wr.heap.size wr (((wr.alloc (.cells A t)).alloc (.cells B u)).drew) := by
  refine ⟨heap_old (new_cells wr A t) (.cells B u), ?_, (((Below.refl _ wr).alloc (Nat.le_refl _) _).alloc (by rw [World.size_alloc]; omega) _).drew⟩
  have := new_cells (wr.alloc (.cells A t)) B u
  rw [World.size_alloc] at this
  exact this
set_option maxHeartbeats 4000000 in
set_option maxRecDepth 100000 in
theorem same_c (v1 v2 : Value) (l : List Tok) (hl : l.length ≤ 9223372036854775807) (hla : ∀ t ∈ l, t.attrs.length ≤ 9223372036854775807) (w : World) (h1 : RdT w v1 l) (h2 : RdT w v2 l) :
    Calls Tryz.prog 12 #[v1, v2] w fun e w' => e = .returned (.bool true) ∧ Below w.heap.size w w' := by
  obtain ⟨ad1, cp1, rfl, h1⟩ := h1
  obtain ⟨ad2, cp2, rfl, h2⟩ := h2
  go_enter Tryz.func12, Tryz.ntmps12
  go_wp2
  go_loopw [5] (fun vi wr => ∃ (i : Nat), vi = .int .i64 i ∧ i ≤ l.length ∧ Below w.heap.size w wr) (fun vi _ => l.length - (intOf vi).toNat)
  case atStart => exact ⟨0, rfl, by omega, Below.refl _ _⟩
  case round =>
    obtain ⟨i, rfl, hi, hB⟩ := hrel
    by_cases hlt : i < l.length
    · obtain ⟨g1, o1, va1, rfl, a0, a1, a2, a3, a4, hA1⟩ := h1 i hlt
      obtain ⟨g2, o2, va2, rfl, b0, b1, b2, b3, b4, hA2⟩ := h2 i hlt
      replace a0 := cell_keep a0 hB
      replace a1 := cell_keep a1 hB
      replace a2 := cell_keep a2 hB
      replace a3 := cell_keep a3 hB
      replace a4 := cell_keep a4 hB
      replace b0 := cell_keep b0 hB
      replace b1 := cell_keep b1 hB
      replace b2 := cell_keep b2 hB
      replace b3 := cell_keep b3 hB
      replace b4 := cell_keep b4 hB
      replace hA1 := hA1.below hB
      replace hA2 := hA2.below hB
      have hlI : (i : Int) < l.length := by omega
      have hal := hla _ (List.getElem_mem hlt)
      generalize l[i] = tk at *
      obtain ⟨k, nm, at0, d, sf⟩ := tk
      simp only at a0 a1 a2 a3 a4 b0 b1 b2 b3 b4 hA1 hA2 hal
      obtain ⟨ae1, ce1, rfl, hA1⟩ := hA1
      obtain ⟨ae2, ce2, rfl, hA2⟩ := hA2
      have hg1 := cell_lt a0
      have hg2 := cell_lt b0
      have A0 := cell_al a0
      have A1 := cell_al a1
      have A2 := cell_al a2
      have A3 := cell_al a3
      have A4 := cell_al a4
      have B0 := cell_al b0
      have B1 := cell_al b1
      have B2 := cell_al b2
      have B3 := cell_al b3
      have B4 := cell_al b4
      have C0 := cell_al2 a0
      have C1 := cell_al2 a1
      have C2 := cell_al2 a2
      have C3 := cell_al2 a3
      have C4 := cell_al2 a4
      have D0 := cell_al2 b0
      have D1 := cell_al2 b1
      have D2 := cell_al2 b2
      have D3 := cell_al2 b3
      have D4 := cell_al2 b4
      have hn1 : g1 ≠ wr.heap.size := by omega
      have hn2 : g2 ≠ wr.heap.size := by omega
      have hn3 : g1 ≠ wr.heap.size + 1 := by omega
      have hn4 : g2 ≠ wr.heap.size + 1 := by omega
      go_wp2
      go_region
      · obtain ⟨r0, r1, hBw⟩ := two_new (wr := wr) (A := #[.int .i64 k, .string ⟨nm.toArray⟩, .string ⟨d.toArray⟩, .slice ae1 at0.length ce1, .bool sf]) (B := #[.int .i64 k, .string ⟨nm.toArray⟩, .string ⟨d.toArray⟩, .slice ae2 at0.length ce2, .bool sf]) (t := 59) (u := 59)
        have hB7 := below_seq hB hBw
        replace hA1 : RdA _ (.slice ae1 at0.length ce1) at0 := (show RdA wr (.slice ae1 at0.length ce1) at0 from ⟨_, _, rfl, hA1⟩).below hBw
        replace hA2 : RdA _ (.slice ae2 at0.length ce2) at0 := (show RdA wr (.slice ae2 at0.length ce2) at0 from ⟨_, _, rfl, hA2⟩).below hBw
        clear A0 A1 A2 A3 A4 B0 B1 B2 B3 B4 C0 C1 C2 C3 C4 D0 D1 D2 D3 D4 a0 a1 a2 a3 a4 b0 b1 b2 b3 b4
        generalize ((wr.alloc (.cells #[.int .i64 k, .string ⟨nm.toArray⟩, .string ⟨d.toArray⟩, .slice ae1 at0.length ce1, .bool sf] 59)).alloc (.cells #[.int .i64 k, .string ⟨nm.toArray⟩, .string ⟨d.toArray⟩, .slice ae2 at0.length ce2, .bool sf] 59)).drew = W7 at *
        obtain ⟨⟨p0, p1, p2, p3, p4⟩, p5⟩ := five_facts r0
        obtain ⟨⟨q0, q1, q2, q3, q4⟩, q5⟩ := five_facts r1
        go_wp2
        go_loopw [8] (fun vk wx => ∃ (j : Nat), vk = .int .i64 j ∧ j ≤ at0.length ∧ Below W7.heap.size W7 wx) (fun vk _ => at0.length - (intOf vk).toNat)
        case atStart => exact ⟨0, rfl, by omega, Below.refl _ _⟩
        case round =>
          obtain ⟨j, rfl, hj, hBx⟩ := hrel
          obtain ⟨⟨p0, p1, p2, p3, p4⟩, p5⟩ := five_facts (heap_below r0 hBx)
          obtain ⟨⟨q0, q1, q2, q3, q4⟩, q5⟩ := five_facts (heap_below r1 hBx)
          by_cases hjl : j < at0.length
          · obtain ⟨x1, y1, e1, t1⟩ := hA1.below hBx
            obtain ⟨x2, y2, e2, t2⟩ := hA2.below hBx
            simp only [Value.slice.injEq] at e1 e2
            obtain ⟨rfl, _, rfl⟩ := e1
            obtain ⟨rfl, _, rfl⟩ := e2
            obtain ⟨g3, o3, rfl, z0, z1⟩ := t1 j hjl
            obtain ⟨g4, o4, rfl, z2, z3⟩ := t2 j hjl
            have hjI : (j : Int) < at0.length := by omega
            generalize at0[j] = av at *
            obtain ⟨av1, av2⟩ := av
            simp only at z0 z1 z2 z3
            go_wp2
            go_region
            all_goals
              go_wp2
              exact ⟨⟨j + 1, rfl, by omega, (hBx.drew)⟩, by simp [intOf]; omega⟩
          · go_wp2
            exact ⟨⟨i + 1, rfl, by omega, below_seq hB7 hBx⟩, by simp [intOf]; omega⟩
      · obtain ⟨r0, r1, hBw⟩ := two_new (wr := wr) (A := #[.int .i64 k, .string ⟨nm.toArray⟩, .string ⟨d.toArray⟩, .slice ae2 at0.length ce2, .bool sf]) (B := #[.int .i64 k, .string ⟨nm.toArray⟩, .string ⟨d.toArray⟩, .slice ae1 at0.length ce1, .bool sf]) (t := 59) (u := 59)
        have hB7 := below_seq hB hBw
        replace hA1 : RdA _ (.slice ae1 at0.length ce1) at0 := (show RdA wr (.slice ae1 at0.length ce1) at0 from ⟨_, _, rfl, hA1⟩).below hBw
        replace hA2 : RdA _ (.slice ae2 at0.length ce2) at0 := (show RdA wr (.slice ae2 at0.length ce2) at0 from ⟨_, _, rfl, hA2⟩).below hBw
        clear A0 A1 A2 A3 A4 B0 B1 B2 B3 B4 C0 C1 C2 C3 C4 D0 D1 D2 D3 D4 a0 a1 a2 a3 a4 b0 b1 b2 b3 b4
        generalize ((wr.alloc (.cells #[.int .i64 k, .string ⟨nm.toArray⟩, .string ⟨d.toArray⟩, .slice ae2 at0.length ce2, .bool sf] 59)).alloc (.cells #[.int .i64 k, .string ⟨nm.toArray⟩, .string ⟨d.toArray⟩, .slice ae1 at0.length ce1, .bool sf] 59)).drew = W7 at *
        obtain ⟨⟨p0, p1, p2, p3, p4⟩, p5⟩ := five_facts r0
        obtain ⟨⟨q0, q1, q2, q3, q4⟩, q5⟩ := five_facts r1
        go_wp2
        go_loopw [8] (fun vk wx => ∃ (j : Nat), vk = .int .i64 j ∧ j ≤ at0.length ∧ Below W7.heap.size W7 wx) (fun vk _ => at0.length - (intOf vk).toNat)
        case atStart => exact ⟨0, rfl, by omega, Below.refl _ _⟩
        case round =>
          obtain ⟨j, rfl, hj, hBx⟩ := hrel
          obtain ⟨⟨p0, p1, p2, p3, p4⟩, p5⟩ := five_facts (heap_below r0 hBx)
          obtain ⟨⟨q0, q1, q2, q3, q4⟩, q5⟩ := five_facts (heap_below r1 hBx)
          by_cases hjl : j < at0.length
          · obtain ⟨x1, y1, e1, t1⟩ := hA1.below hBx
            obtain ⟨x2, y2, e2, t2⟩ := hA2.below hBx
            simp only [Value.slice.injEq] at e1 e2
            obtain ⟨rfl, _, rfl⟩ := e1
            obtain ⟨rfl, _, rfl⟩ := e2
            obtain ⟨g3, o3, rfl, z0, z1⟩ := t1 j hjl
            obtain ⟨g4, o4, rfl, z2, z3⟩ := t2 j hjl
            have hjI : (j : Int) < at0.length := by omega
            generalize at0[j] = av at *
            obtain ⟨av1, av2⟩ := av
            simp only at z0 z1 z2 z3
            go_wp2
            go_region
            all_goals
              go_wp2
              exact ⟨⟨j + 1, rfl, by omega, (hBx.drew)⟩, by simp [intOf]; omega⟩
          · go_wp2
            exact ⟨⟨i + 1, rfl, by omega, below_seq hB7 hBx⟩, by simp [intOf]; omega⟩
    · go_wp2
      go_ret
      exact ⟨rfl, hB⟩
end Go.Proofs.YtdnbaliibiginaaGreatDoor

/- What a token, or a row of attributes or of tokens, that came in reads as: it can be read; how much it is. -/
namespace Go.Proofs.YtdnbaliibiginaaGreatDoor
open Go.ChangeShapes Go.WideShapes Go.ChangeAt Go.RowKit

theorem bulk_part {H : Type} {d : DataW H} {l : List (DataW H)} (h : d ∈ l) : Rows.uptoBulk d ≤ Rows.uptoBulkAll l := by
  induction l with
  | nil => cases h
  | cons x r ih =>
    simp only [Rows.uptoBulkAll]
    rcases List.mem_cons.1 h with e | e
    · subst e; omega
    · have := ih e; omega
theorem bulk_one {H : Type} (d : DataW H) : 1 ≤ Rows.uptoBulk d := by
  cases d with
  | lit l => cases l <;> simp [Rows.uptoBulk]
  | nil => simp [Rows.uptoBulk]
  | ptr d => simp [Rows.uptoBulk]
  | slice elems spare => simp [Rows.uptoBulk]
  | agg parts => simp [Rows.uptoBulk]
  | iface t d => simp [Rows.uptoBulk]
  | map entries => simp [Rows.uptoBulk]
  | held h => simp [Rows.uptoBulk]
theorem bulk_len {H : Type} (l : List (DataW H)) : l.length ≤ Rows.uptoBulkAll l := by
  induction l with
  | nil => simp [Rows.uptoBulkAll]
  | cons x r ih => have := bulk_one x; simp only [Rows.uptoBulkAll, List.length_cons]; omega

theorem cells_at {w : World} {base n : Nat} {a : Addr} {cs : List Value} (h : w.cells? base a n = some cs) : cs.length = n ∧ ∀ j, j < n → w.cell? (a.add j) = cs[j]? := by
  unfold World.cells? at h
  split at h
  · have hl := mapM_some_length h
    refine ⟨by simpa using hl, fun j hj => ?_⟩
    have := mapM_some_get h j j (by simp [hj])
    exact this
  · cases h
theorem spot_none {w : World} {a : Addr} {v : Value} (h : w.cell? a = some v) : a = ⟨a.block, a.off, none⟩ := by
  obtain ⟨b, o, s⟩ := a
  cases s with
  | none => rfl
  | some s =>
    unfold World.cell? at h
    split at h <;> simp at h
theorem add_at (b o n : Nat) : Addr.add ⟨b, o, none⟩ n = ⟨b, o + n, none⟩ := by
  unfold Addr.add
  split <;> simp_all

theorem two_of {α : Type} {cs : List α} (h : cs.length = 2) : ∃ a b, cs = [a, b] := by
  match cs, h with
  | [a, b], _ => exact ⟨a, b, rfl⟩
theorem five_of {α : Type} {cs : List α} (h : cs.length = 5) : ∃ a b c d e, cs = [a, b, c, d, e] := by
  match cs, h with
  | [a, b, c, d, e], _ => exact ⟨a, b, c, d, e, rfl⟩
def pairOf {H : Type} : DataW H → Txt × Txt
  | .agg [.lit (.string a), .lit (.string b)] => (a, b)
  | _ => ([], [])
theorem cells_attr : Tryz.prog.cellsOf 40 = 2 := by kernel_rfl
theorem cells_tok : Tryz.prog.cellsOf 59 = 5 := by kernel_rfl
theorem cells_str : Tryz.prog.cellsOf 9 = 1 := by kernel_rfl
theorem cells_int : Tryz.prog.cellsOf 3 = 1 := by kernel_rfl
theorem cells_bool : Tryz.prog.cellsOf 4 = 1 := by kernel_rfl
theorem cells_attrs : Tryz.prog.cellsOf 33 = 1 := by kernel_rfl

variable {H : Type} {enc : TypeId × Value → H} {w : World} {base : Nat} {spare : Nat → Bool} {held : Bool}

theorem attr_open {fuel : Nat} {cs : List Value} {x : DataW H × List MemPlace} (h : DataW.trod enc Tryz.prog w base spare held fuel 40 cs = some x) :
    ∃ a b : Txt, cs = [.string ⟨a.toArray⟩, .string ⟨b.toArray⟩] ∧ pairOf x.1 = (a, b) ∧ a.length + b.length ≤ Rows.uptoBulk x.1 := by
  obtain ⟨y0, y1, n, rfl, hl, h0, h1⟩ := trod_struct2 Tryz.underlying40 h
  rw [cells_attr] at hl
  obtain ⟨c0, c1, rfl⟩ := two_of hl
  simp only [cells_str, List.drop_zero, List.take_succ_cons, List.take_zero, List.drop_succ_cons] at h0 h1
  obtain ⟨s0, e0, rfl, _⟩ := DataW.trod_string Tryz.underlying9 h0
  obtain ⟨s1, e1, rfl, _⟩ := DataW.trod_string Tryz.underlying9 h1
  simp only [List.cons.injEq, and_true] at e0 e1
  subst e0 e1
  refine ⟨s0.data.toList, s1.data.toList, by simp, rfl, ?_⟩
  simp only [Rows.uptoBulk, Rows.uptoBulkAll]
  omega
theorem attrs_open {fuel : Nat} {cs : List Value} {x : DataW H × List MemPlace} (h : DataW.trod enc Tryz.prog w base spare held fuel 33 cs = some x) :
    ∃ va l, cs = [va] ∧ RdA w va l ∧ l.length ≤ Rows.uptoBulk x.1 ∧ ∀ i (hi : i < l.length), l[i].1.length + l[i].2.length ≤ Rows.uptoBulk x.1 := by
  rcases DataW.trod_slice Tryz.underlying33 h with ⟨rfl, rfl⟩ | ⟨a, len, cap, elems, rest, n, _, rfl, rfl, hb, hle, hc, hlen, hel, _, _⟩
  · exact ⟨_, [], rfl, ⟨none, 0, rfl, fun i hi => by simp at hi⟩, by simp, fun i hi => by simp at hi⟩
  · have each : ∀ i (hi : i < elems.length), ∃ p q : Txt, pairOf elems[i].1 = (p, q) ∧ w.cell? (a.add (i * 2)) = some (.string ⟨p.toArray⟩) ∧ w.cell? ((a.add (i * 2)).add 1) = some (.string ⟨q.toArray⟩) ∧ p.length + q.length ≤ Rows.uptoBulk elems[i].1 := by
      intro i hi
      have h1 := hel i (by omega)
      rw [List.getElem?_eq_getElem hi, Option.bind_eq_some_iff, cells_attr] at h1
      obtain ⟨cs', h2, h3⟩ := h1
      obtain ⟨p, q, e, h4, h5⟩ := attr_open h3
      obtain ⟨_, h6⟩ := cells_at h2
      subst e
      refine ⟨p, q, h4, ?_, h6 1 (by omega), h5⟩
      have := h6 0 (by omega)
      rw [show (a.add (i * 2)).add 0 = a.add (i * 2) from by simp [Addr.add]] at this
      exact this
    refine ⟨_, elems.map (fun y => pairOf y.1), rfl, ?_, ?_, ?_⟩
    · refine ⟨some a, cap, by rw [List.length_map, hlen], fun i hi => ?_⟩
      rw [List.length_map] at hi
      obtain ⟨p, q, e1, e2, e3, _⟩ := each i hi
      obtain ⟨p0, q0, _, e20, _, _⟩ := each 0 (by omega)
      rw [Nat.zero_mul, show a.add 0 = a from by simp [Addr.add]] at e20
      have ha := spot_none e20
      rw [ha, add_at] at e2 e3
      rw [add_at] at e3
      rw [List.getElem_map, e1]
      exact ⟨a.block, a.off, by rw [← ha], e2, e3⟩
    · have := bulk_len (elems.map (·.1))
      simp only [List.length_map, Rows.uptoBulk] at *
      omega
    · intro i hi
      rw [List.length_map] at hi
      obtain ⟨p, q, e1, _, _, e4⟩ := each i hi
      rw [List.getElem_map, e1]
      have h7 : elems[i].1 ∈ elems.map (·.1) := List.mem_map_of_mem (List.getElem_mem hi)
      have := bulk_part h7
      simp only [Rows.uptoBulk]
      omega
theorem tok_open {fuel : Nat} {cs : List Value} {x : DataW H × List MemPlace} (h : DataW.trod enc Tryz.prog w base spare held fuel 59 cs = some x) :
    ∃ (k : Int) (nm d : Txt) (va : Value) (sf : Bool) (l : List (Txt × Txt)), cs = [.int .i64 k, .string ⟨nm.toArray⟩, .string ⟨d.toArray⟩, va, .bool sf] ∧ RdA w va l ∧ nm.length ≤ Rows.uptoBulk x.1 ∧ d.length ≤ Rows.uptoBulk x.1 ∧ l.length ≤ Rows.uptoBulk x.1 ∧ ∀ i (hi : i < l.length), l[i].1.length + l[i].2.length ≤ Rows.uptoBulk x.1 := by
  obtain ⟨xs, n, _, rfl, hl, hlen, hf⟩ := DataW.trod_struct Tryz.underlying59 h
  rw [cells_tok] at hl
  obtain ⟨c0, c1, c2, c3, c4, rfl⟩ := five_of hl
  obtain ⟨x0, x1, x2, x3, x4, rfl⟩ := five_of (hlen.trans rfl)
  have f0 : DataW.trod enc Tryz.prog w base spare held n 3 (([c0, c1, c2, c3, c4].drop 0).take (Tryz.prog.cellsOf 3)) = some x0 := hf 0 _ rfl
  rw [cells_int] at f0
  have f1 : DataW.trod enc Tryz.prog w base spare held n 9 (([c0, c1, c2, c3, c4].drop 1).take (Tryz.prog.cellsOf 9)) = some x1 := hf 1 _ rfl
  rw [cells_str] at f1
  have f2 : DataW.trod enc Tryz.prog w base spare held n 9 (([c0, c1, c2, c3, c4].drop 2).take (Tryz.prog.cellsOf 9)) = some x2 := hf 2 _ rfl
  rw [cells_str] at f2
  have f3 : DataW.trod enc Tryz.prog w base spare held n 33 (([c0, c1, c2, c3, c4].drop 3).take (Tryz.prog.cellsOf 33)) = some x3 := hf 3 _ rfl
  rw [cells_attrs] at f3
  have f4 : DataW.trod enc Tryz.prog w base spare held n 4 (([c0, c1, c2, c3, c4].drop 4).take (Tryz.prog.cellsOf 4)) = some x4 := hf 4 _ rfl
  rw [cells_bool] at f4
  simp only [List.drop_zero, List.take_succ_cons, List.take_zero, List.drop_succ_cons] at f0 f1 f2 f3 f4
  obtain ⟨k, e0, rfl, _⟩ := DataW.trod_int Tryz.underlying3 f0
  obtain ⟨s1, e1, rfl, _⟩ := DataW.trod_string Tryz.underlying9 f1
  obtain ⟨s2, e2, rfl, _⟩ := DataW.trod_string Tryz.underlying9 f2
  obtain ⟨va, l, e3, hA, hb1, hb2⟩ := attrs_open f3
  obtain ⟨sf, e4, rfl⟩ := DataW.trod_bool Tryz.underlying4 f4
  simp only [List.cons.injEq, and_true] at e0 e1 e2 e3 e4
  subst e0 e1 e2 e3 e4
  refine ⟨k, s1.data.toList, s2.data.toList, c3, sf, l, by simp, hA, ?_, ?_, ?_, ?_⟩
  · simp only [List.map_cons, List.map_nil, Rows.uptoBulk, Rows.uptoBulkAll]; omega
  · simp only [List.map_cons, List.map_nil, Rows.uptoBulk, Rows.uptoBulkAll]; omega
  · simp only [List.map_cons, List.map_nil, Rows.uptoBulk, Rows.uptoBulkAll]; omega
  · intro i hi
    have := hb2 i hi
    simp only [List.map_cons, List.map_nil, Rows.uptoBulk, Rows.uptoBulkAll]; omega
end Go.Proofs.YtdnbaliibiginaaGreatDoor

/- Rows of tokens and of attributes in the words of the printed walks, and in our own. -/
namespace Go.Proofs.YtdnbaliibiginaaGreatDoorH.TI
open Go.RowKit Go.Proofs Go.Proofs.YtdnbaliibiginaaGreatDoor Go.Proofs.YtdnbaliibiginaaGreatDoorW.PrintWords

def pairS (a : S40) : Txt × Txt := (a.f0.data.toList, a.f1.data.toList)
def tokS (x : S59) : Tok := ⟨x.f0, x.f1.data.toList, x.f3.map pairS, x.f2.data.toList, x.f4⟩
def pairT (a : Txt × Txt) : S40 := ⟨⟨a.1.toArray⟩, ⟨a.2.toArray⟩⟩
def tokT (x : Tok) : S59 := ⟨x.kind, ⟨x.name.toArray⟩, ⟨x.data.toArray⟩, x.attrs.map pairT, x.self⟩
theorem pairS_T (a : Txt × Txt) : pairS (pairT a) = a := rfl
theorem pairsS_T (l : List (Txt × Txt)) : (l.map pairT).map pairS = l := by
  induction l with
  | nil => rfl
  | cons a l ih => simp only [List.map_cons, pairS_T, ih]
theorem tokS_T (x : Tok) : tokS (tokT x) = x := by simp only [tokS, tokT, pairsS_T]
theorem toksS_T (l : List Tok) : (l.map tokT).map tokS = l := by
  induction l with
  | nil => rfl
  | cons a l ih => simp only [List.map_cons, tokS_T, ih]
theorem pairT_S (a : S40) : pairT (pairS a) = a := by cases a; simp [pairS, pairT]
theorem pairsT_S (l : List S40) : (l.map pairS).map pairT = l := by
  induction l with
  | nil => rfl
  | cons a l ih => simp only [List.map_cons, pairT_S, ih]
theorem tokT_S (x : S59) : tokT (tokS x) = x := by simp only [tokS, tokT, pairsT_S]
theorem toksT_S (l : List S59) : (l.map tokS).map tokT = l := by
  induction l with
  | nil => rfl
  | cons a l ih => simp only [List.map_cons, tokT_S, ih]

theorem spot_at {w : World} {ad : Addr} {v : Value} (h : w.cell? ad = some v) : ad = ⟨ad.block, ad.off, none⟩ := by
  have := spot_none h
  exact this
theorem rdA_of {w : World} {A : Option Addr} {l : List S40} {c : Nat} (h : k40.C w A l.length l) : RdA w (.slice A l.length c) (l.map pairS) := by
  refine ⟨A, c, by rw [List.length_map], fun i hi => ?_⟩
  rw [List.length_map] at hi
  obtain ⟨ad, e, c0, c1⟩ := at_T40 h i (by omega) (by omega)
  obtain ⟨ad0, e0, z0, _⟩ := at_T40 h 0 (by omega) (by omega)
  obtain rfl : ad0 = ad := Option.some.inj (e0.symm.trans e)
  have hs := spot_at (ad := ad0) (by simpa [Addr.add] using z0)
  simp only [Int.toNat_natCast] at c0 c1
  rw [hs, Go.Proofs.YtdnbaliibiginaaGreatDoor.add_at] at c0 c1
  have er : rd_T40 l i = l[i] := by simp [rd_T40, hi]
  rw [er] at c0 c1
  refine ⟨ad0.block, ad0.off, by rw [e0, ← hs], ?_, ?_⟩
  · rw [List.getElem_map]; exact c0
  · rw [List.getElem_map]; exact c1
theorem rdT_of {w : World} {A : Option Addr} {l : List S59} {c : Nat} (h : k59.C w A l.length l) : RdT w (.slice A l.length c) (l.map tokS) := by
  refine ⟨A, c, by rw [List.length_map], fun i hi => ?_⟩
  rw [List.length_map] at hi
  obtain ⟨ad, A3, c3, e, c0, c1, c2, c3', c4, l3, g3⟩ := at_T59 h i (by omega) (by omega)
  obtain ⟨ad0, _, _, e0, z0, _⟩ := at_T59 h 0 (by omega) (by omega)
  obtain rfl : ad0 = ad := Option.some.inj (e0.symm.trans e)
  have hs := spot_at (ad := ad0) (by simpa [Addr.add] using z0)
  simp only [Int.toNat_natCast] at c0 c1 c2 c3' c4
  rw [hs, Go.Proofs.YtdnbaliibiginaaGreatDoor.add_at] at c0 c1 c2 c3' c4
  have er : rd_T59 l i = l[i] := by simp [rd_T59, hi]
  rw [er] at c0 c1 c2 c3' c4 g3
  have hA := rdA_of (c := c3) g3
  refine ⟨ad0.block, ad0.off, _, by rw [e, ← hs], ?_, ?_, ?_, c3', ?_, ?_⟩
  · rw [List.getElem_map]; exact c0
  · rw [List.getElem_map]; exact c1
  · rw [List.getElem_map]; exact c2
  · rw [List.getElem_map]; exact c4
  · rw [List.getElem_map]; exact hA
end Go.Proofs.YtdnbaliibiginaaGreatDoorH.TI

/- Rows of tokens and of attributes of the call's own, in the words of the printed walks, and in our own. -/
namespace Go.Proofs.YtdnbaliibiginaaGreatDoorH.TI
open Go.RowKit Go.Proofs Go.Proofs.YtdnbaliibiginaaGreatDoor Go.Proofs.YtdnbaliibiginaaGreatDoorW.PrintWords

theorem reps_flat {α : Type} {R : α → List Value → Prop} {size : Nat} (g : α → List Value) (hg : ∀ p c, R p c → c = g p) : ∀ (ps : List α) (cs : List Value), Reps R size ps cs → cs = ps.flatMap g
  | [], cs, h => by
    have := h.1
    simp at this
    simp [this]
  | p :: ps, cs, h => by
    have h0 := hg _ _ (h.2 0 p rfl)
    simp only [Nat.zero_mul, List.drop_zero] at h0
    have ht : Reps R size ps (cs.drop size) := by
      refine ⟨by rw [List.length_drop, h.1, List.length_cons, Nat.succ_mul, Nat.add_sub_cancel], fun j q hq => ?_⟩
      have := h.2 (j + 1) q (by simpa using hq)
      rwa [Nat.succ_mul, Nat.add_comm, ← List.drop_drop] at this
    have ih := reps_flat g hg ps _ ht
    rw [List.flatMap_cons, ← h0, ← ih, List.take_append_drop]
theorem flat_reps {α : Type} {R : α → List Value → Prop} {size : Nat} (g : α → List Value) : ∀ (ps : List α), (∀ p ∈ ps, R p (g p) ∧ (g p).length = size) → Reps R size ps (ps.flatMap g)
  | [], _ => by simpa using Reps.none R size
  | p :: ps, h => by
    have ih := flat_reps g ps (fun q hq => h q (by simp [hq]))
    obtain ⟨h1, h2⟩ := h p (by simp)
    refine ⟨by rw [List.flatMap_cons, List.length_append, ih.1, h2, List.length_cons, Nat.succ_mul, Nat.add_comm], fun j q hq => ?_⟩
    cases j with
    | zero =>
      simp at hq
      subst hq
      rw [Nat.zero_mul, List.drop_zero, List.flatMap_cons, List.take_append_of_le_length (by omega), List.take_of_length_le (by omega)]
      exact h1
    | succ j =>
      have := ih.2 j q (by simpa using hq)
      rw [List.flatMap_cons, Nat.succ_mul, Nat.add_comm, ← List.drop_drop, List.drop_left' h2]
      exact this
theorem flat_pair (l : List S40) : (l.flatMap fun a => [Value.string a.f0, .string a.f1]) = attrV (l.map pairS) := by
  induction l with
  | nil => rfl
  | cons a l ih => rw [List.flatMap_cons, ih]; rfl
theorem atts_of_R {w : World} {base : Nat} {ok : Nat → Prop} {v : Value} {r : List S40} (h : k40.R 40 w base ok v r) : Atts w base v (r.map pairS) := by
  obtain ⟨_, inner, ho, hr⟩ := h
  have := reps_flat (fun a : S40 => [Value.string a.f0, .string a.f1]) (fun p c hp => k40_openM hp) _ _ hr
  rw [flat_pair] at this
  subst this
  unfold Atts
  rw [List.length_map]
  exact ho
theorem R_of_atts {w : World} {base : Nat} {ok : Nat → Prop} {v : Value} {l : List (Txt × Txt)} (h : Atts w base v l) (hok : ∀ k, v.ownBlock = some k → ok k) : k40.R 40 w base ok v (l.map pairT) := by
  refine ⟨hok, attrV l, ?_, ?_⟩
  · rw [List.length_map]; exact h
  · have := flat_pair (l.map pairT)
    rw [pairsS_T] at this
    rw [← this]
    exact flat_reps _ _ (fun p _ => ⟨k40_mkM _ _ _ _, rfl⟩)
theorem R_of_toks {w : World} {base : Nat} {v : Value} {l : List Tok} (h : Toks w base v l) : k59.R 59 w base (fun _ => True) v (l.map tokT) := by
  obtain ⟨ps, h1, h2, h3⟩ := h
  refine ⟨fun _ _ => trivial, ps.flatMap (fun p => tokV p.1 p.2), by rw [List.length_map]; exact h2, ?_⟩
  have hl : l.map tokT = ps.map (fun p => tokT p.1) := by rw [← h1, List.map_map]; rfl
  rw [hl]
  have key : ∀ (ps : List (Tok × Value)), (∀ p ∈ ps, Atts w base p.2 p.1.attrs) → Reps (k59.M w base (fun k => True ∧ some k ≠ v.ownBlock)) 5 (ps.map fun p => tokT p.1) (ps.flatMap fun p => tokV p.1 p.2) := by
    intro ps
    induction ps with
    | nil => intro _; exact Reps.none _ _
    | cons p ps ih =>
      intro hp
      have ih := ih (fun q hq => hp q (by simp [hq]))
      have hA := hp p (by simp)
      have hR := R_of_atts (ok := fun k => True ∧ some k ≠ v.ownBlock) hA (fun k hk => ⟨trivial, fun e => by
        obtain ⟨c1, e1⟩ := own_cells hA hk
        obtain ⟨c2, e2⟩ := own_cells h2 e.symm
        rw [e1] at e2
        injection e2 with e2
        injection e2 with _ e2
        exact absurd e2 (by decide)⟩)
      have hM := k59_mkM w base (fun k => True ∧ some k ≠ v.ownBlock) (tokT p.1) hR
      refine ⟨by rw [List.map_cons, List.flatMap_cons, List.length_append, ih.1, List.length_cons, Nat.succ_mul, Nat.add_comm]; rfl, fun j q hq => ?_⟩
      cases j with
      | zero =>
        simp at hq
        subst hq
        exact hM
      | succ j =>
        have := ih.2 j q (by simpa using hq)
        rw [List.flatMap_cons, Nat.succ_mul, Nat.add_comm, ← List.drop_drop]
        exact this
  exact key ps h3
end Go.Proofs.YtdnbaliibiginaaGreatDoorH.TI

/- Contract of token.tagged: a tag, written. Nothing that lay in memory turns. -/
namespace Go.Proofs.YtdnbaliibiginaaGreatDoor
open Go.RowKit Go.Proofs

theorem attrsW_app (a b : List (Txt × Txt)) : attrsW (a ++ b) = attrsW a ++ attrsW b := by simp only [attrsW, List.flatMap_append]
theorem attrsW_take {l : List (Txt × Txt)} {i : Nat} (h : i < l.length) : attrsW (l.take (i + 1)) = attrsW (l.take i) ++ 32 :: (l[i].1 ++ 61 :: 34 :: (wrL true l[i].2 ++ [34])) := by
  rw [List.take_add_one, List.getElem?_eq_getElem h, attrsW_app]
  simp [attrsW]
theorem attrsW_part0 {a b c d : Txt} (x y : Txt) (e : a = (b ++ 32 :: (x ++ 61 :: 34 :: (y ++ [34]))) ++ d) : b.length + (x.length + y.length + 4) ≤ a.length := by
  rw [e]
  simp only [List.length_append, List.length_cons, List.length_nil]
  omega
theorem step_str (acc an wv : Txt) : (⟨acc.toArray⟩ : ByteArray) ++ (⟨#[32]⟩ ++ ⟨an.toArray⟩ ++ ⟨#[61, 34]⟩ ++ ⟨wv.toArray⟩ ++ ⟨#[34]⟩) = ⟨(acc ++ 32 :: (an ++ 61 :: 34 :: (wv ++ [34]))).toArray⟩ := by
  apply ByteArray.ext
  simp
theorem attrsW_part {l : List (Txt × Txt)} {i : Nat} (h : i < l.length) : (attrsW (l.take i)).length + (l[i].1.length + (wrL true l[i].2).length + 4) ≤ (attrsW l).length := by
  have e : attrsW l = attrsW (l.take (i + 1)) ++ attrsW (l.drop (i + 1)) := by
    conv => lhs; rw [← List.take_append_drop (i + 1) l]
    exact attrsW_app _ _
  rw [attrsW_take h] at e
  exact attrsW_part0 (c := []) _ _ e

set_option maxHeartbeats 4000000 in
set_option maxRecDepth 100000 in
theorem tagged_c (o nm d : Txt) (k : Int) (at0 : List (Txt × Txt)) (sf : Bool) (va : Value) (hz : (taggedW o ⟨k, nm, at0, d, sf⟩).length ≤ 1000000000) (hat : at0.length ≤ 1000000000000) (w : World) (hA : RdA w va at0) :
    Calls Tryz.prog 97 #[.string ⟨o.toArray⟩, .agg #[.int .i64 k, .string ⟨nm.toArray⟩, .string ⟨d.toArray⟩, va, .bool sf]] w fun e w' => e = .returned (.string ⟨(taggedW o ⟨k, nm, at0, d, sf⟩).toArray⟩) ∧ Below w.heap.size w w' := by
  have hW : taggedW o ⟨k, nm, at0, d, sf⟩ = o ++ nm ++ attrsW at0 ++ selfW sf ++ [62] := rfl
  rw [hW] at hz ⊢
  simp only [List.length_append] at hz
  obtain ⟨ad, cp, rfl, hA0⟩ := id hA
  have hnb := new_cells w #[.int .i64 k, .string ⟨nm.toArray⟩, .string ⟨d.toArray⟩, .slice ad at0.length cp, .bool sf] 59
  have hb0 := (Below.refl w.heap.size w).alloc (Nat.le_refl _) (.cells #[.int .i64 k, .string ⟨nm.toArray⟩, .string ⟨d.toArray⟩, .slice ad at0.length cp, .bool sf] 59)
  obtain ⟨⟨g0, g1, g2, g3, g4⟩, g5⟩ := five_facts hnb
  go_enter Tryz.func97, Tryz.ntmps97
  go_wp2
  go_loopw [5, 7, 15] (fun vs _ vi wr => ∃ (i : Nat), vi = .int .i64 i ∧ vs = .string ⟨(o ++ nm ++ attrsW (at0.take i)).toArray⟩ ∧ i ≤ at0.length ∧ Below w.heap.size w wr ∧ wr.heap[w.heap.size]? = some (.cells #[.int .i64 k, .string ⟨nm.toArray⟩, .string ⟨d.toArray⟩, .slice ad at0.length cp, .bool sf] 59 (0, 0))) (fun _ _ vi _ => at0.length - (intOf vi).toNat)
  case atStart => exact ⟨0, rfl, by rw [str_app]; simp [attrsW], by omega, hb0, hnb⟩
  case round =>
    obtain ⟨i, rfl, rfl, hi, hB, hh⟩ := hrel
    obtain ⟨⟨p0, p1, p2, p3, p4⟩, p5⟩ := five_facts hh
    by_cases hlt : i < at0.length
    · obtain ⟨g, o2, rfl, z0, z1⟩ := hA0 i hlt
      replace z0 := cell_keep z0 hB
      replace z1 := cell_keep z1 hB
      have hlI : (i : Int) < at0.length := by omega
      have hp := attrsW_part hlt
      have hs := Lib.hid (attrsW_take hlt)
      generalize at0[i] = av at *
      obtain ⟨an, av⟩ := av
      simp only at z0 z1 hp hs
      have hwl := wr_ge true av
      have cv := Lib.hid (fun W => value_c av (by omega) W)
      generalize wrL true av = wv at *
      generalize hacc : o ++ nm ++ attrsW (at0.take i) = acc at *
      have Z0 := cell_al z0
      have Z1 := cell_al z1
      have hg := cell_lt z0
      have hn1 : g ≠ wr.heap.size := by omega
      obtain ⟨m0, m1, m2, m3⟩ := two_facts (new_cells wr #[.string ⟨an.toArray⟩, .string ⟨av.toArray⟩] 40)
      have s1 : ¬ 9223372036854775807 < 1 + an.length := by omega
      have s2 : ¬ 9223372036854775807 < 1 + an.length + 2 := by omega
      have s3 : ¬ 9223372036854775807 < 1 + an.length + 2 + wv.length := by omega
      have s4 : ¬ 9223372036854775807 < 1 + an.length + 2 + wv.length + 1 := by omega
      have hal : acc.length ≤ 1000000000 := by rw [← hacc]; simp only [List.length_append]; omega
      have s5 : ¬ 9223372036854775807 < acc.length + (1 + an.length + 2 + wv.length + 1) := by omega
      go_wp2
      go_region_law (go_simp; go_at_call 141; ((with_reducible refine (cv.out _).mono ?_); rintro e w2 ⟨rfl, hb2⟩; have hq := (hb2.block wr.heap.size (by show wr.heap.size < (wr.alloc _).heap.size; rw [World.size_alloc]; omega)).trans (new_cells wr #[.string ⟨an.toArray⟩, .string ⟨av.toArray⟩] 40); obtain ⟨y0, y1, y2, y3⟩ := two_facts hq))
      all_goals
        have hb3 : Below wr.heap.size wr w2 := below_then ((Below.refl _ wr).alloc (Nat.le_refl _) (.cells #[.string ⟨an.toArray⟩, .string ⟨av.toArray⟩] 40)).drew (by show wr.heap.size ≤ (wr.alloc _).heap.size; rw [World.size_alloc]; omega) hb2
        have hb4 := below_seq hB hb3
        have hh4 := heap_below hh hb3
        go_wp2
        refine ⟨⟨i + 1, rfl, ?_, by omega, by first | exact hb4 | exact hb4.drew, hh4⟩, by simp [intOf]; omega⟩
        rw [step_str, hs.out, ← hacc]
        simp only [List.append_assoc]
    · obtain rfl : i = at0.length := by omega
      rw [List.take_length] at *
      have hfin : ∀ x : Txt, (⟨(o ++ nm ++ attrsW at0).toArray⟩ : ByteArray) ++ ⟨x.toArray⟩ ++ ⟨#[62]⟩ = ⟨(o ++ nm ++ attrsW at0 ++ x ++ [62]).toArray⟩ := by
        intro x
        apply ByteArray.ext
        simp
      generalize hacc : o ++ nm ++ attrsW at0 = acc at *
      have hal : acc.length ≤ 1000000000 := by rw [← hacc]; simp only [List.length_append]; omega
      cases sf with
      | false =>
        go_wp2
        go_ret
        refine ⟨?_, hB⟩
        rw [show selfW false = [] from rfl, List.append_nil, hacc]
        exact congrArg (fun b => Ending.returned (Value.string b)) (str_app acc [62])
      | true =>
        go_wp2
        go_ret
        refine ⟨?_, hB⟩
        exact congrArg (fun x : Txt => Ending.returned (Value.string ⟨x.toArray⟩)) (show acc ++ [32, 47, 62] = o ++ nm ++ attrsW at0 ++ selfW true ++ [62] by rw [hacc]; simp [selfW])
end Go.Proofs.YtdnbaliibiginaaGreatDoor

/- Contract of token.Write: tokens, written. Nothing that lay in memory turns. Condition: at most 10^9 bytes come of it. -/
namespace Go.Proofs.YtdnbaliibiginaaGreatDoor
open Go.RowKit Go.Proofs

theorem RdA.nil (w : World) : RdA w (.slice none 0 0) [] := ⟨none, 0, rfl, fun i hi => by simp at hi⟩
def rawAt (l : List Tok) : Nat → Bool
  | 0 => false
  | j + 1 => match l[j]? with | some t => rawT t | none => false
theorem rawAt_succ {l : List Tok} {j : Nat} (h : j < l.length) : rawAt l (j + 1) = rawT l[j] := by simp [rawAt, List.getElem?_eq_getElem h]
theorem attrsW_len (l : List (Txt × Txt)) : l.length ≤ (attrsW l).length := by
  induction l with
  | nil => simp
  | cons a l ih =>
    rw [show attrsW (a :: l) = attrsW [a] ++ attrsW l from attrsW_app [a] l]
    simp only [List.length_append, List.length_cons]
    have : 1 ≤ (attrsW [a]).length := by simp [attrsW]
    omega
theorem write_step {l : List Tok} {acc : Txt} {i : Nat} (h : i < l.length) (he : writeN false l = acc ++ writeN (rawAt l i) (l.drop i)) : writeN false l = (acc ++ tokW (rawAt l i) l[i]) ++ writeN (rawAt l (i + 1)) (l.drop (i + 1)) := by
  rw [he, List.drop_eq_getElem_cons h, writeN, rawAt_succ h, List.append_assoc]
theorem write_len {a b c : Txt} (h : a = b ++ c) (n : Nat) (hn : a.length ≤ n) : b.length ≤ n := by
  have := congrArg List.length h
  simp only [List.length_append] at this
  omega


set_option maxHeartbeats 8000000 in
set_option maxRecDepth 100000 in
theorem write_g (v : Value) (l : List Tok) (hl : l.length ≤ 9223372036854775807) (hz : (writeL l).length ≤ 1000000000) (w : World) (hT : RdT w v l) :
    Calls Tryz.prog 46 #[v] w fun e w' => e = .returned (.string ⟨(writeL l).toArray⟩) ∧ Below w.heap.size w w' := by
  unfold writeL at *
  obtain ⟨ad, cp, rfl, hT0⟩ := id hT
  have hbn := bld_new _ w (Nat.le_refl _)
  have hb0 := (Below.refl w.heap.size w).alloc (Nat.le_refl _) (.cells #[.pointer none, .slice none 0 0] 89)
  have hs0 : w.heap.size < (w.alloc (.cells #[.pointer none, .slice none 0 0] 89)).heap.size := by rw [World.size_alloc]; omega
  go_enter Tryz.func46, Tryz.ntmps46
  go_wp2
  go_loopw [8] (fun vi wr => ∃ (i : Nat) (acc : Txt), vi = .int .i64 i ∧ i ≤ l.length ∧ Lib.IsBuilderF 89 5 w.heap.size w.heap.size (Lib.byteCells acc) wr ∧ Below w.heap.size w wr ∧ Hid (writeN false l = acc ++ writeN (rawAt l i) (l.drop i))) (fun vi _ => l.length - (intOf vi).toNat)
  case atStart => exact ⟨0, [], rfl, by omega, hbn, hb0, rfl⟩
  case round =>
    obtain ⟨i, acc, rfl, hi, hI, hB, hinv⟩ := hrel
    have hsz0 := hB.size
    by_cases hlt : i < l.length
    · obtain ⟨g, o, va, rfl, z0, z1, z2, z3, z4, hA⟩ := hT0 i hlt
      have hst := Lib.hid (write_step hlt hinv.out)
      have hbl := write_len hst.out _ hz
      rw [List.length_append] at hbl
      have hacc : acc.length ≤ 1000000000 := by omega
      have hr0 := rawAt_succ hlt
      replace z0 := cell_keep z0 hB
      replace z1 := cell_keep z1 hB
      replace z2 := cell_keep z2 hB
      replace z3 := cell_keep z3 hB
      replace z4 := cell_keep z4 hB
      replace hA := hA.below hB
      have hlI : (i : Int) < l.length := by omega
      clear hinv hr0
      generalize hrw : rawAt l i = rw0 at *
      generalize htk : l[i] = tk at *
      obtain ⟨kk, nm, at0, d, sf⟩ := tk
      simp only at z0 z1 z2 z3 z4 hA
      obtain ⟨ad3, cp3, rfl, hA0⟩ := id hA
      have hg := cell_lt z0
      have hn1 : g ≠ wr.heap.size := by omega
      have Z0 := cell_al z0
      have Z1 := cell_al z1
      have Z2 := cell_al z2
      have Z3 := cell_al z3
      have Z4 := cell_al z4
      have hnt := new_cells wr #[.int .i64 kk, .string ⟨nm.toArray⟩, .string ⟨d.toArray⟩, .slice ad3 at0.length cp3, .bool sf] 59
      have hIt := hI.alloc (.cells #[.int .i64 kk, .string ⟨nm.toArray⟩, .string ⟨d.toArray⟩, .slice ad3 at0.length cp3, .bool sf] 59)
      have hBt := hB.alloc (by omega) (.cells #[.int .i64 kk, .string ⟨nm.toArray⟩, .string ⟨d.toArray⟩, .slice ad3 at0.length cp3, .bool sf] 59)
      have hAt := hA.below ((Below.refl _ wr).alloc (Nat.le_refl _) (.cells #[.int .i64 kk, .string ⟨nm.toArray⟩, .string ⟨d.toArray⟩, .slice ad3 at0.length cp3, .bool sf] 59))
      have hszt : wr.heap.size < (wr.alloc (.cells #[.int .i64 kk, .string ⟨nm.toArray⟩, .string ⟨d.toArray⟩, .slice ad3 at0.length cp3, .bool sf] 59)).heap.size := by rw [World.size_alloc]; omega
      obtain ⟨⟨p0, p1, p2, p3, p4⟩, p5⟩ := five_facts hnt
      by_cases k0 : kk = 0
      · subst k0
        have hwl := wr_ge false d
        cases rw0 with
        | false =>
          have htw : tokW false ⟨0, nm, at0, d, sf⟩ = wrL false d := rfl
          rw [htw] at hst hbl
          have ctx := Lib.hid (fun W => text_c d (by omega) W)
          generalize wrL false d = wd at *
          cases i with
          | zero =>
            simp only [Nat.zero_mul, Nat.add_zero] at z0 z1 z2 z3 z4 Z0 Z1 Z2 Z3 Z4
            go_wp2_with (first
              | (go_at_call 96; ((with_reducible refine (ctx.out _).mono ?_); rintro e w3 ⟨rfl, hb3⟩; have hI3 := bld_below hIt hb3; have hB3 := below_then hBt (by have := hBt.size; omega) hb3))
              | (go_at_call 95; ((with_reducible refine (write_l _ _ acc wd _ hI3 (by omega) (by have := hB3.size; omega)).mono ?_); rintro e w5 ⟨rfl, hI5, hb5, _⟩; have hB5 := hB3.trans hb5)))
            exact ⟨⟨0 + 1, _, rfl, by omega, hI5, hB5, hst.out⟩, by simp [intOf]; omega⟩
          | succ j =>
            obtain ⟨g', o', va', e', x0, x1, x2, x3, x4, hA'⟩ := hT0 j (by omega)
            simp only [Option.some.injEq, Addr.mk.injEq, and_true] at e'
            obtain ⟨rfl, rfl⟩ := e'
            rw [rawAt_succ (by omega)] at hrw
            replace x0 := cell_keep x0 hB
            replace x1 := cell_keep x1 hB
            have X0 := cell_al x0
            have X1 := cell_al x1
            have hjI : (j : Int) < l.length := by omega
            generalize l[j] = tj at *
            obtain ⟨kj, nj, aj, dj, sj⟩ := tj
            simp only at X0 X1
            by_cases h1 : kj = 1
            · subst h1
              have hrj : rawB nj = false := by simpa [rawT] using hrw
              have craw := Lib.hid (fun W => raw_c nj W)
              rw [hrj] at craw
              go_wp2_with (first
                | (go_at_call 47; ((with_reducible refine (craw.out _).mono ?_); rintro e w2 ⟨rfl, hb2⟩; have hI2 := bld_below hIt hb2; have hB2 := below_then hBt (by have := hBt.size; omega) hb2; obtain ⟨⟨y0, y1, y2, y3, y4⟩, y5⟩ := five_facts (heap_below hnt hb2)))
                | (go_at_call 96; ((with_reducible refine (ctx.out _).mono ?_); rintro e w3 ⟨rfl, hb3⟩; have hI3 := bld_below hI2 hb3; have hB3 := below_then hB2 (by have := hB2.size; omega) hb3))
                | (go_at_call 95; ((with_reducible refine (write_l _ _ acc wd _ hI3 (by omega) (by have := hB3.size; omega)).mono ?_); rintro e w5 ⟨rfl, hI5, hb5, _⟩; have hB5 := hB3.trans hb5)))
              exact ⟨⟨j + 1 + 1, _, rfl, by omega, hI5, hB5, hst.out⟩, by simp [intOf]; omega⟩
            · have hk1 : ¬ (kj : Int) = 1 := h1
              go_wp2_with (first
                | (go_at_call 96; ((with_reducible refine (ctx.out _).mono ?_); rintro e w3 ⟨rfl, hb3⟩; have hI3 := bld_below hIt hb3; have hB3 := below_then hBt (by have := hBt.size; omega) hb3))
                | (go_at_call 95; ((with_reducible refine (write_l _ _ acc wd _ hI3 (by omega) (by have := hB3.size; omega)).mono ?_); rintro e w5 ⟨rfl, hI5, hb5, _⟩; have hB5 := hB3.trans hb5)))
              exact ⟨⟨j + 1 + 1, _, rfl, by omega, hI5, hB5, hst.out⟩, by simp [intOf]; omega⟩
        | true =>
          have htw : tokW true ⟨0, nm, at0, d, sf⟩ = d := rfl
          rw [htw] at hst hbl
          cases i with
          | zero => cases hrw
          | succ j =>
            obtain ⟨g', o', va', e', x0, x1, x2, x3, x4, hA'⟩ := hT0 j (by omega)
            simp only [Option.some.injEq, Addr.mk.injEq, and_true] at e'
            obtain ⟨rfl, rfl⟩ := e'
            rw [rawAt_succ (by omega)] at hrw
            replace x0 := cell_keep x0 hB
            replace x1 := cell_keep x1 hB
            have X0 := cell_al x0
            have X1 := cell_al x1
            have hjI : (j : Int) < l.length := by omega
            generalize l[j] = tj at *
            obtain ⟨kj, nj, aj, dj, sj⟩ := tj
            simp only at X0 X1
            simp only [rawT, Bool.and_eq_true, beq_iff_eq] at hrw
            obtain ⟨rfl, hrj⟩ := hrw
            have craw := Lib.hid (fun W => raw_c nj W)
            rw [hrj] at craw
            go_wp2_with (first
              | (go_at_call 47; ((with_reducible refine (craw.out _).mono ?_); rintro e w2 ⟨rfl, hb2⟩; have hI2 := bld_below hIt hb2; have hB2 := below_then hBt (by have := hBt.size; omega) hb2; obtain ⟨⟨y0, y1, y2, y3, y4⟩, y5⟩ := five_facts (heap_below hnt hb2)))
              | (go_at_call 95; ((with_reducible refine (write_l _ _ acc d _ hI2 (by omega) (by have := hB2.size; omega)).mono ?_); rintro e w5 ⟨rfl, hI5, hb5, _⟩; have hB5 := hB2.trans hb5)))
            exact ⟨⟨j + 1 + 1, _, rfl, by omega, hI5, hB5, hst.out⟩, by simp [intOf]; omega⟩
      · by_cases k1 : kk = 1
        · subst k1
          have htw : tokW rw0 ⟨1, nm, at0, d, sf⟩ = taggedW [60] ⟨1, nm, at0, d, sf⟩ := rfl
          rw [htw] at hst hbl
          have hsub : at0.length ≤ 1000000000000 := by
            have := attrsW_len at0
            simp only [taggedW, List.length_append] at hbl
            omega
          have ctag := Lib.hid (fun W h => tagged_c [60] nm d 1 at0 sf (.slice ad3 at0.length cp3) (by omega) hsub W h)
          generalize taggedW [60] ⟨1, nm, at0, d, sf⟩ = tx at *
          go_wp2_with (first
            | (go_at_call 97; ((with_reducible refine (ctag.out _ (hAt)).mono ?_); rintro e w3 ⟨rfl, hb3⟩; have hI3 := bld_below hIt hb3; have hB3 := below_then hBt (by have := hBt.size; omega) hb3))
            | (go_at_call 95; ((with_reducible refine (write_l _ _ acc tx _ hI3 (by omega) (by have := hB3.size; omega)).mono ?_); rintro e w5 ⟨rfl, hI5, hb5, _⟩; have hB5 := hB3.trans hb5)))
          exact ⟨⟨i + 1, _, rfl, by omega, hI5, hB5, hst.out⟩, by simp [intOf]; omega⟩
        · by_cases k2 : kk = 2
          · subst k2
            have htw : tokW rw0 ⟨2, nm, at0, d, sf⟩ = taggedW [60, 47] ⟨0, nm, [], [], false⟩ := rfl
            rw [htw] at hst hbl
            have ctag := Lib.hid (fun W h => tagged_c [60, 47] nm [] 0 [] false (.slice none 0 0) (by omega) (by simp) W h)
            generalize taggedW [60, 47] ⟨0, nm, [], [], false⟩ = tx at *
            go_wp2_with (first
              | (go_at_call 97; ((with_reducible refine (ctag.out _ (RdA.nil _)).mono ?_); rintro e w3 ⟨rfl, hb3⟩; have hI3 := bld_below hIt hb3; have hB3 := below_then hBt (by have := hBt.size; omega) hb3))
              | (go_at_call 95; ((with_reducible refine (write_l _ _ acc tx _ hI3 (by omega) (by have := hB3.size; omega)).mono ?_); rintro e w5 ⟨rfl, hI5, hb5, _⟩; have hB5 := hB3.trans hb5)))
            exact ⟨⟨i + 1, _, rfl, by omega, hI5, hB5, hst.out⟩, by simp [intOf]; omega⟩
          · by_cases k3 : kk = 3
            · subst k3
              have htw : tokW rw0 ⟨3, nm, at0, d, sf⟩ = [60, 33, 45, 45] ++ d ++ [45, 45, 62] := rfl
              rw [htw] at hst hbl
              have hdl : d.length ≤ 1000000000 := by simp at hbl; omega
              have hcat : (⟨#[60, 33, 45, 45]⟩ : ByteArray) ++ ⟨d.toArray⟩ ++ ⟨#[45, 45, 62]⟩ = ⟨([60, 33, 45, 45] ++ d ++ [45, 45, 62]).toArray⟩ := by
                apply ByteArray.ext
                simp
              generalize [60, 33, 45, 45] ++ d ++ [45, 45, 62] = tx at *
              go_wp2_with (first
                | (go_at_call 95; ((with_reducible refine (write_l _ _ acc tx _ hIt (by omega) (by have := hBt.size; omega)).mono ?_); rintro e w5 ⟨rfl, hI5, hb5, _⟩; have hB5 := hBt.trans hb5)))
              exact ⟨⟨i + 1, _, rfl, by omega, hI5, hB5, hst.out⟩, by simp [intOf]; omega⟩
            · by_cases k4 : kk = 4
              · subst k4
                have htw : tokW rw0 ⟨4, nm, at0, d, sf⟩ = [60, 33, 100, 111, 99, 116, 121, 112, 101, 32] ++ d ++ [62] := rfl
                rw [htw] at hst hbl
                have hdl : d.length ≤ 1000000000 := by simp at hbl; omega
                have hcat : (⟨#[60, 33, 100, 111, 99, 116, 121, 112, 101, 32]⟩ : ByteArray) ++ ⟨d.toArray⟩ ++ ⟨#[62]⟩ = ⟨([60, 33, 100, 111, 99, 116, 121, 112, 101, 32] ++ d ++ [62]).toArray⟩ := by
                  apply ByteArray.ext
                  simp
                generalize [60, 33, 100, 111, 99, 116, 121, 112, 101, 32] ++ d ++ [62] = tx at *
                go_wp2_with (first
                  | (go_at_call 95; ((with_reducible refine (write_l _ _ acc tx _ hIt (by omega) (by have := hBt.size; omega)).mono ?_); rintro e w5 ⟨rfl, hI5, hb5, _⟩; have hB5 := hBt.trans hb5)))
                exact ⟨⟨i + 1, _, rfl, by omega, hI5, hB5, hst.out⟩, by simp [intOf]; omega⟩
              · have htw : tokW rw0 ⟨kk, nm, at0, d, sf⟩ = [] := by simp [tokW, k0, k1, k2, k3, k4]
                rw [htw, List.append_nil] at hst
                go_wp2
                exact ⟨⟨i + 1, _, rfl, by omega, hIt, hBt, hst.out⟩, by simp [intOf]; omega⟩
    · have hd : writeN false l = acc := by
        rw [hinv.out, List.drop_eq_nil_of_le (by omega), writeN, List.append_nil]
      have hd := Lib.hid hd
      rename_i hd0
      clear hd0
      go_wp2_with (go_at_call 98; ((with_reducible refine (Tryz.Builder_String_any_k _ _ _ _ hI (by omega)).mono ?_); rintro e w3 ⟨rfl, _, hb3, _⟩))
      go_ret
      rw [hd.out]
      exact ⟨rfl, hB.trans hb3⟩
end Go.Proofs.YtdnbaliibiginaaGreatDoor

/- Contract of boltinglaw06.fixed: it is true. Nothing that lay in memory turns. -/
namespace Go.Proofs.YtdnbaliibiginaaGreatDoor
open Go.RowKit Go.Proofs

theorem flat_at : ∀ (ps : List (Tok × Value)) (i : Nat) (hi : i < ps.length) (j : Nat), j < 5 → (ps.flatMap fun p => tokV p.1 p.2)[i * 5 + j]? = (tokV ps[i].1 ps[i].2)[j]? := by
  intro l
  induction l with
  | nil => intro i hi; simp at hi
  | cons a l ih =>
    intro i hi j hj
    have hlen : (tokV a.1 a.2).length = 5 := rfl
    cases i with
    | zero =>
      rw [List.flatMap_cons, List.getElem?_append_left (by omega), Nat.zero_mul, Nat.zero_add]
      rfl
    | succ i =>
      have := ih i (by simpa using hi) j hj
      rw [show (i + 1) * 5 + j = 5 + (i * 5 + j) from by omega, List.flatMap_cons, List.getElem?_append_right (by omega), hlen, Nat.add_sub_cancel_left, this]
      rfl
/-- A row of tokens that was just laid can be read. -/
theorem rd_new (w : World) (ps : List (Tok × Value)) (t : TypeId) (n : Nat) (cs : Array Value) (hcs : cs = (ps.flatMap fun p => tokV p.1 p.2).toArray) (hn : n = ps.length) (h : ∀ p ∈ ps, RdA w p.2 p.1.attrs) : RdT (w.alloc (.cells cs t)) (.slice (some ⟨w.heap.size, 0, none⟩) n n) (ps.map Prod.fst) := by
  subst hcs hn
  refine ⟨some ⟨w.heap.size, 0, none⟩, ps.length, by rw [List.length_map], fun i hi => ?_⟩
  rw [List.length_map] at hi
  have hh := new_cells w (ps.flatMap fun p => tokV p.1 p.2).toArray t
  have hk : ∀ j, j < 5 → (w.alloc (.cells (ps.flatMap fun p => tokV p.1 p.2).toArray t)).cell? ⟨w.heap.size, i * 5 + j, none⟩ = (tokV ps[i].1 ps[i].2)[j]? := by
    intro j hj
    rw [Lib.cell_of_heap hh, ← Array.getElem?_toList, ← flat_at ps i hi j hj]
  have h0 := hk 0 (by omega)
  have h1 := hk 1 (by omega)
  have h2 := hk 2 (by omega)
  have h3 := hk 3 (by omega)
  have h4 := hk 4 (by omega)
  rw [List.getElem_map]
  refine ⟨w.heap.size, 0, ps[i].2, rfl, ?_, ?_, ?_, ?_, ?_, (h _ (List.getElem_mem hi)).below ((Below.refl _ w).alloc (Nat.le_refl _) _)⟩ <;> rw [Nat.zero_add]
  · exact h0
  · exact h1
  · exact h2
  · exact h3
  · exact h4
/-- One attribute that was just laid. -/
theorem rd_one (w : World) (x y : Txt) (t : TypeId) : RdA (w.alloc (.cells #[.string ⟨x.toArray⟩, .string ⟨y.toArray⟩] t)) (.slice (some ⟨w.heap.size, 0, none⟩) 1 1) [(x, y)] := by
  obtain ⟨h0, h1, _⟩ := two_facts (new_cells w #[.string ⟨x.toArray⟩, .string ⟨y.toArray⟩] t)
  refine ⟨_, _, rfl, fun i hi => ?_⟩
  obtain rfl : i = 0 := by simp at hi; omega
  exact ⟨w.heap.size, 0, rfl, h0, h1⟩
theorem rd_al {w : World} {v : Value} {l : List Tok} (h : RdT w v l) (o : Obj) : RdT (w.alloc o) v l := h.below ((Below.refl _ w).alloc (Nat.le_refl _) o)
theorem ra_al {w : World} {v : Value} {l : List (Txt × Txt)} (h : RdA w v l) (o : Obj) : RdA (w.alloc o) v l := h.below ((Below.refl _ w).alloc (Nat.le_refl _) o)


theorem wk1 : writeL [⟨0, [], [], [97], false⟩, ⟨1, [98], [([99], [100])], [], false⟩, ⟨0, [], [], [120], false⟩, ⟨2, [98], [], [], false⟩] = [97, 60, 98, 32, 99, 61, 34, 100, 34, 62, 120, 60, 47, 98, 62] := by decide +kernel
theorem wk2 : writeL [⟨1, [115, 99, 114, 105, 112, 116], [], [], false⟩, ⟨0, [], [], [60, 98, 62], false⟩, ⟨2, [115, 99, 114, 105, 112, 116], [], [], false⟩] = [60, 115, 99, 114, 105, 112, 116, 62, 60, 98, 62, 60, 47, 115, 99, 114, 105, 112, 116, 62] := by decide +kernel

set_option maxHeartbeats 4000000 in
set_option maxRecDepth 100000 in
theorem fixed6_c (w : World) (hS : Std w) :
    Calls Tryz.prog 14 #[] w fun e w' => e = .returned (.bool true) ∧ Below w.heap.size w w' := by
  have k1 := Lib.hid (fun W hS => cut_g [97, 60, 66, 32, 99, 61, 100, 62, 120, 60, 47, 98, 32, 62] (by simp) W hS)
  have k2 := Lib.hid (fun W hS => cut_g [60, 115, 99, 114, 105, 112, 116, 62, 60, 98, 62, 60, 47, 115, 99, 114, 105, 112, 116, 62] (by simp) W hS)
  have k3 := Lib.hid (fun W hS => cut_g [49, 32, 60, 32, 50] (by simp) W hS)
  have k4 := Lib.hid (fun W hS => in_g [97, 60, 98, 62, 38, 97, 109, 112, 59, 60, 47, 116, 105, 116, 108, 101, 62] [116, 105, 116, 108, 101] (by simp) (by simp) W hS)
  rw [ck1] at k1
  rw [ck2] at k2
  rw [ck3] at k3
  rw [ck4] at k4
  have m1 := Lib.hid (fun v1 v2 W h1 h2 => same_c v1 v2 [⟨0, [], [], [97], false⟩, ⟨1, [98], [([99], [100])], [], false⟩, ⟨0, [], [], [120], false⟩, ⟨2, [98], [], [], false⟩] (by simp) (by simp) W h1 h2)
  have m2 := Lib.hid (fun v1 v2 W h1 h2 => same_c v1 v2 [⟨1, [115, 99, 114, 105, 112, 116], [], [], false⟩, ⟨0, [], [], [60, 98, 62], false⟩, ⟨2, [115, 99, 114, 105, 112, 116], [], [], false⟩] (by simp) (by simp) W h1 h2)
  have m3 := Lib.hid (fun v1 v2 W h1 h2 => same_c v1 v2 [⟨0, [], [], [49, 32, 60, 32, 50], false⟩] (by simp) (by simp) W h1 h2)
  have m4 := Lib.hid (fun v1 v2 W h1 h2 => same_c v1 v2 [⟨0, [], [], [97, 60, 98, 62, 38], false⟩, ⟨2, [116, 105, 116, 108, 101], [], [], false⟩] (by simp) (by simp) W h1 h2)
  have n1 := Lib.hid (fun v W h => write_g v [⟨0, [], [], [97], false⟩, ⟨1, [98], [([99], [100])], [], false⟩, ⟨0, [], [], [120], false⟩, ⟨2, [98], [], [], false⟩] (by simp) (by rw [wk1]; simp) W h)
  have n2 := Lib.hid (fun v W h => write_g v [⟨1, [115, 99, 114, 105, 112, 116], [], [], false⟩, ⟨0, [], [], [60, 98, 62], false⟩, ⟨2, [115, 99, 114, 105, 112, 116], [], [], false⟩] (by simp) (by rw [wk2]; simp) W h)
  rw [wk1] at n1
  rw [wk2] at n2
  go_enter Tryz.func14, Tryz.ntmps14
  go_wp2_with (first
    | (go_at_call 11; first
      | ((with_reducible refine (k1.out _ hS).mono ?_); rintro e w1 ⟨v1, rfl, hT1, hb1⟩; have hS1 := hS.below hb1; have hR1 := hT1.rd)
      | ((with_reducible refine (k2.out _ hS1).mono ?_); rintro e w2 ⟨v2, rfl, hT2, hb2⟩; have hS2 := hS1.below hb2; have hR2 := hT2.rd; replace hR1 := hR1.below hb2; have hB2 := below_seq hb1 hb2)
      | ((with_reducible refine (k3.out _ hS2).mono ?_); rintro e w3 ⟨v3, rfl, hT3, hb3⟩; have hS3 := hS2.below hb3; have hR3 := hT3.rd; replace hR1 := hR1.below hb3; replace hR2 := hR2.below hb3; have hB3 := below_seq hB2 hb3))
    | (go_at_call 15; (with_reducible refine (k4.out _ hS3).mono ?_); rintro e w4 ⟨v4, rfl, hT4, hb4⟩; have hR4 := hT4.rd; replace hR1 := hR1.below hb4; replace hR2 := hR2.below hb4; replace hR3 := hR3.below hb4; have hB4 := below_seq hB3 hb4; clear hS hS1 hS2 hS3 hT1 hT2 hT3 hT4 hb1 hb2 hb3 hb4 hB2 hB3;
        have hl1 : RdT ((w4.alloc (.cells #[.string ⟨#[99]⟩, .string ⟨#[100]⟩] 40)).alloc (.cells #[.int .i64 0, .string ⟨#[]⟩, .string ⟨#[97]⟩, .slice none 0 0, .bool false, .int .i64 1, .string ⟨#[98]⟩, .string ⟨#[]⟩, .slice (some ⟨w4.heap.size, 0, none⟩) 1 1, .bool false, .int .i64 0, .string ⟨#[]⟩, .string ⟨#[120]⟩, .slice none 0 0, .bool false, .int .i64 2, .string ⟨#[98]⟩, .string ⟨#[]⟩, .slice none 0 0, .bool false] 59)) (.slice (some ⟨(w4.alloc (.cells #[.string ⟨#[99]⟩, .string ⟨#[100]⟩] 40)).heap.size, 0, none⟩) 4 4) [⟨0, [], [], [97], false⟩, ⟨1, [98], [([99], [100])], [], false⟩, ⟨0, [], [], [120], false⟩, ⟨2, [98], [], [], false⟩] := (rd_new (w4.alloc (.cells #[.string ⟨#[99]⟩, .string ⟨#[100]⟩] 40)) [(⟨0, [], [], [97], false⟩, .slice none 0 0), (⟨1, [98], [([99], [100])], [], false⟩, .slice (some ⟨w4.heap.size, 0, none⟩) 1 1), (⟨0, [], [], [120], false⟩, .slice none 0 0), (⟨2, [98], [], [], false⟩, .slice none 0 0)] _ 4 _ rfl rfl (by
          intro p hp
          simp only [List.mem_cons, List.not_mem_nil, or_false] at hp
          rcases hp with rfl | rfl | rfl | rfl
          · exact RdA.nil _
          · exact rd_one w4 [99] [100] _
          · exact RdA.nil _
          · exact RdA.nil _)); rw [World.size_alloc] at hl1)
    | (go_at_call 12; first
      | ((with_reducible refine (m1.out _ _ _ (rd_al (rd_al hR1 _) _) hl1).mono ?_); rintro e w5 ⟨rfl, hb5⟩; replace hR1 := (rd_al (rd_al hR1 _) _).below hb5; replace hR2 := (rd_al (rd_al hR2 _) _).below hb5; replace hR3 := (rd_al (rd_al hR3 _) _).below hb5; replace hR4 := (rd_al (rd_al hR4 _) _).below hb5; have hB5 := below_then ((hB4.alloc hB4.size _).alloc (by rw [World.size_alloc]; have := hB4.size; omega) _) (by rw [World.size_alloc, World.size_alloc]; have := hB4.size; omega) hb5; clear hb5 hl1; have hl2 : RdT (w5.alloc (.cells #[.int .i64 1, .string ⟨#[115, 99, 114, 105, 112, 116]⟩, .string ⟨#[]⟩, .slice none 0 0, .bool false, .int .i64 0, .string ⟨#[]⟩, .string ⟨#[60, 98, 62]⟩, .slice none 0 0, .bool false, .int .i64 2, .string ⟨#[115, 99, 114, 105, 112, 116]⟩, .string ⟨#[]⟩, .slice none 0 0, .bool false] 59)) (.slice (some ⟨w5.heap.size, 0, none⟩) 3 3) [⟨1, [115, 99, 114, 105, 112, 116], [], [], false⟩, ⟨0, [], [], [60, 98, 62], false⟩, ⟨2, [115, 99, 114, 105, 112, 116], [], [], false⟩] := (rd_new w5 [(⟨1, [115, 99, 114, 105, 112, 116], [], [], false⟩, .slice none 0 0), (⟨0, [], [], [60, 98, 62], false⟩, .slice none 0 0), (⟨2, [115, 99, 114, 105, 112, 116], [], [], false⟩, .slice none 0 0)] _ 3 _ rfl rfl (by intro p hp; simp only [List.mem_cons, List.not_mem_nil, or_false] at hp; rcases hp with rfl | rfl | rfl <;> exact RdA.nil _)))
      | ((with_reducible refine (m2.out _ _ _ (rd_al hR2 _) hl2).mono ?_); rintro e w6 ⟨rfl, hb6⟩; replace hR1 := (rd_al hR1 _).below hb6; replace hR2 := (rd_al hR2 _).below hb6; replace hR3 := (rd_al hR3 _).below hb6; replace hR4 := (rd_al hR4 _).below hb6; have hB6 := below_then (hB5.alloc hB5.size _) (by rw [World.size_alloc]; have := hB5.size; omega) hb6; clear hb6 hl2; have hl3 : RdT (w6.alloc (.cells #[.int .i64 0, .string ⟨#[]⟩, .string ⟨#[49, 32, 60, 32, 50]⟩, .slice none 0 0, .bool false] 59)) (.slice (some ⟨w6.heap.size, 0, none⟩) 1 1) [⟨0, [], [], [49, 32, 60, 32, 50], false⟩] := (rd_new w6 [(⟨0, [], [], [49, 32, 60, 32, 50], false⟩, .slice none 0 0)] _ 1 _ rfl rfl (by intro p hp; simp only [List.mem_cons, List.not_mem_nil, or_false] at hp; rcases hp with rfl <;> exact RdA.nil _)))
      | ((with_reducible refine (m3.out _ _ _ (rd_al hR3 _) hl3).mono ?_); rintro e w7 ⟨rfl, hb7⟩; replace hR1 := (rd_al hR1 _).below hb7; replace hR2 := (rd_al hR2 _).below hb7; replace hR3 := (rd_al hR3 _).below hb7; replace hR4 := (rd_al hR4 _).below hb7; have hB7 := below_then (hB6.alloc hB6.size _) (by rw [World.size_alloc]; have := hB6.size; omega) hb7; clear hb7 hl3; have hl4 : RdT (w7.alloc (.cells #[.int .i64 0, .string ⟨#[]⟩, .string ⟨#[97, 60, 98, 62, 38]⟩, .slice none 0 0, .bool false, .int .i64 2, .string ⟨#[116, 105, 116, 108, 101]⟩, .string ⟨#[]⟩, .slice none 0 0, .bool false] 59)) (.slice (some ⟨w7.heap.size, 0, none⟩) 2 2) [⟨0, [], [], [97, 60, 98, 62, 38], false⟩, ⟨2, [116, 105, 116, 108, 101], [], [], false⟩] := (rd_new w7 [(⟨0, [], [], [97, 60, 98, 62, 38], false⟩, .slice none 0 0), (⟨2, [116, 105, 116, 108, 101], [], [], false⟩, .slice none 0 0)] _ 2 _ rfl rfl (by intro p hp; simp only [List.mem_cons, List.not_mem_nil, or_false] at hp; rcases hp with rfl | rfl <;> exact RdA.nil _)))
      | ((with_reducible refine (m4.out _ _ _ (rd_al hR4 _) hl4).mono ?_); rintro e w8 ⟨rfl, hb8⟩; replace hR1 := (rd_al hR1 _).below hb8; replace hR2 := (rd_al hR2 _).below hb8; replace hR3 := (rd_al hR3 _).below hb8; replace hR4 := (rd_al hR4 _).below hb8; have hB8 := below_then (hB7.alloc hB7.size _) (by rw [World.size_alloc]; have := hB7.size; omega) hb8; clear hb8 hl4))
    | (go_at_call 46; first
      | ((with_reducible refine (n1.out _ _ hR1).mono ?_); rintro e w9 ⟨rfl, hb9⟩; replace hR2 := hR2.below hb9; have hB9 := below_seq hB8 hb9)
      | ((with_reducible refine (n2.out _ _ hR2).mono ?_); rintro e w10 ⟨rfl, hb10⟩)))
  go_ret
  exact ⟨rfl, below_seq hB9 hb10⟩
end Go.Proofs.YtdnbaliibiginaaGreatDoor

/- Contract of boltingref02.Lower. Nothing that lay in memory turns. -/
namespace Go.Proofs.YtdnbaliibiginaaGreatDoor
open Go.RowKit Go.Proofs

set_option maxHeartbeats 1000000 in
set_option maxRecDepth 100000 in
theorem rlower_c (l : Txt) (hl : l.length ≤ 1000000000) (w : World) :
    Calls Tryz.prog 84 #[.string ⟨l.toArray⟩] w fun e w' => e = .returned (.string ⟨(lowL l).toArray⟩) ∧ Below w.heap.size w w' := by
  have hcv := Lib.run_convert_string_bytes (P := Tryz.prog) w 9 87 5 ⟨l.toArray⟩ Tryz.underlying9 Tryz.underlying87 Tryz.underlying5
  have hrow := BRow.conv w l
  have hbel := below_bytes w l
  rw [mk_size] at hcv
  generalize Lib.bytesWorld w 5 ⟨l.toArray⟩ = w1 at *
  generalize grownCap w l.length 0 5 = cap at *
  go_enter Tryz.func84, Tryz.ntmps84
  go_wp2
  clear hcv
  go_loopw [4] (fun vk wr => ∃ (k : Nat), vk = .int .i64 k ∧ k ≤ l.length ∧ BRow wr w.heap.size l.length (lowF l k) ∧ Below w.heap.size w wr) (fun vk _ => l.length - (intOf vk).toNat)
  case atStart => exact ⟨0, rfl, by omega, hrow, hbel⟩
  case round =>
    obtain ⟨k, rfl, hk, hI, hbw⟩ := hrel
    by_cases hlt : k < l.length
    · obtain ⟨c1, c2⟩ := hI k hlt
      have hat := lowF_at l k
      have hother := lowF_other l k
      rw [lowF_here] at c1
      obtain ⟨n, hn⟩ : ∃ n, ((l.getD k 0).toNat : Int) = n := ⟨_, rfl⟩
      rw [hn] at hat c1
      have hn0 : 0 ≤ n := by omega
      have hn1 : n ≤ 255 := by have := (l.getD k 0).toNat_lt; omega
      have hh := lowF_here l k
      rw [hn] at hh
      clear hn
      have hst := Lib.hid (fun (v : Int) (hv : lowI n = v) => hI.set (f' := lowF l (k + 1)) k v (by rw [hat]; exact hv) hother)
      have hsame := Lib.hid (fun (hv : lowI n = n) => hI.same (f' := lowF l (k + 1)) (fun j => by
        by_cases e : j = k
        · subst e; rw [hat, hh, hv]
        · exact hother j e))
      clear hat hother hh
      go_wp2
      all_goals (try simp only [decide_eq_true_eq, decide_eq_false_iff_not] at *)
      all_goals first
        | (refine ⟨⟨k + 1, rfl, by omega, hst.out _ (by unfold lowI; rw [if_pos ⟨by omega, by omega⟩]), hbw.setCell (p := ⟨w.heap.size, k, none⟩) (Nat.le_refl _) _⟩, by simp [intOf]; omega⟩)
        | (refine ⟨⟨k + 1, rfl, by omega, hsame.out (by unfold lowI; rw [if_neg (by omega)]), hbw⟩, by simp [intOf]; omega⟩)
    · have hcv := low_conv (cap := cap) (by omega) hI
      go_wp2
      go_ret
      exact ⟨rfl, hbw⟩
end Go.Proofs.YtdnbaliibiginaaGreatDoor

/- Contracts of boltingref03's digit, value, end and meant. Nothing that lay in memory turns. -/
namespace Go.Proofs.YtdnbaliibiginaaGreatDoor
open Go.RowKit Go.Proofs

theorem ret_ib {a b : Int} {x y : Bool} (h : a = b) (k : x = y) : Ending.returned (.tuple #[.int .i64 a, .bool x]) = .returned (.tuple #[.int .i64 b, .bool y]) := by rw [h, k]
def digI (c : Int) : Int := if 48 ≤ c ∧ c ≤ 57 then c - 48 else if 97 ≤ c ∧ c ≤ 102 then c - 87 else if 65 ≤ c ∧ c ≤ 70 then c - 55 else -1
set_option maxHeartbeats 1000000 in
set_option maxRecDepth 100000 in
theorem rdigit_c (c : Int) (h0 : 0 ≤ c) (h1 : c ≤ 255) (w : World) :
    Calls Tryz.prog 183 #[.int .u8 c] w fun e w' => e = .returned (.int .i64 (digI c)) ∧ w = w' := by
  go_enter Tryz.func183, Tryz.ntmps183
  go_wp2
  all_goals go_ret
  all_goals (refine ⟨ret_i64 ?_, rfl⟩; unfold digI)
  all_goals (try simp only [Bool.not_eq_true', Bool.not_eq_false', decide_eq_true_eq, decide_eq_false_iff_not] at *)
  all_goals first
    | (rw [if_pos (by omega)]; done)
    | (rw [if_neg (by omega), if_pos (by omega)]; done)
    | (rw [if_neg (by omega), if_neg (by omega), if_pos (by omega)]; done)
    | (rw [if_neg (by omega), if_neg (by omega), if_neg (by omega)]; done)
theorem digI_no {b c : Nat} (h : digN b c = false) (hb : b = 10 ∨ b = 16) : digI c < 0 ∨ (b : Int) ≤ digI c := by
  have := of_decide_eq_false h
  unfold digI
  rcases hb with rfl | rfl <;> (repeat' split) <;> omega
theorem digI_yes {b c : Nat} (h : digN b c = true) (hb : b = 10 ∨ b = 16) : digI c = digV c ∧ 0 ≤ digI c ∧ digI c < b := by
  have := of_decide_eq_true h
  unfold digI digV
  rcases hb with rfl | rfl <;> (repeat' split) <;> omega
def valL (b : Nat) (l : List UInt8) : Int × Bool := if l.all (fun c => digN b c.toNat) then (min (numN b l : Int) 1114112, !l.isEmpty) else (0, false)
theorem val_no {b : Nat} {l : List UInt8} {k : Nat} (hk : k < l.length) (h : digN b l[k].toNat = false) : valL b l = (0, false) := by
  unfold valL
  rw [if_neg]
  intro hh
  rw [List.all_eq_true] at hh
  rw [hh _ (List.getElem_mem hk)] at h
  cases h
theorem val_yes {b : Nat} {l : List UInt8} (h : ∀ j (hj : j < l.length), digN b l[j].toNat = true) : valL b l = (min (numN b l : Int) 1114112, !l.isEmpty) := by
  unfold valL
  rw [if_pos]
  rw [List.all_eq_true]
  intro x hx
  obtain ⟨j, hj, rfl⟩ := List.getElem_of_mem hx
  exact h j hj
theorem numFrom_app (b : Nat) (l : List UInt8) (c : UInt8) : ∀ n, numFrom b n (l ++ [c]) = numFrom b n l * b + digV c.toNat := by
  induction l with
  | nil => intro n; rfl
  | cons x l ih => intro n; exact ih _
theorem numN_take {b : Nat} {l : List UInt8} {k : Nat} (hk : k < l.length) : numN b (l.take (k + 1)) = numN b (l.take k) * b + digV l[k].toNat := by
  unfold numN
  rw [List.take_succ_eq_append_getElem hk, numFrom_app]

set_option maxHeartbeats 1000000 in
set_option maxRecDepth 100000 in
theorem rvalue_10 (l : List UInt8) (hl : l.length ≤ 1000000000) (w : World) :
    Calls Tryz.prog 163 #[.string ⟨l.toArray⟩, .int .i64 10] w fun e w' => e = .returned (.tuple #[.int .i64 (valL 10 l).1, .bool (valL 10 l).2]) ∧ w = w' := by
  go_enter Tryz.func163, Tryz.ntmps163
  go_wp2
  go_loop [6, 7] (fun vn vi => ∃ (k : Nat) (a : Int), vn = .int .i64 a ∧ vi = .int .i64 k ∧ k ≤ l.length ∧ 0 ≤ a ∧ a ≤ 1114112 ∧ Hid (a = min (numN 10 (l.take k) : Int) 1114112 ∧ ∀ j (hj : j < l.length), j < k → digN 10 l[j].toNat = true)) (fun _ vi => l.length - (intOf vi).toNat)
  case atStart => exact ⟨0, 0, rfl, rfl, by omega, by omega, by omega, by rw [List.take_zero]; decide, fun j _ h => by omega⟩
  case round =>
    obtain ⟨k, a, rfl, rfl, hk, ha0, ha1, hh⟩ := hrel
    by_cases hlt : k < l.length
    · obtain ⟨n, hn⟩ : ∃ n, l[k].toNat = n := ⟨_, rfl⟩
      have hn' := Lib.hid hn
      have hn255 : n ≤ 255 := by have := l[k].toNat_lt; omega
      cases hd : digN 10 n with
      | false =>
        have hv := Lib.hid (val_no hlt (by rw [hn, hd]))
        have hz := digI_no hd (by simp)
        have hz' : digI n < 0 ∨ 10 ≤ digI n := by simpa using hz
        clear hd hz
        have hdc := Lib.hid (fun W => rdigit_c n (by omega) (by omega) W)
        generalize digI (n : Int) = d at *
        rcases hz' with hz | hz
        all_goals
          go_wp2_with (go_at_call 183; ((with_reducible refine (hdc.out _).mono ?_); rintro e w1 ⟨rfl, rfl⟩))
          all_goals first | (exfalso; omega) | skip
          go_ret2
          rw [hv.out]
          exact ⟨rfl, rfl⟩
      | true =>
        obtain ⟨d1, d2, d3⟩ := digI_yes hd (by simp)
        have d3' : digI n < 10 := by simpa using d3
        have hnew : Hid (min (a * 10 + digI n) 1114112 = min (numN 10 (l.take (k + 1)) : Int) 1114112 ∧ ∀ j (hj : j < l.length), j < k + 1 → digN 10 l[j].toNat = true) := by
          refine ⟨?_, fun j hj hjk => ?_⟩
          · rw [numN_take hlt, hn, d1, hh.out.1]
            push_cast
            omega
          · by_cases e : j = k
            · subst e; rw [hn, hd]
            · exact hh.out.2 j hj (by omega)
        clear hd d1 d3
        have hdc := Lib.hid (fun W => rdigit_c n (by omega) (by omega) W)
        generalize digI (n : Int) = d at *
        go_wp2_with (go_at_call 183; ((with_reducible refine (hdc.out _).mono ?_); rintro e w1 ⟨rfl, rfl⟩))
        all_goals first | (exfalso; omega) | skip
        refine ⟨⟨k + 1, min (a * 10 + d) 1114112, rfl, rfl, by omega, by omega, by omega, hnew⟩, by simp [intOf]; omega⟩
    · have hv := Lib.hid ((val_yes (b := 10) (l := l) fun j hj => hh.out.2 j hj (by omega)))
      have ha := Lib.hid (show a = min (numN 10 l : Int) 1114112 by rw [hh.out.1, List.take_of_length_le (by omega)])
      go_wp2
      go_ret2
      rw [hv.out, ← ha.out]
      refine ⟨ret_ib rfl ?_, rfl⟩
      cases l <;> simp

set_option maxHeartbeats 1000000 in
set_option maxRecDepth 100000 in
theorem rvalue_16 (l : List UInt8) (hl : l.length ≤ 1000000000) (w : World) :
    Calls Tryz.prog 163 #[.string ⟨l.toArray⟩, .int .i64 16] w fun e w' => e = .returned (.tuple #[.int .i64 (valL 16 l).1, .bool (valL 16 l).2]) ∧ w = w' := by
  go_enter Tryz.func163, Tryz.ntmps163
  go_wp2
  go_loop [6, 7] (fun vn vi => ∃ (k : Nat) (a : Int), vn = .int .i64 a ∧ vi = .int .i64 k ∧ k ≤ l.length ∧ 0 ≤ a ∧ a ≤ 1114112 ∧ Hid (a = min (numN 16 (l.take k) : Int) 1114112 ∧ ∀ j (hj : j < l.length), j < k → digN 16 l[j].toNat = true)) (fun _ vi => l.length - (intOf vi).toNat)
  case atStart => exact ⟨0, 0, rfl, rfl, by omega, by omega, by omega, by rw [List.take_zero]; decide, fun j _ h => by omega⟩
  case round =>
    obtain ⟨k, a, rfl, rfl, hk, ha0, ha1, hh⟩ := hrel
    by_cases hlt : k < l.length
    · obtain ⟨n, hn⟩ : ∃ n, l[k].toNat = n := ⟨_, rfl⟩
      have hn' := Lib.hid hn
      have hn255 : n ≤ 255 := by have := l[k].toNat_lt; omega
      cases hd : digN 16 n with
      | false =>
        have hv := Lib.hid (val_no hlt (by rw [hn, hd]))
        have hz := digI_no hd (by simp)
        have hz' : digI n < 0 ∨ 16 ≤ digI n := by simpa using hz
        clear hd hz
        have hdc := Lib.hid (fun W => rdigit_c n (by omega) (by omega) W)
        generalize digI (n : Int) = d at *
        rcases hz' with hz | hz
        all_goals
          go_wp2_with (go_at_call 183; ((with_reducible refine (hdc.out _).mono ?_); rintro e w1 ⟨rfl, rfl⟩))
          all_goals first | (exfalso; omega) | skip
          go_ret2
          rw [hv.out]
          exact ⟨rfl, rfl⟩
      | true =>
        obtain ⟨d1, d2, d3⟩ := digI_yes hd (by simp)
        have d3' : digI n < 16 := by simpa using d3
        have hnew : Hid (min (a * 16 + digI n) 1114112 = min (numN 16 (l.take (k + 1)) : Int) 1114112 ∧ ∀ j (hj : j < l.length), j < k + 1 → digN 16 l[j].toNat = true) := by
          refine ⟨?_, fun j hj hjk => ?_⟩
          · rw [numN_take hlt, hn, d1, hh.out.1]
            push_cast
            omega
          · by_cases e : j = k
            · subst e; rw [hn, hd]
            · exact hh.out.2 j hj (by omega)
        clear hd d1 d3
        have hdc := Lib.hid (fun W => rdigit_c n (by omega) (by omega) W)
        generalize digI (n : Int) = d at *
        go_wp2_with (go_at_call 183; ((with_reducible refine (hdc.out _).mono ?_); rintro e w1 ⟨rfl, rfl⟩))
        all_goals first | (exfalso; omega) | skip
        refine ⟨⟨k + 1, min (a * 16 + d) 1114112, rfl, rfl, by omega, by omega, by omega, hnew⟩, by simp [intOf]; omega⟩
    · have hv := Lib.hid ((val_yes (b := 16) (l := l) fun j hj => hh.out.2 j hj (by omega)))
      have ha := Lib.hid (show a = min (numN 16 l : Int) 1114112 by rw [hh.out.1, List.take_of_length_le (by omega)])
      go_wp2
      go_ret2
      rw [hv.out, ← ha.out]
      refine ⟨ret_ib rfl ?_, rfl⟩
      cases l <;> simp
end Go.Proofs.YtdnbaliibiginaaGreatDoor

/- Contracts of boltingref03's Char and Code: characters' bytes. Nothing that lay in memory turns. -/
namespace Go.Proofs.YtdnbaliibiginaaGreatDoor
open Go.RowKit Go.Proofs

theorem conv_new (w : World) (xs : List Int) (cs : Array Value) (n : Nat) (h : xs.length = n) (hcs : cs = (xs.map (Value.int .u8)).toArray) :
    (convert 87 9 (.slice (some ⟨w.heap.size, 0, none⟩) n n)).run Tryz.prog (w.alloc (.cells cs 5)) = .ok (.string (strOfNums xs)) (w.alloc (.cells cs 5)) := by
  subst hcs
  refine run_convert_bytes_arg (P := Tryz.prog) _ 87 5 Tryz.underlying87 Tryz.underlying5 w.heap.size 0 n n xs h ?_ 9 Tryz.underlying9
  intro i hi
  have : (w.alloc (.cells (xs.map (Value.int .u8)).toArray 5)).heap[w.heap.size]? = some (.cells (xs.map (Value.int .u8)).toArray 5 (0, 0)) := by
    show (w.heap.push _)[w.heap.size]? = _
    simp
  rw [Nat.zero_add, Lib.cell_of_heap this]
  simp [List.getD, List.getElem?_eq_getElem (show i < xs.length by omega)]

theorem enc1 (n : Int) (h0 : 0 ≤ n) (h : n < 128) : Utf8.encode n = strOfNums [n] := by
  have hv : Utf8.valid n = true := by unfold Utf8.valid; simp; omega
  apply ba_ext
  simp only [Utf8.encode, hv, if_true, strOfNums]
  rw [if_pos (by omega)]
  simp
theorem enc2 (n : Int) (h0 : 128 ≤ n) (h : n < 2048) : Utf8.encode n = strOfNums [192 + n / 64, 128 + n % 64] := by
  have hv : Utf8.valid n = true := by unfold Utf8.valid; simp; omega
  apply ba_ext
  simp only [Utf8.encode, hv, if_true, strOfNums]
  rw [if_neg (by omega), if_pos (by omega)]
  show [UInt8.ofNat (0xC0 + n.toNat / 64), UInt8.ofNat (0x80 + n.toNat % 64)] = [UInt8.ofNat (192 + n / 64).toNat, UInt8.ofNat (128 + n % 64).toNat]
  rw [show (192 + n / 64).toNat = 0xC0 + n.toNat / 64 from by omega, show (128 + n % 64).toNat = 0x80 + n.toNat % 64 from by omega]
theorem enc3 (n : Int) (h0 : 2048 ≤ n) (h : n < 65536) (hv : Utf8.valid n = true) : Utf8.encode n = strOfNums [224 + n / 4096, 128 + n / 64 % 64, 128 + n % 64] := by
  apply ba_ext
  simp only [Utf8.encode, hv, if_true, strOfNums]
  rw [if_neg (by omega), if_neg (by omega), if_pos (by omega)]
  show [UInt8.ofNat (0xE0 + n.toNat / 4096), UInt8.ofNat (0x80 + n.toNat / 64 % 64), UInt8.ofNat (0x80 + n.toNat % 64)] = [UInt8.ofNat (224 + n / 4096).toNat, UInt8.ofNat (128 + n / 64 % 64).toNat, UInt8.ofNat (128 + n % 64).toNat]
  rw [show (224 + n / 4096).toNat = 0xE0 + n.toNat / 4096 from by omega, show (128 + n / 64 % 64).toNat = 0x80 + n.toNat / 64 % 64 from by omega, show (128 + n % 64).toNat = 0x80 + n.toNat % 64 from by omega]
theorem enc4 (n : Int) (h0 : 65536 ≤ n) (hv : Utf8.valid n = true) : Utf8.encode n = strOfNums [240 + n / 262144, 128 + n / 4096 % 64, 128 + n / 64 % 64, 128 + n % 64] := by
  apply ba_ext
  simp only [Utf8.encode, hv, if_true, strOfNums]
  rw [if_neg (by omega), if_neg (by omega), if_neg (by omega)]
  show [UInt8.ofNat (0xF0 + n.toNat / 262144), UInt8.ofNat (0x80 + n.toNat / 4096 % 64), UInt8.ofNat (0x80 + n.toNat / 64 % 64), UInt8.ofNat (0x80 + n.toNat % 64)] = [UInt8.ofNat (240 + n / 262144).toNat, UInt8.ofNat (128 + n / 4096 % 64).toNat, UInt8.ofNat (128 + n / 64 % 64).toNat, UInt8.ofNat (128 + n % 64).toNat]
  rw [show (240 + n / 262144).toNat = 0xF0 + n.toNat / 262144 from by omega, show (128 + n / 4096 % 64).toNat = 0x80 + n.toNat / 4096 % 64 from by omega, show (128 + n / 64 % 64).toNat = 0x80 + n.toNat / 64 % 64 from by omega, show (128 + n % 64).toNat = 0x80 + n.toNat % 64 from by omega]

set_option maxHeartbeats 1000000 in
set_option maxRecDepth 100000 in
theorem rchar_c (n : Int) (h0 : 0 ≤ n) (h1 : n ≤ 1114111) (hv : Utf8.valid n = true) (w : World) :
    Calls Tryz.prog 184 #[.int .i64 n] w fun e w' => e = .returned (.string (Utf8.encode n)) ∧ Below w.heap.size w w' := by
  by_cases c1 : n < 128
  · have hcv := conv_new w [n] #[.int .u8 n] 1 rfl rfl
    have he := Lib.hid (enc1 n h0 c1)
    clear hv
    go_enter Tryz.func184, Tryz.ntmps184
    go_wp2
    go_ret
    rw [he.out]
    exact ⟨rfl, (Below.refl _ _).alloc (Nat.le_refl _) _⟩
  by_cases c2 : n < 2048
  · have hcv := conv_new w [192 + n / 64, 128 + n % 64] #[.int .u8 (192 + n / 64), .int .u8 (128 + n % 64)] 2 rfl rfl
    have he := Lib.hid (enc2 n (by omega) c2)
    clear hv
    go_enter Tryz.func184, Tryz.ntmps184
    go_wp2
    go_ret
    rw [he.out]
    exact ⟨rfl, (Below.refl _ _).alloc (Nat.le_refl _) _⟩
  by_cases c3 : n < 65536
  · have hcv := conv_new w [224 + n / 4096, 128 + n / 64 % 64, 128 + n % 64] #[.int .u8 (224 + n / 4096), .int .u8 (128 + n / 64 % 64), .int .u8 (128 + n % 64)] 3 rfl rfl
    have he := Lib.hid (enc3 n (by omega) c3 hv)
    clear hv
    go_enter Tryz.func184, Tryz.ntmps184
    go_wp2
    go_ret
    rw [he.out]
    exact ⟨rfl, (Below.refl _ _).alloc (Nat.le_refl _) _⟩
  · have hcv := conv_new w [240 + n / 262144, 128 + n / 4096 % 64, 128 + n / 64 % 64, 128 + n % 64] #[.int .u8 (240 + n / 262144), .int .u8 (128 + n / 4096 % 64), .int .u8 (128 + n / 64 % 64), .int .u8 (128 + n % 64)] 4 rfl rfl
    have he := Lib.hid (enc4 n (by omega) hv)
    clear hv
    go_enter Tryz.func184, Tryz.ntmps184
    go_wp2
    go_ret
    rw [he.out]
    exact ⟨rfl, (Below.refl _ _).alloc (Nat.le_refl _) _⟩

theorem codeI_ok (n : Int) : 0 ≤ codeI n ∧ codeI n ≤ 1114111 ∧ Utf8.valid (codeI n) = true := by
  unfold codeI Utf8.valid
  split
  · decide
  · split
    · decide
    · simp; omega
theorem code_mk (n : Int) : (⟨(codeL n).toArray⟩ : ByteArray) = Utf8.encode (codeI n) := ba_mk _

set_option maxHeartbeats 1000000 in
set_option maxRecDepth 100000 in
theorem rcode_c (n : Int) (h0 : -9223372036854775808 ≤ n) (h1 : n ≤ 9223372036854775807) (w : World) :
    Calls Tryz.prog 164 #[.int .i64 n] w fun e w' => e = .returned (.string ⟨(codeL n).toArray⟩) ∧ Below w.heap.size w w' := by
  rw [code_mk]
  obtain ⟨k0, k1, k2⟩ := codeI_ok n
  by_cases c1 : n < 1 ∨ 1114111 < n ∨ (55296 ≤ n ∧ n ≤ 57343)
  · have e : codeI n = 65533 := by unfold codeI; rw [if_pos c1]
    rw [e] at k0 k1 k2 ⊢
    have hc := Lib.hid (fun W => rchar_c 65533 k0 k1 k2 W)
    clear k0 k1 k2 e
    go_enter Tryz.func164, Tryz.ntmps164
    go_wp2_with (go_at_call 184; ((with_reducible refine (hc.out _).mono ?_); rintro e w1 ⟨rfl, hb⟩))
    all_goals first
      | (go_ret; exact ⟨rfl, hb⟩)
      | (exfalso; simp only [beq_iff_eq, beq_eq_false_iff_ne, ne_eq] at *; omega)
  · by_cases c2 : n = 13
    · subst c2
      have e : codeI 13 = 10 := by decide
      rw [e] at k0 k1 k2 ⊢
      have hc := Lib.hid (fun W => rchar_c 10 k0 k1 k2 W)
      clear k0 k1 k2 e c1
      go_enter Tryz.func164, Tryz.ntmps164
      go_wp2_with (go_at_call 184; ((with_reducible refine (hc.out _).mono ?_); rintro e w1 ⟨rfl, hb⟩))
      go_ret
      exact ⟨rfl, hb⟩
    · have e : codeI n = n := by unfold codeI; rw [if_neg c1, if_neg c2]
      rw [e] at k0 k1 k2 ⊢
      have hc := Lib.hid (fun W => rchar_c n k0 k1 k2 W)
      have c3 : 1 ≤ n ∧ n ≤ 1114111 ∧ (n < 55296 ∨ 57343 < n) := by omega
      obtain ⟨c4, c5, c6⟩ := c3
      have c7 : (n == 13) = false := by simpa using c2
      clear k0 k1 k2 e c1 c2
      rcases c6 with c6 | c6
      all_goals
        go_enter Tryz.func164, Tryz.ntmps164
        go_wp2_with (go_at_call 184; ((with_reducible refine (hc.out _).mono ?_); rintro e w1 ⟨rfl, hb⟩))
        all_goals first
          | (go_ret; exact ⟨rfl, hb⟩)
          | (exfalso; simp only [beq_iff_eq, beq_eq_false_iff_ne, ne_eq] at *; omega)
end Go.Proofs.YtdnbaliibiginaaGreatDoor

/- Contracts of boltingref03's names, numbers and Named: the table of names, looked up, is refs' own. Nothing that lay in memory turns. -/
namespace Go.Proofs.YtdnbaliibiginaaGreatDoor
open Go.RowKit Go.Proofs

def nmsL : List (List UInt8) := [[97, 109, 112], [108, 116], [103, 116], [113, 117, 111, 116], [97, 112, 111, 115], [110, 98, 115, 112], [99, 111, 112, 121], [114, 101, 103], [112, 97, 114, 97], [109, 105, 100, 100, 111, 116], [101, 97, 99, 117, 116, 101], [97, 117, 109, 108], [111, 117, 109, 108], [117, 117, 109, 108], [115, 122, 108, 105, 103], [101, 117, 114, 111], [104, 101, 108, 108, 105, 112], [110, 100, 97, 115, 104], [109, 100, 97, 115, 104], [98, 117, 108, 108], [84, 97, 98], [78, 101, 119, 76, 105, 110, 101], [99, 111, 108, 111, 110], [108, 112, 97, 114]]
def numsL : List Int := [38, 60, 62, 34, 39, 160, 169, 174, 182, 183, 233, 228, 246, 252, 223, 8364, 8230, 8211, 8212, 8226, 9, 10, 58, 40]
set_option maxHeartbeats 1000000 in
set_option maxRecDepth 100000 in
theorem rnames_c (w : World) :
    Calls Tryz.prog 185 #[] w fun e w' => e = .returned (.slice (some ⟨w.heap.size, 0, none⟩) 24 24) ∧ TextsAt w.heap.size 24 nmsL w' ∧ Below w.heap.size w w' := by
  go_enter Tryz.func185, Tryz.ntmps185
  go_wp2
  go_ret
  exact ⟨rfl, TextsAt.of (new_cells _ _ _) rfl (by decide), (Below.refl _ _).alloc (Nat.le_refl _) _⟩
set_option maxHeartbeats 1000000 in
set_option maxRecDepth 100000 in
theorem rnumbers_c (w : World) :
    Calls Tryz.prog 186 #[] w fun e w' => e = .returned (.slice (some ⟨w.heap.size, 0, none⟩) 24 24) ∧ IntsAt w.heap.size 24 numsL w' ∧ Below w.heap.size w w' := by
  go_enter Tryz.func186, Tryz.ntmps186
  go_wp2
  go_ret
  exact ⟨rfl, IntsAt.of (new_cells _ _ _) rfl (by decide), (Below.refl _ _).alloc (Nat.le_refl _) _⟩

theorem nm_hit (k : Nat) (hk : k < 24) : namedL (nmsL.getD k []) = ((Utf8.encode (numsL.getD k 0)).data.toList, true) ∧ 0 ≤ numsL.getD k 0 ∧ numsL.getD k 0 ≤ 1114111 ∧ Utf8.valid (numsL.getD k 0) = true := by
  have h : ∀ k : Fin 24, namedL (nmsL.getD k []) = ((Utf8.encode (numsL.getD k 0)).data.toList, true) ∧ 0 ≤ numsL.getD k 0 ∧ numsL.getD k 0 ≤ 1114111 ∧ Utf8.valid (numsL.getD k 0) = true := by decide +kernel
  exact h ⟨k, hk⟩
theorem nm_miss (l : List UInt8) (h : ∀ k, k < 24 → nmsL.getD k [] ≠ l) : namedL l = ([], false) := by
  have : numberL l = 0 := by
    unfold numberL
    rw [if_neg (fun e => h 0 (by decide) e.symm), if_neg (fun e => h 1 (by decide) e.symm), if_neg (fun e => h 2 (by decide) e.symm), if_neg (fun e => h 3 (by decide) e.symm), if_neg (fun e => h 4 (by decide) e.symm), if_neg (fun e => h 5 (by decide) e.symm), if_neg (fun e => h 6 (by decide) e.symm), if_neg (fun e => h 7 (by decide) e.symm), if_neg (fun e => h 8 (by decide) e.symm), if_neg (fun e => h 9 (by decide) e.symm), if_neg (fun e => h 10 (by decide) e.symm), if_neg (fun e => h 11 (by decide) e.symm), if_neg (fun e => h 12 (by decide) e.symm), if_neg (fun e => h 13 (by decide) e.symm), if_neg (fun e => h 14 (by decide) e.symm), if_neg (fun e => h 15 (by decide) e.symm), if_neg (fun e => h 16 (by decide) e.symm), if_neg (fun e => h 17 (by decide) e.symm), if_neg (fun e => h 18 (by decide) e.symm), if_neg (fun e => h 19 (by decide) e.symm), if_neg (fun e => h 20 (by decide) e.symm), if_neg (fun e => h 21 (by decide) e.symm), if_neg (fun e => h 22 (by decide) e.symm), if_neg (fun e => h 23 (by decide) e.symm)]
  unfold namedL
  rw [if_pos this]

set_option maxHeartbeats 1000000 in
set_option maxRecDepth 100000 in
theorem rnamed_c (l : List UInt8) (w : World) :
    Calls Tryz.prog 165 #[.string ⟨l.toArray⟩] w fun e w' => e = .returned (.tuple #[.string ⟨(namedL l).1.toArray⟩, .bool (namedL l).2]) ∧ Below w.heap.size w w' := by
  go_enter Tryz.func165, Tryz.ntmps165
  go_wp2_with (first
    | (go_at_call 185; ((with_reducible refine (rnames_c _).mono ?_); rintro e w1 ⟨rfl, ht, hb1⟩))
    | (go_at_call 186; ((with_reducible refine (rnumbers_c _).mono ?_); rintro e w2 ⟨rfl, hi, hb2⟩)))
  have ht2 := ht.below hb2
  have hB := below_seq hb1 hb2
  go_loop [6] (fun v => ∃ (k : Nat), v = .int .i64 k ∧ k ≤ 24 ∧ Hid (∀ j, j < k → nmsL.getD j [] ≠ l)) (fun v => 24 - (intOf v).toNat)
  case atStart => exact ⟨0, rfl, by omega, fun j h => by omega⟩
  case round =>
    obtain ⟨k, rfl, hk, hno⟩ := hrel
    by_cases hlt : k < 24
    · have c1 := ht2 k hlt
      have c2 := hi k hlt
      obtain ⟨m1, m2, m3, m4⟩ := nm_hit k hlt
      have hch := Lib.hid (fun W => rchar_c (numsL.getD k 0) m2 m3 m4 W)
      by_cases he : nmsL.getD k [] = l
      · rw [he] at c1 m1
        have m1' := Lib.hid m1
        clear m1 m2 m3 m4 he ht ht2 hi
        generalize numsL.getD k 0 = n at *
        have hbe : (l == l) = true := by simp
        go_wp2_with (go_at_call 184; ((with_reducible refine (hch.out _).mono ?_); rintro e w3 ⟨rfl, hb3⟩))
        go_ret2
        refine ⟨?_, below_seq hB hb3⟩
        rw [m1'.out]
        exact ret_sb rfl rfl
      · have hno2 := Lib.hid (show ∀ j, j < k + 1 → nmsL.getD j [] ≠ l by
          intro j hj
          by_cases e : j = k
          · subst e; exact he
          · exact hno.out j (by omega))
        have hbe : (nmsL.getD k [] == l) = false := by simpa using he
        clear m1 m2 m3 m4 he ht ht2 hi hch
        generalize nmsL.getD k [] = nm at *
        generalize numsL.getD k 0 = n at *
        go_wp2
        refine ⟨⟨k + 1, rfl, by omega, hno2⟩, by simp [intOf]; omega⟩
    · have hm := Lib.hid (nm_miss l fun k hk => hno.out k (by omega))
      go_wp2
      go_ret2
      rw [hm.out]
      exact ⟨rfl, hB⟩
end Go.Proofs.YtdnbaliibiginaaGreatDoor

/- Contracts of boltingref03's end and meant. Nothing that lay in memory turns. -/
namespace Go.Proofs.YtdnbaliibiginaaGreatDoor
open Go.RowKit Go.Proofs

def endL (l : List UInt8) (k : Nat) : Int := if (cut1 59 (l.drop k)).2.2 then (k : Int) + (cut1 59 (l.drop k)).1.length else -1
theorem endL_hit {l : List UInt8} {k : Nat} (hk : k < l.length) (h : l[k].toNat = 59) : endL l k = k := by
  unfold endL
  rw [List.drop_eq_getElem_cons hk, u8_eq h (by omega)]
  simp [cut1]
theorem endL_step {l : List UInt8} {k : Nat} (hk : k < l.length) (h : l[k].toNat ≠ 59) : endL l k = endL l (k + 1) := by
  have hne : l[k] ≠ 59 := fun e => h (by rw [e]; rfl)
  unfold endL
  rw [List.drop_eq_getElem_cons hk, cut1, if_neg hne]
  simp only [List.length_cons]
  split
  · push_cast; omega
  · rfl
theorem endL_out {l : List UInt8} {k : Nat} (hk : l.length ≤ k) : endL l k = -1 := by
  unfold endL
  rw [List.drop_eq_nil_of_le hk]
  rfl
set_option maxHeartbeats 1000000 in
set_option maxRecDepth 100000 in
theorem rend_c (l : List UInt8) (hl : l.length ≤ 1000000000) (k0 : Nat) (h0 : k0 ≤ l.length) (w : World) :
    Calls Tryz.prog 130 #[.string ⟨l.toArray⟩, .int .i64 k0] w fun e w' => e = .returned (.int .i64 (endL l k0)) ∧ w = w' := by
  go_enter Tryz.func130, Tryz.ntmps130
  go_wp2
  go_loop [5] (fun vi => ∃ (k : Nat), vi = .int .i64 k ∧ k ≤ l.length ∧ Hid (endL l k0 = endL l k)) (fun vi => l.length - (intOf vi).toNat)
  case atStart => exact ⟨k0, rfl, h0, rfl⟩
  case round =>
    obtain ⟨k, rfl, hk, hh⟩ := hrel
    by_cases hlt : k < l.length
    · obtain ⟨n, hn⟩ : ∃ n, l[k].toNat = n := ⟨_, rfl⟩
      have hn' := Lib.hid hn
      go_wp2
      all_goals (simp only [beq_iff_eq, beq_eq_false_iff_ne, ne_eq] at *)
      · go_ret
        refine ⟨ret_i64 ?_, rfl⟩
        rw [hh.out, endL_hit hlt (by rw [hn'.out]; omega)]
      · refine ⟨⟨k + 1, rfl, by omega, ?_⟩, by simp [intOf]; omega⟩
        exact hh.out.trans (endL_step hlt (by rw [hn'.out]; omega))
    · have hv := Lib.hid (hh.out.trans (endL_out (by omega)))
      go_wp2
      go_ret
      rw [hv.out]
      exact ⟨rfl, rfl⟩

def rmL (l : List UInt8) : List UInt8 × Bool := if kindL l = 2 then (codeL (valL 16 (l.drop 2)).1, (valL 16 (l.drop 2)).2) else if kindL l = 1 then (codeL (valL 10 l.tail).1, (valL 10 l.tail).2) else namedL l
theorem val_dig (b : Nat) (l : List UInt8) : (valL b l).2 = digitsL b l := by
  unfold valL digitsL
  split
  · rename_i h
    rw [h, Bool.true_and]
  · rename_i h
    have h : l.all (fun c => digN b c.toNat) = false := by simpa using h
    rw [h]
    rfl
theorem val_code {b : Nat} {l : List UInt8} (h : digitsL b l = true) : codeL (valL b l).1 = codeL (numN b l) := by
  unfold digitsL at h
  rw [Bool.and_eq_true] at h
  unfold valL
  rw [if_pos h.1]
  by_cases hc : (numN b l : Int) ≤ 1114112
  · rw [Int.min_eq_left hc]
  · rw [Int.min_eq_right (by omega), codeL_big _ (by omega), codeL_big _ (by omega)]
theorem rm_is (l : List UInt8) : (rmL l).2 = (meantL l).2 := by
  unfold rmL meantL codedL
  split
  · simp only [val_dig]; split <;> simp_all
  · split
    · simp only [val_dig]; split <;> simp_all
    · rfl
theorem rm_what {l : List UInt8} (h : (meantL l).2 = true) : (rmL l).1 = (meantL l).1 := by
  unfold meantL codedL at h
  unfold rmL meantL codedL
  split at h
  · split at h
    · rename_i h1 h2
      rw [if_pos h1, if_pos h1, if_pos h2]
      exact val_code h2
    · cases h
  · rename_i h0
    rw [if_neg h0, if_neg h0]
    split at h
    · split at h
      · rename_i h1 h2
        rw [if_pos h1, if_pos h1, if_pos h2]
        exact val_code h2
      · cases h
    · rename_i h1
      rw [if_neg h1, if_neg h1]
theorem val_bd (b : Nat) (l : List UInt8) : 0 ≤ (valL b l).1 ∧ (valL b l).1 ≤ 1114112 := by
  unfold valL
  split
  · simp only; omega
  · simp
theorem kind2 {l : List UInt8} (h : 1 < l.length) (h0 : l[0].toNat = 35) (h1 : l[1].toNat = 120 ∨ l[1].toNat = 88) : kindL l = 2 := by
  match l, h, h0, h1 with
  | a :: b :: r, _, h0, h1 =>
    have ha : a = 35 := u8_eq (n := 35) h0 (by decide)
    subst ha
    rcases h1 with h1 | h1
    · have hb : b = 120 := u8_eq (n := 120) h1 (by decide)
      subst hb
      simp [kindL, Lib.hasPrefix, List.isPrefixOf]
    · have hb : b = 88 := u8_eq (n := 88) h1 (by decide)
      subst hb
      simp [kindL, Lib.hasPrefix, List.isPrefixOf]
theorem kind1 {l : List UInt8} (h : 0 < l.length) (h0 : l[0].toNat = 35) (h1 : ∀ (hh : 1 < l.length), l[1].toNat ≠ 120 ∧ l[1].toNat ≠ 88) : kindL l = 1 := by
  match l, h, h0, h1 with
  | [a], _, h0, _ =>
    have ha : a = 35 := u8_eq (n := 35) h0 (by decide)
    subst ha
    decide
  | a :: b :: r, _, h0, h1 =>
    have ha : a = 35 := u8_eq (n := 35) h0 (by decide)
    subst ha
    obtain ⟨k1, k2⟩ := h1 (by simp)
    have n1 : (120 : UInt8) ≠ b := fun e => k1 (by simp [← e])
    have n2 : (88 : UInt8) ≠ b := fun e => k2 (by simp [← e])
    simp [kindL, Lib.hasPrefix, List.isPrefixOf, n1, n2]
theorem kind0 {l : List UInt8} (h : ∀ (hh : 0 < l.length), l[0].toNat ≠ 35) : kindL l = 0 := by
  match l, h with
  | [], _ => decide
  | a :: r, h =>
    have n1 : (35 : UInt8) ≠ a := fun e => h (by simp) (by simp [← e])
    simp [kindL, Lib.hasPrefix, List.isPrefixOf, n1]

set_option maxHeartbeats 1000000 in
set_option maxRecDepth 100000 in
theorem rmeant_c (l : List UInt8) (hl : l.length ≤ 1000000000) (w : World) :
    Calls Tryz.prog 131 #[.string ⟨l.toArray⟩] w fun e w' => e = .returned (.tuple #[.string ⟨(rmL l).1.toArray⟩, .bool (rmL l).2]) ∧ Below w.heap.size w w' := by
  have v10 := Lib.hid (fun W => rvalue_10 l.tail (by have := List.length_tail (l := l); omega) W)
  have v16 := Lib.hid (fun W => rvalue_16 (l.drop 2) (by have := List.length_drop (l := l) (i := 2); omega) W)
  by_cases h0 : 0 < l.length
  · obtain ⟨c, hc⟩ : ∃ c, l[0] = c := ⟨_, rfl⟩
    by_cases h35 : c.toNat = 35
    · have t35 : ((c.toNat : Int) == 35) = true := by rw [beq_iff_eq]; omega
      by_cases h1 : 1 < l.length
      · obtain ⟨d, hd⟩ : ∃ d, l[1] = d := ⟨_, rfl⟩
        by_cases hx : d.toNat = 120 ∨ d.toNat = 88
        · have hk : rmL l = (codeL (valL 16 (l.drop 2)).1, (valL 16 (l.drop 2)).2) := by
            unfold rmL
            rw [if_pos (kind2 h1 (by rw [hc]; exact h35) (by rw [hd]; exact hx))]
          rw [hk]
          have hbd := val_bd 16 (l.drop 2)
          obtain ⟨b0, b1⟩ := hbd
          have cc := Lib.hid (fun W => rcode_c (valL 16 (l.drop 2)).1 (by omega) (by omega) W)
          clear hk h35
          generalize valL 10 l.tail = r1 at *
          obtain ⟨r1, r1'⟩ := r1
          generalize valL 16 (l.drop 2) = r at *
          obtain ⟨r, r'⟩ := r
          simp only at v10 v16 cc b0 b1
          generalize codeL r = cr at *
          have hx' : ((d.toNat : Int) == 120) = true ∨ (((d.toNat : Int) == 120) = false ∧ ((d.toNat : Int) == 88) = true) := by
            rcases hx with hx | hx
            · left; rw [beq_iff_eq]; omega
            · right; exact ⟨by rw [beq_eq_false_iff_ne]; omega, by rw [beq_iff_eq]; omega⟩
          clear hx
          rcases hx' with hx | ⟨hx, hx2⟩
          all_goals
            go_enter Tryz.func131, Tryz.ntmps131
            go_wp2_with (first
              | (go_at_call 163; first
                  | ((with_reducible refine (v10.out _).mono ?_); rintro e w1 ⟨rfl, rfl⟩)
                  | ((with_reducible refine (v16.out _).mono ?_); rintro e w1 ⟨rfl, rfl⟩))
              | (go_at_call 164; ((with_reducible refine (cc.out _).mono ?_); rintro e w1 ⟨rfl, hb⟩)))
            all_goals first | (exfalso; omega) | skip
            go_ret2
            exact ⟨rfl, hb⟩
        · have hk : rmL l = (codeL (valL 10 l.tail).1, (valL 10 l.tail).2) := by
            have h := kind1 h0 (by rw [hc]; exact h35) (fun _ => by rw [hd]; omega)
            unfold rmL
            rw [if_neg (by rw [h]; decide), if_pos h]
          rw [hk]
          have hbd := val_bd 10 l.tail
          obtain ⟨b0, b1⟩ := hbd
          have cc := Lib.hid (fun W => rcode_c (valL 10 l.tail).1 (by omega) (by omega) W)
          have x1 : ((d.toNat : Int) == 120) = false := by rw [beq_eq_false_iff_ne]; omega
          have x2 : ((d.toNat : Int) == 88) = false := by rw [beq_eq_false_iff_ne]; omega
          clear hk h35 hx v16
          generalize valL 10 l.tail = r at *
          obtain ⟨r, r'⟩ := r
          simp only at v10 cc b0 b1
          generalize codeL r = cr at *
          go_enter Tryz.func131, Tryz.ntmps131
          go_wp2_with (first
            | (go_at_call 163; ((with_reducible refine (v10.out _).mono ?_); rintro e w1 ⟨rfl, rfl⟩))
            | (go_at_call 164; ((with_reducible refine (cc.out _).mono ?_); rintro e w1 ⟨rfl, hb⟩)))
          all_goals first | (exfalso; omega) | skip
          go_ret2
          exact ⟨rfl, hb⟩
      · have hk : rmL l = (codeL (valL 10 l.tail).1, (valL 10 l.tail).2) := by
          have h := kind1 h0 (by rw [hc]; exact h35) (fun hh => absurd hh h1)
          unfold rmL
          rw [if_neg (by rw [h]; decide), if_pos h]
        rw [hk]
        have hbd := val_bd 10 l.tail
        obtain ⟨b0, b1⟩ := hbd
        have cc := Lib.hid (fun W => rcode_c (valL 10 l.tail).1 (by omega) (by omega) W)
        clear hk h35 v16
        generalize valL 10 l.tail = r at *
        obtain ⟨r, r'⟩ := r
        simp only at v10 cc b0 b1
        generalize codeL r = cr at *
        go_enter Tryz.func131, Tryz.ntmps131
        go_wp2_with (first
          | (go_at_call 163; ((with_reducible refine (v10.out _).mono ?_); rintro e w1 ⟨rfl, rfl⟩))
          | (go_at_call 164; ((with_reducible refine (cc.out _).mono ?_); rintro e w1 ⟨rfl, hb⟩)))
        all_goals first | (exfalso; omega) | skip
        go_ret2
        exact ⟨rfl, hb⟩
    · have t35 : ((c.toNat : Int) == 35) = false := by rw [beq_eq_false_iff_ne]; omega
      have hk : rmL l = namedL l := by
        have h := kind0 (l := l) (fun _ => by rw [hc]; exact h35)
        unfold rmL
        rw [if_neg (by rw [h]; decide), if_neg (by rw [h]; decide)]
      rw [hk]
      have cn := Lib.hid (fun W => rnamed_c l W)
      clear hk h35 v10 v16
      generalize namedL l = r at *
      obtain ⟨r, r'⟩ := r
      simp only at cn
      go_enter Tryz.func131, Tryz.ntmps131
      go_wp2_with (go_at_call 165; ((with_reducible refine (cn.out _).mono ?_); rintro e w1 ⟨rfl, hb⟩))
      all_goals first | (exfalso; omega) | skip
      go_ret2
      exact ⟨rfl, hb⟩
  · have hk : rmL l = namedL l := by
      have h := kind0 (l := l) (fun hh => absurd hh h0)
      unfold rmL
      rw [if_neg (by rw [h]; decide), if_neg (by rw [h]; decide)]
    rw [hk]
    have cn := Lib.hid (fun W => rnamed_c l W)
    clear hk v10 v16
    generalize namedL l = r at *
    obtain ⟨r, r'⟩ := r
    simp only at cn
    go_enter Tryz.func131, Tryz.ntmps131
    go_wp2_with (go_at_call 165; ((with_reducible refine (cn.out _).mono ?_); rintro e w1 ⟨rfl, hb⟩))
    all_goals first | (exfalso; omega) | skip
    go_ret2
    exact ⟨rfl, hb⟩
end Go.Proofs.YtdnbaliibiginaaGreatDoor

/- Contract of boltingref03.Decode: a text with characters in the place of their references, as refs has it. Nothing that lay in memory turns. -/
namespace Go.Proofs.YtdnbaliibiginaaGreatDoor
open Go.RowKit Go.Proofs

/-- append(b, c): a byte onto a row of bytes of the call's own; the byte lies in a new block. -/
theorem app_byte {w : World} {ops : Array Oper} {rest : List Oper} {o : Oper} {a : Act} {Q : Exit → Act → World → Prop} (hgd : o.guard = none) (sl x : Operand)
    (ho : o.op = .call { callee := .builtin .append, args := #[sl, x], argTypes := #[87, 87] })
    (base : Nat) (v : Value) (l : List UInt8) (c : UInt8) (hs : a.eval sl = v) (hown : Bts w base v l) (hx : a.eval x = .slice (some ⟨w.heap.size, 0, none⟩) 1 1)
    (hlen : l.length + 1 ≤ 100000000000000) (hbase : base ≤ w.heap.size)
    (h : ∀ v' w', Bts w' base v' (l ++ [c]) → Below base w w' → w.heap.size ≤ w'.heap.size → wpList Tryz.prog ops Q rest (a.put o.dst v') w') : wpList Tryz.prog ops Q (o :: rest) a (w.alloc (.cells #[.int .u8 c.toNat] 5)) := by
  obtain ⟨i0, hi, hz0, hz1, hz2⟩ := byteInfo
  refine wpList_append_own _ hgd sl x 87 ho base 5 i0 (.int .u8 0) 1 1 Tryz.underlying87 hi hz0 hz1 hz2 rfl (by decide) v l.length (Lib.byteCells l) hs (World.ownsRow.alloc hown _) ⟨w.heap.size, 0, none⟩ 1 1 [.int .u8 c.toNat] hx rfl ?_ ?_ (by unfold maxLen; omega) (by omega) (by simp; omega) ?_
  · intro j u hj
    match j, hj with
    | 0, hj =>
      simp at hj
      subst hj
      rw [show (⟨w.heap.size, 0, none⟩ : Addr).add 0 = ⟨w.heap.size, 0, none⟩ from rfl, Lib.cell_of_heap (new_cells _ _ _)]
      rfl
  · intro u hu
    simp at hu
    subst hu
    rfl
  · intro v' w' hown' hgrow _
    have hsz := hgrow.size
    simp at hsz
    refine h v' w' ?_ ?_ (by omega)
    · unfold Bts
      rw [Lib.byteCells_append, show Lib.byteCells [c] = [.int .u8 c.toNat] from rfl]
      simpa using hown'
    · exact ((Below.refl base w).alloc hbase _).grown hgrow (by simp; omega) (fun k hk => own_base hown hk)

theorem cut_cons {c : UInt8} {l : List UInt8} (h : c ≠ 59) : cut1 59 (c :: l) = (c :: (cut1 59 l).1, (cut1 59 l).2.1, (cut1 59 l).2.2) := by rw [cut1, if_neg h]
theorem drop_at {l : List UInt8} {k : Nat} {c : UInt8} (hk : k < l.length) (hc : l[k] = c) : l.drop k = c :: l.drop (k + 1) := by rw [← hc]; exact List.drop_eq_getElem_cons hk
theorem take_cut {r : List UInt8} (hf : (cut1 59 r).2.2 = true) : r.take (cut1 59 r).1.length = (cut1 59 r).1 := by
  have h := cut1_yes hf
  generalize cut1 59 r = t at *
  subst h
  simp
theorem drop_cut0 {r : List UInt8} (hf : (cut1 59 r).2.2 = true) : r.drop ((cut1 59 r).1.length + 1) = (cut1 59 r).2.1 := by
  have h := cut1_yes hf
  generalize cut1 59 r = t at *
  subst h
  simp
theorem ext_cut {l : List UInt8} {k : Nat} (hf : (cut1 59 (l.drop (k + 1))).2.2 = true) : (⟨l.toArray⟩ : ByteArray).extract (k + 1) (k + 1 + (cut1 59 (l.drop (k + 1))).1.length) = ⟨(cut1 59 (l.drop (k + 1))).1.toArray⟩ := by
  rw [Lib.extract_eq, mk_data_list, Nat.add_sub_cancel_left, take_cut hf]
theorem drop_cut {l : List UInt8} {k : Nat} (hf : (cut1 59 (l.drop (k + 1))).2.2 = true) : l.drop (k + 1 + (cut1 59 (l.drop (k + 1))).1.length + 1) = (cut1 59 (l.drop (k + 1))).2.1 := by
  rw [Nat.add_assoc, ← List.drop_drop, drop_cut0 hf]
theorem app_38 {w : World} {ops : Array Oper} {rest : List Oper} {o : Oper} {a : Act} {Q : Exit → Act → World → Prop} (hgd : o.guard = none) (sl x : Operand)
    (ho : o.op = .call { callee := .builtin .append, args := #[sl, x], argTypes := #[87, 87] })
    (base : Nat) (v : Value) (l : List UInt8) (hs : a.eval sl = v) (hown : Bts w base v l) (hx : a.eval x = .slice (some ⟨w.heap.size, 0, none⟩) 1 1)
    (hlen : l.length + 1 ≤ 100000000000000) (hbase : base ≤ w.heap.size)
    (h : ∀ v' w', Bts w' base v' (l ++ [38]) → Below base w w' → w.heap.size ≤ w'.heap.size → wpList Tryz.prog ops Q rest (a.put o.dst v') w') : wpList Tryz.prog ops Q (o :: rest) a (w.alloc (.cells #[.int .u8 38] 5)) :=
  app_byte hgd sl x ho base v l 38 hs hown hx hlen hbase h

set_option maxHeartbeats 1000000 in
set_option maxRecDepth 100000 in
theorem rdecode_c (l : List UInt8) (hl : l.length ≤ 1000000000) (w : World) :
    Calls Tryz.prog 81 #[.string ⟨l.toArray⟩] w fun e w' => e = .returned (.string ⟨(decL l).toArray⟩) ∧ Below w.heap.size w w' := by
  go_enter Tryz.func81, Tryz.ntmps81
  go_wp2
  go_loopw [3, 4] (fun vb vi wr => ∃ (k : Nat) (acc : List UInt8), vi = .int .i64 k ∧ k ≤ l.length ∧ Bts wr w.heap.size vb acc ∧ Below w.heap.size w wr ∧ Hid (decL l = acc ++ decL (l.drop k)) ∧ acc.length ≤ 4 * k) (fun _ vi _ => l.length - (intOf vi).toNat)
  case atStart =>
    exact ⟨0, [], rfl, by omega, Bts.new _ _ (Nat.le_refl _), (Below.refl _ w).alloc (Nat.le_refl _) _, rfl, by simp⟩
  case round =>
    obtain ⟨k, acc, rfl, hk, hI, hbw, hdec, hal⟩ := hrel
    have hsz := hbw.size
    by_cases hlt : k < l.length
    · obtain ⟨c, hc⟩ : ∃ c, l[k] = c := ⟨_, rfl⟩
      have hdr := drop_at hlt hc
      have hd0 := hdec.out
      rw [hdr, decL_cons] at hd0
      by_cases h38 : c.toNat = 38
      · have hc38 : c = 38 := u8_eq (n := 38) h38 (by decide)
        subst hc38
        rw [if_pos rfl] at hd0
        have hend : endL l k = if (cut1 59 (l.drop (k + 1))).2.2 then ((k + 1 + (cut1 59 (l.drop (k + 1))).1.length : Nat) : Int) else -1 := by
          unfold endL
          rw [hdr, cut_cons (by decide)]
          simp only [List.length_cons]
          split
          · push_cast; omega
          · rfl
        have hre := Lib.hid (fun W => rend_c l hl k (by omega) W)
        rw [hend] at hre
        clear hend hdec h38
        cases hf : (cut1 59 (l.drop (k + 1))).2.2 with
        | false =>
          rw [hf] at hd0 hre
          have hd := Lib.hid (show decL l = (acc ++ [38]) ++ decL (l.drop (k + 1)) by rw [hd0]; simp)
          have hre2 : Hid (∀ W, Calls Tryz.prog 130 #[.string ⟨l.toArray⟩, .int .i64 k] W fun e w' => e = .returned (.int .i64 (-1)) ∧ W = w') := hre
          clear hd0 hdr hf hre
          go_wp2_with (first
            | (go_at_call 130; ((with_reducible refine (hre2.out _).mono ?_); rintro e w1 ⟨rfl, rfl⟩))
            | (at_builtin; refine app_38 rfl _ _ rfl w.heap.size _ acc rfl hI rfl (by omega) hsz ?_; intro v' w5 hI5 hb5 hz5))
          refine ⟨⟨k + 1, acc ++ [38], rfl, by omega, hI5, hbw.trans hb5, hd, by simp; omega⟩, by simp [intOf]; omega⟩
        | true =>
          have hx := ext_cut hf
          have hdc := drop_cut hf
          have hlen := cut1_len 59 (l.drop (k + 1))
          rw [hf] at hd0 hre
          rw [if_pos hf, List.length_drop] at hlen
          have hml := meantL_len (cut1 59 (l.drop (k + 1))).1
          have his := rm_is (cut1 59 (l.drop (k + 1))).1
          have hwh := @rm_what (cut1 59 (l.drop (k + 1))).1
          generalize hb : (cut1 59 (l.drop (k + 1))).1 = b at *
          generalize (cut1 59 (l.drop (k + 1))).2.1 = aft at *
          obtain ⟨e, he⟩ : ∃ e, k + 1 + b.length = e := ⟨_, rfl⟩
          rw [he] at hx hdc hre
          have hre2 : Hid (∀ W, Calls Tryz.prog 130 #[.string ⟨l.toArray⟩, .int .i64 k] W fun e' w' => e' = .returned (.int .i64 e) ∧ W = w') := hre
          have he1 : k + 1 ≤ e := by omega
          have he2 : e + 1 ≤ l.length := by omega
          have hrm := Lib.hid (fun W => rmeant_c b (by omega) W)
          clear hre hdr hf hb he hlen
          have hdc := Lib.hid hdc
          rename_i hdc0
          clear hdc0
          cases hm : (meantL b).2 with
          | false =>
            rw [hm] at hd0 his
            rw [his] at hrm
            have hd := Lib.hid (show decL l = (acc ++ [38]) ++ decL (l.drop (k + 1)) by rw [hd0]; simp)
            clear hd0 hm his hwh hml
            generalize (rmL b).1 = t at *
            go_wp2_with (first
              | (go_at_call 130; ((with_reducible refine (hre2.out _).mono ?_); rintro e w1 ⟨rfl, rfl⟩))
              | (go_at_call 131; ((with_reducible refine (hrm.out _).mono ?_); rintro e w1 ⟨rfl, hb1⟩; have hI1 := hI.below hb1; have hbw1 := below_then hbw hsz hb1; have hsz1 := hbw1.size))
              | (at_builtin; refine app_38 rfl _ _ rfl w.heap.size _ acc rfl hI1 rfl (by omega) hsz1 ?_; intro v' w5 hI5 hb5 hz5))
            refine ⟨⟨k + 1, acc ++ [38], rfl, by omega, hI5, hbw1.trans hb5, hd, by simp; omega⟩, by simp [intOf]; omega⟩
          | true =>
            rw [hm] at hd0 his
            rw [his, hwh hm] at hrm
            have hd := Lib.hid (show decL l = (acc ++ (meantL b).1) ++ decL (l.drop (e + 1)) by rw [hd0, hdc.out]; simp)
            clear hd0 hm his hwh
            generalize (meantL b).1 = t at *
            go_wp2_with (first
              | (go_at_call 130; ((with_reducible refine (hre2.out _).mono ?_); rintro e w1 ⟨rfl, rfl⟩))
              | (go_at_call 131; ((with_reducible refine (hrm.out _).mono ?_); rintro e w1 ⟨rfl, hb1⟩; have hI1 := hI.below hb1; have hbw1 := below_then hbw hsz hb1; have hsz1 := hbw1.size))
              | (at_builtin; refine app_text rfl _ _ rfl w.heap.size _ acc t rfl hI1 rfl (by omega) hsz1 ?_; intro v' w5 hI5 hb5 hz5))
            refine ⟨⟨e + 1, acc ++ t, rfl, by omega, hI5, hbw1.trans hb5, hd, by simp; omega⟩, by simp [intOf]; omega⟩
      · have hne : c ≠ 38 := fun e => h38 (by rw [e]; rfl)
        rw [if_neg hne] at hd0
        have hd := Lib.hid (show decL l = (acc ++ [c]) ++ decL (l.drop (k + 1)) by rw [hd0]; simp)
        have hcb : ((c.toNat : Int) == 38) = false := by rw [beq_eq_false_iff_ne]; omega
        clear hd0 hdr hdec h38 hne
        go_wp2_with (at_builtin; refine app_byte rfl (.tmp 37) (.tmp 41) rfl w.heap.size _ acc c rfl hI rfl (by omega) hsz ?_; intro v' w5 hI5 hb5 hz5)
        refine ⟨⟨k + 1, acc ++ [c], rfl, by omega, hI5, hbw.trans hb5, hd, by simp; omega⟩, by simp [intOf]; omega⟩
    · have hd : decL l = acc := by
        rw [hdec.out, List.drop_eq_nil_of_le (by omega), decL_nil]
        simp
      have hd := Lib.hid hd
      rename_i hd0
      clear hd0
      have hcv := conv_own hI
      go_wp2
      go_ret
      rw [hd.out]
      exact ⟨rfl, hbw⟩
end Go.Proofs.YtdnbaliibiginaaGreatDoor

/- What TokenIns and the document's In call, given to the printed walks: the fixed answers, token.In, the document's Lower and Decode. -/
namespace Go.Proofs.YtdnbaliibiginaaGreatDoorH.TI
open Go.RowKit Go.Proofs Go.Proofs.YtdnbaliibiginaaGreatDoor Go.Proofs.YtdnbaliibiginaaGreatDoorW.PrintWords

theorem mk_toList (a : ByteArray) : (⟨a.data.toList.toArray⟩ : ByteArray) = a := by cases a; simp
def boltinglaw06_fixed.f : Option Bool := some true
theorem boltinglaw06_fixed.calls (r : Bool) (w : World) (h : boltinglaw06_fixed.f = some r) (hS_ : Std w) :
    Calls Tryz.prog 14 #[] w fun e w' => e = .returned (.bool r) ∧ Below w.heap.size w w' := by
  obtain rfl : true = r := Option.some.inj h
  exact fixed6_c w hS_
def token_In.f (a0 a1 : ByteArray) : Option (List S59) := if a0.size ≤ 900000000 then some ((inL a0.data.toList a1.data.toList).map tokT) else none
theorem token_In.calls (a0 a1 : ByteArray) (r : List S59) (w : World) (h : token_In.f a0 a1 = some r) (hS_ : Std w) :
    Calls Tryz.prog 15 #[.string a0, .string a1] w fun e w' => ∃ v0_ : Value, e = .returned v0_ ∧ Kd.R k59 59 w' w.heap.size (fun _ => True) v0_ r ∧ Below w.heap.size w w' := by
  unfold token_In.f at h
  split at h
  · rename_i hz
    obtain rfl := Option.some.inj h
    have := in_any a0.data.toList a1.data.toList hz w hS_
    rw [mk_toList, mk_toList] at this
    exact this.mono fun e w' ⟨v, h1, h2, h3⟩ => ⟨v, h1, R_of_toks h2, h3⟩
  · cases h
def boltingref02_Lower.f (a0 : ByteArray) : Option ByteArray := if a0.size ≤ 1000000000 then some ⟨(lowL a0.data.toList).toArray⟩ else none
theorem boltingref02_Lower.calls (a0 r : ByteArray) (w : World) (h : boltingref02_Lower.f a0 = some r) :
    Calls Tryz.prog 84 #[.string a0] w fun e w' => e = .returned (.string r) ∧ Below w.heap.size w w' := by
  unfold boltingref02_Lower.f at h
  split at h
  · rename_i hz
    obtain rfl := Option.some.inj h
    have := rlower_c a0.data.toList hz w
    rwa [mk_toList] at this
  · cases h
def boltingref03_Decode.f (a0 : ByteArray) : Option ByteArray := if a0.size ≤ 1000000000 then some ⟨(decL a0.data.toList).toArray⟩ else none
theorem boltingref03_Decode.calls (a0 r : ByteArray) (w : World) (h : boltingref03_Decode.f a0 = some r) :
    Calls Tryz.prog 81 #[.string a0] w fun e w' => e = .returned (.string r) ∧ Below w.heap.size w w' := by
  unfold boltingref03_Decode.f at h
  split at h
  · rename_i hz
    obtain rfl := Option.some.inj h
    have := rdecode_c a0.data.toList hz w
    rwa [mk_toList] at this
  · cases h
end Go.Proofs.YtdnbaliibiginaaGreatDoorH.TI

-- Walks of Go functions by a program (wip/hook/hook.py over the kit's printer): each as a Lean function, and that the call comes to what it tells. Not trusted: Lean checks it.
namespace Go.Proofs.YtdnbaliibiginaaGreatDoorH.TI
open Go.RowKit Go.Proofs.YtdnbaliibiginaaGreatDoorW.PrintWords Go.Proofs.YtdnbaliibiginaaGreatDoorW.PrintLast Go.Proofs.YtdnbaliibiginaaGreatDoorW.PrintMore
attribute [local go_sem] max2_int min2_int max_two min_two max_three min_three max_four min_four   -- for this text's walks alone

/-! ### boltingref02_Space: function 85 -/
def boltingref02_Space.f (a0 : Int) : Option (Bool) := if a0 = 32 then (some true) else (if a0 = 9 then (some true) else (if a0 = 10 then (some true) else (if a0 = 12 then (some true) else (some (a0 == 13)))))
set_option maxHeartbeats 8000000 in
set_option maxRecDepth 100000 in
theorem boltingref02_Space.calls (a0 : Int) (r : Bool) (w : World) (h : boltingref02_Space.f a0 = some r) :
    Calls Tryz.prog 85 #[.int .u8 a0] w fun e w' => e = .returned (.bool r) ∧ Drawn0 w w' := by
  have H : (if a0 = 32 then (some true) else (if a0 = 9 then (some true) else (if a0 = 10 then (some true) else (if a0 = 12 then (some true) else (some (a0 == 13)))))) = some r := h
  clear h
  by_cases c2 : a0 = 32
  · rw [if_pos c2] at H
    have c2b0 : (a0 == 32) = true := beq_iff_eq.mpr c2
    have c2b1 : (a0 != 32) = false := bne_eq_false_iff_eq.mpr c2
    clear c2
    obtain rfl := Option.some.inj H
    go_enter Tryz.func85, Tryz.ntmps85
    go_wp2
    go_ret
    exact ⟨by first | rfl | (simp; done) | (simp [*]; done), by repeat (first | exact Drawn0.refl _ | apply Drawn0.step)⟩
  · rw [if_neg c2] at H
    have c2b0 : (a0 == 32) = false := beq_eq_false_iff_ne.mpr c2
    have c2b1 : (a0 != 32) = true := bne_iff_ne.mpr c2
    by_cases c3 : a0 = 9
    · rw [if_pos c3] at H
      have c3b0 : (a0 == 9) = true := beq_iff_eq.mpr c3
      have c3b1 : (a0 != 9) = false := bne_eq_false_iff_eq.mpr c3
      clear c3
      obtain rfl := Option.some.inj H
      go_enter Tryz.func85, Tryz.ntmps85
      go_wp2
      go_ret
      exact ⟨by first | rfl | (simp; done) | (simp [*]; done), by repeat (first | exact Drawn0.refl _ | apply Drawn0.step)⟩
    · rw [if_neg c3] at H
      have c3b0 : (a0 == 9) = false := beq_eq_false_iff_ne.mpr c3
      have c3b1 : (a0 != 9) = true := bne_iff_ne.mpr c3
      by_cases c4 : a0 = 10
      · rw [if_pos c4] at H
        have c4b0 : (a0 == 10) = true := beq_iff_eq.mpr c4
        have c4b1 : (a0 != 10) = false := bne_eq_false_iff_eq.mpr c4
        clear c4
        obtain rfl := Option.some.inj H
        go_enter Tryz.func85, Tryz.ntmps85
        go_wp2
        go_ret
        exact ⟨by first | rfl | (simp; done) | (simp [*]; done), by repeat (first | exact Drawn0.refl _ | apply Drawn0.step)⟩
      · rw [if_neg c4] at H
        have c4b0 : (a0 == 10) = false := beq_eq_false_iff_ne.mpr c4
        have c4b1 : (a0 != 10) = true := bne_iff_ne.mpr c4
        by_cases c5 : a0 = 12
        · rw [if_pos c5] at H
          have c5b0 : (a0 == 12) = true := beq_iff_eq.mpr c5
          have c5b1 : (a0 != 12) = false := bne_eq_false_iff_eq.mpr c5
          clear c5
          obtain rfl := Option.some.inj H
          go_enter Tryz.func85, Tryz.ntmps85
          go_wp2
          go_ret
          exact ⟨by first | rfl | (simp; done) | (simp [*]; done), by repeat (first | exact Drawn0.refl _ | apply Drawn0.step)⟩
        · rw [if_neg c5] at H
          have c5b0 : (a0 == 12) = false := beq_eq_false_iff_ne.mpr c5
          have c5b1 : (a0 != 12) = true := bne_iff_ne.mpr c5
          obtain rfl := Option.some.inj H
          go_enter Tryz.func85, Tryz.ntmps85
          go_wp2
          go_ret
          exact ⟨by first | rfl | (simp; done) | (simp [*]; done), by repeat (first | exact Drawn0.refl _ | apply Drawn0.step)⟩

/-! ### boltingref06_stops: function 83 -/
def boltingref06_stops.f (a0 : Int) : Option (Bool) := (boltingref02_Space.f a0).bind fun t101 => (if t101 = true then (some true) else (if a0 = 47 then (some true) else (some (a0 == 62))))
set_option maxHeartbeats 8000000 in
set_option maxRecDepth 100000 in
theorem boltingref06_stops.calls (a0 : Int) (r : Bool) (w : World) (h : boltingref06_stops.f a0 = some r) :
    Calls Tryz.prog 83 #[.int .u8 a0] w fun e w' => e = .returned (.bool r) ∧ Drawn0 w w' := by
  have H : ((boltingref02_Space.f a0).bind fun t101 => (if t101 = true then (some true) else (if a0 = 47 then (some true) else (some (a0 == 62))))) = some r := h
  clear h
  replace H := Option.bind_eq_some_iff.mp H
  obtain ⟨t101, A20, H⟩ := H
  replace H : (if t101 = true then (some true) else (if a0 = 47 then (some true) else (some (a0 == 62)))) = some r := H
  have A2 := Aside0.mk A20
  clear A20
  by_cases c3 : t101 = true
  · subst c3
    have H1 : (some true) = some r := by rw [if_pos rfl] at H; exact H
    clear H
    have H := H1
    clear H1
    obtain rfl := Option.some.inj H
    go_enter Tryz.func83, Tryz.ntmps83
    go_wp2_with (first | ((with_reducible refine gate_callee (f := 85) rfl ?_); refine goesL_ (some 4) rfl rfl Tryz.func85 (by kernel_rfl) rfl #[.int .u8 a0] rfl (by (try simp only [List.map_toArray, List.map_cons, List.map_nil]); first | done | rfl | (simp only [List.length_drop, List.length_take]; rfl)) ?_; (with_reducible refine (boltingref02_Space.calls a0 true _ A2.out).mono ?_); rintro e w' ⟨rfl, ⟨nd, rfl⟩⟩; refine ⟨_, rfl, ?_⟩))
    go_ret
    exact ⟨by first | rfl | (simp; done) | (simp [*]; done), by repeat (first | exact Drawn0.refl _ | apply Drawn0.step)⟩
  · replace c3 := Bool.eq_false_iff.mpr c3
    subst c3
    have H1 : (if a0 = 47 then (some true) else (some (a0 == 62))) = some r := by rw [if_neg (show ¬ (false = true) by decide)] at H; first | exact H | (simp only [eq_self] at H ⊢; exact H) | (simp only [eq_self, if_true] at H ⊢; exact H)
    clear H
    have H := H1
    clear H1
    by_cases c4 : a0 = 47
    · rw [if_pos c4] at H
      have c4b0 : (a0 == 47) = true := beq_iff_eq.mpr c4
      have c4b1 : (a0 != 47) = false := bne_eq_false_iff_eq.mpr c4
      clear c4
      obtain rfl := Option.some.inj H
      go_enter Tryz.func83, Tryz.ntmps83
      go_wp2_with (first | ((with_reducible refine gate_callee (f := 85) rfl ?_); refine goesL_ (some 4) rfl rfl Tryz.func85 (by kernel_rfl) rfl #[.int .u8 a0] rfl (by (try simp only [List.map_toArray, List.map_cons, List.map_nil]); first | done | rfl | (simp only [List.length_drop, List.length_take]; rfl)) ?_; (with_reducible refine (boltingref02_Space.calls a0 false _ A2.out).mono ?_); rintro e w' ⟨rfl, ⟨nd, rfl⟩⟩; refine ⟨_, rfl, ?_⟩))
      go_ret
      exact ⟨by first | rfl | (simp; done) | (simp [*]; done), by repeat (first | exact Drawn0.refl _ | apply Drawn0.step)⟩
    · rw [if_neg c4] at H
      have c4b0 : (a0 == 47) = false := beq_eq_false_iff_ne.mpr c4
      have c4b1 : (a0 != 47) = true := bne_iff_ne.mpr c4
      obtain rfl := Option.some.inj H
      go_enter Tryz.func83, Tryz.ntmps83
      go_wp2_with (first | ((with_reducible refine gate_callee (f := 85) rfl ?_); refine goesL_ (some 4) rfl rfl Tryz.func85 (by kernel_rfl) rfl #[.int .u8 a0] rfl (by (try simp only [List.map_toArray, List.map_cons, List.map_nil]); first | done | rfl | (simp only [List.length_drop, List.length_take]; rfl)) ?_; (with_reducible refine (boltingref02_Space.calls a0 false _ A2.out).mono ?_); rintro e w' ⟨rfl, ⟨nd, rfl⟩⟩; refine ⟨_, rfl, ?_⟩))
      go_ret
      exact ⟨by first | rfl | (simp; done) | (simp [*]; done), by repeat (first | exact Drawn0.refl _ | apply Drawn0.step)⟩

/-! ### boltingref06_at: function 40 -/
def boltingref06_at.f (a0 : ByteArray) (a1 : Int) (a2 : ByteArray) : Option (Bool) := if a1 ≥ 0 then (if (wrap64 (a1 + (a2.size : Int))) ≤ (a0.size : Int) then (if 0 ≤ a1 then (if a1 ≤ (wrap64 (a1 + (a2.size : Int))) then (some ((a0.extract (a1 : Int).toNat ((wrap64 (a1 + (a2.size : Int))) : Int).toNat).toList == a2.toList)) else (none)) else (none)) else (some false)) else (some false)
set_option maxHeartbeats 8000000 in
set_option maxRecDepth 100000 in
theorem boltingref06_at.calls (a0 : ByteArray) (a1 : Int) (a2 : ByteArray) (r : Bool) (w : World) (h : boltingref06_at.f a0 a1 a2 = some r) :
    Calls Tryz.prog 40 #[.string a0, .int .i64 a1, .string a2] w fun e w' => e = .returned (.bool r) ∧ Drawn0 w w' := by
  have H : (if a1 ≥ 0 then (if (wrap64 (a1 + (a2.size : Int))) ≤ (a0.size : Int) then (if 0 ≤ a1 then (if a1 ≤ (wrap64 (a1 + (a2.size : Int))) then (some ((a0.extract (a1 : Int).toNat ((wrap64 (a1 + (a2.size : Int))) : Int).toNat).toList == a2.toList)) else (none)) else (none)) else (some false)) else (some false)) = some r := h
  clear h
  by_cases c4 : a1 ≥ 0
  · rw [if_pos c4] at H
    have c4b0 : decide (0 ≤ a1) = true := decide_eq_true c4
    clear c4
    by_cases c5 : (wrap64 (a1 + (a2.size : Int))) ≤ (a0.size : Int)
    · rw [if_pos c5] at H
      have c5b0 : decide ((wrap64 (a1 + (a2.size : Int))) ≤ (a0.size : Int)) = true := decide_eq_true c5
      clear c5
      by_cases c6 : 0 ≤ a1
      · rw [if_pos c6] at H
        have c6b0 := eq_true c6
        have c6b1 : decide (0 ≤ a1) = true := decide_eq_true c6
        clear c6
        by_cases c7 : a1 ≤ (wrap64 (a1 + (a2.size : Int)))
        · rw [if_pos c7] at H
          have c7b0 := eq_true c7
          have c7b1 : decide (a1 ≤ (wrap64 (a1 + (a2.size : Int)))) = true := decide_eq_true c7
          have c8b0 := eq_true ((by first | exact of_decide_eq_true (by first | (with_reducible assumption) | assumption) | assumption | omega) : (wrap64 (a1 + (a2.size : Int))) ≤ (a0.size : Int))
          obtain rfl := Option.some.inj H
          go_enter Tryz.func40, Tryz.ntmps40
          go_wp2
          go_ret
          exact ⟨by first | rfl | (simp; done) | (simp [*]; done), by repeat (first | exact Drawn0.refl _ | apply Drawn0.step)⟩
        · rw [if_neg c7] at H
          exact absurd H (by simp)
      · rw [if_neg c6] at H
        exact absurd H (by simp)
    · rw [if_neg c5] at H
      have c5b0 : decide ((wrap64 (a1 + (a2.size : Int))) ≤ (a0.size : Int)) = false := decide_eq_false c5
      clear c5
      obtain rfl := Option.some.inj H
      go_enter Tryz.func40, Tryz.ntmps40
      go_wp2
      go_ret
      exact ⟨by first | rfl | (simp; done) | (simp [*]; done), by repeat (first | exact Drawn0.refl _ | apply Drawn0.step)⟩
  · rw [if_neg c4] at H
    have c4b0 : decide (0 ≤ a1) = false := decide_eq_false c4
    clear c4
    obtain rfl := Option.some.inj H
    go_enter Tryz.func40, Tryz.ntmps40
    go_wp2
    go_ret
    exact ⟨by first | rfl | (simp; done) | (simp [*]; done), by repeat (first | exact Drawn0.refl _ | apply Drawn0.step)⟩

/-! ### boltingref06_spaces: function 132 -/
def boltingref06_spaces.l0 : Nat → ByteArray → Int → Option (Int)
  | 0, _, _ => none
  | k + 1, x0, x1 => if x1 < (x0.size : Int) then (if 0 ≤ x1 then ((boltingref02_Space.f (bt x0 x1)).bind fun t102 => (if t102 = true then (boltingref06_spaces.l0 k x0 (wrap64 (x1 + 1))) else (some x1))) else (none)) else (some x1)
def boltingref06_spaces.f (k : Nat) (a0 : ByteArray) (a1 : Int) : Option (Int) := boltingref06_spaces.l0 k a0 a1
theorem boltingref06_spaces.mono_l : ∀ k, (∀ y0 y1, LeO (boltingref06_spaces.l0 k y0 y1) (boltingref06_spaces.l0 (k + 1) y0 y1))
  | 0 => fun _ _ r h => by simp [boltingref06_spaces.l0] at h
  | k + 1 => by
    have ih0 := boltingref06_spaces.mono_l k
    · intro y0 y1
      unfold boltingref06_spaces.l0
      repeat' first
      | (with_reducible exact ih0 _ _)
      | (with_reducible exact LeO.refl _)
      | (with_reducible exact LeO.none _)
      | (with_reducible refine LeO.ite ?_ ?_)
      | (with_reducible refine LeO.bind ?_ (fun _ => ?_))
      | exact ih0 _ _
      | exact LeO.none _
      | refine LeO.ite ?_ ?_
      | refine LeO.bind ?_ (fun _ => ?_)
theorem boltingref06_spaces.mono : ∀ a0 a1 k, LeO (boltingref06_spaces.f k a0 a1) (boltingref06_spaces.f (k + 1) a0 a1) := by
  intro a0 a1 k
  have ih0 := boltingref06_spaces.mono_l k
  unfold boltingref06_spaces.f
  repeat' first
      | (with_reducible exact ih0 _ _)
      | (with_reducible exact LeO.refl _)
      | (with_reducible exact LeO.none _)
      | (with_reducible refine LeO.ite ?_ ?_)
      | (with_reducible refine LeO.bind ?_ (fun _ => ?_))
      | exact ih0 _ _
      | exact LeO.none _
      | refine LeO.ite ?_ ?_
      | refine LeO.bind ?_ (fun _ => ?_)
set_option maxHeartbeats 8000000 in
set_option maxRecDepth 100000 in
theorem boltingref06_spaces.calls (k : Nat) (a0 : ByteArray) (a1 : Int) (r : Int) (w : World) (h : boltingref06_spaces.f k a0 a1 = some r) :
    Calls Tryz.prog 132 #[.string a0, .int .i64 a1] w fun e w' => e = .returned (.int .i64 r) ∧ Drawn0 w w' := by
  have H : (boltingref06_spaces.l0 k a0 a1) = some r := h
  clear h
  have H' := Aside0.mk H
  clear H
  go_enter Tryz.func132, Tryz.ntmps132
  go_wp2
  go_loopg [1] k (fun kq v1 w' => ∃ (x1_1 : Int), v1 = .int .i64 x1_1 ∧ Aside0 (boltingref06_spaces.l0 kq a0 x1_1 = some r) ∧ Aside0 (kq ≤ k) ∧ Drawn0 w w')
  case atStart => exact ⟨(a1), (by first | rfl | (simp; done) | (simp [*]; done)), H', ⟨Nat.le_refl _⟩, by repeat (first | exact Drawn0.refl _ | apply Drawn0.step)⟩
  case round =>
    clear H'
    try clear c1
    try clear p2
    obtain ⟨x1_1, rfl, HA, HK1, ⟨m1, rfl⟩⟩ := hrel
    cases gk with
    | zero => exact absurd HA.out (by simp [boltingref06_spaces.l0])
    | succ k1 =>
      have H := HA.out
      clear HA
      simp only [boltingref06_spaces.l0] at H
      by_cases c3 : x1_1 < (a0.size : Int)
      · rw [if_pos c3] at H
        have c3b0 : decide (x1_1 < (a0.size : Int)) = true := decide_eq_true c3
        clear c3
        by_cases c4 : 0 ≤ x1_1
        · rw [if_pos c4] at H
          have c4b0 : decide (0 ≤ x1_1) = true := decide_eq_true c4
          clear c4
          replace H := Option.bind_eq_some_iff.mp H
          obtain ⟨t102, A60, H⟩ := H
          replace H : (if t102 = true then (boltingref06_spaces.l0 k1 a0 (wrap64 (x1_1 + 1))) else (some x1_1)) = some r := H
          have A6 := Aside0.mk A60
          clear A60
          by_cases c7 : t102 = true
          · subst c7
            have H1 : (boltingref06_spaces.l0 k1 a0 (wrap64 (x1_1 + 1))) = some r := by rw [if_pos rfl] at H; exact H
            clear H
            have H := H1
            clear H1
            have H' := Aside0.mk H
            clear H
            have p5 : 0 ≤ (x1_1 : Int) := (by first | exact of_decide_eq_true (by first | (with_reducible assumption) | assumption) | assumption | omega)
            have q5 : x1_1 < (a0.size : Int) := (by first | exact of_decide_eq_true (by first | (with_reducible assumption) | assumption) | assumption | omega)
            have hx5 := bt_at a0 x1_1
            replace p5 := eq_true p5
            replace q5 := eq_true q5
            go_wp2_with (first | (go_at_call 85; (with_reducible refine (boltingref02_Space.calls (bt a0 x1_1) true _ A6.out).mono ?_); rintro e w' ⟨rfl, ⟨nd, rfl⟩⟩))
            go_roundg k1
            case measure => have := HK1.out; omega
            case rel => exact ⟨(wrap64 (x1_1 + 1)), (by first | rfl | (simp; done) | (simp [*]; done)), H', ⟨by have := HK1.out; omega⟩, by repeat (first | exact Drawn0.refl _ | apply Drawn0.step)⟩
          · replace c7 := Bool.eq_false_iff.mpr c7
            subst c7
            have H1 : (some x1_1) = some r := by rw [if_neg (show ¬ (false = true) by decide)] at H; first | exact H | (simp only [eq_self] at H ⊢; exact H) | (simp only [eq_self, if_true] at H ⊢; exact H)
            clear H
            have H := H1
            clear H1
            obtain rfl := Option.some.inj H
            have p5 : 0 ≤ (x1_1 : Int) := (by first | exact of_decide_eq_true (by first | (with_reducible assumption) | assumption) | assumption | omega)
            have q5 : x1_1 < (a0.size : Int) := (by first | exact of_decide_eq_true (by first | (with_reducible assumption) | assumption) | assumption | omega)
            have hx5 := bt_at a0 x1_1
            replace p5 := eq_true p5
            replace q5 := eq_true q5
            go_wp2_with (first | (go_at_call 85; (with_reducible refine (boltingref02_Space.calls (bt a0 x1_1) false _ A6.out).mono ?_); rintro e w' ⟨rfl, ⟨nd, rfl⟩⟩))
            go_ret
            exact ⟨by first | rfl | (simp; done) | (simp [*]; done), by repeat (first | exact Drawn0.refl _ | apply Drawn0.step)⟩
        · rw [if_neg c4] at H
          exact absurd H (by simp)
      · rw [if_neg c3] at H
        have c3b0 : decide (x1_1 < (a0.size : Int)) = false := decide_eq_false c3
        clear c3
        obtain rfl := Option.some.inj H
        go_wp2
        go_ret
        exact ⟨by first | rfl | (simp; done) | (simp [*]; done), by repeat (first | exact Drawn0.refl _ | apply Drawn0.step)⟩

/-! ### boltingref06_find: function 133 -/
def boltingref06_find.l0 : Nat → ByteArray → Int → ByteArray → Option (Int)
  | 0, _, _, _ => none
  | k + 1, x0, x1, x2 => if x1 < (x0.size : Int) then ((boltingref06_at.f x0 x1 x2).bind fun t103 => (if t103 = true then (some (mn x1 (x0.size : Int))) else (boltingref06_find.l0 k x0 (wrap64 (x1 + 1)) x2))) else (some (mn x1 (x0.size : Int)))
def boltingref06_find.f (k : Nat) (a0 : ByteArray) (a1 : Int) (a2 : ByteArray) : Option (Int) := boltingref06_find.l0 k a0 a1 a2
theorem boltingref06_find.mono_l : ∀ k, (∀ y0 y1 y2, LeO (boltingref06_find.l0 k y0 y1 y2) (boltingref06_find.l0 (k + 1) y0 y1 y2))
  | 0 => fun _ _ _ r h => by simp [boltingref06_find.l0] at h
  | k + 1 => by
    have ih0 := boltingref06_find.mono_l k
    · intro y0 y1 y2
      unfold boltingref06_find.l0
      repeat' first
      | (with_reducible exact ih0 _ _ _)
      | (with_reducible exact LeO.refl _)
      | (with_reducible exact LeO.none _)
      | (with_reducible refine LeO.ite ?_ ?_)
      | (with_reducible refine LeO.bind ?_ (fun _ => ?_))
      | exact ih0 _ _ _
      | exact LeO.none _
      | refine LeO.ite ?_ ?_
      | refine LeO.bind ?_ (fun _ => ?_)
theorem boltingref06_find.mono : ∀ a0 a1 a2 k, LeO (boltingref06_find.f k a0 a1 a2) (boltingref06_find.f (k + 1) a0 a1 a2) := by
  intro a0 a1 a2 k
  have ih0 := boltingref06_find.mono_l k
  unfold boltingref06_find.f
  repeat' first
      | (with_reducible exact ih0 _ _ _)
      | (with_reducible exact LeO.refl _)
      | (with_reducible exact LeO.none _)
      | (with_reducible refine LeO.ite ?_ ?_)
      | (with_reducible refine LeO.bind ?_ (fun _ => ?_))
      | exact ih0 _ _ _
      | exact LeO.none _
      | refine LeO.ite ?_ ?_
      | refine LeO.bind ?_ (fun _ => ?_)
set_option maxHeartbeats 8000000 in
set_option maxRecDepth 100000 in
theorem boltingref06_find.calls (k : Nat) (a0 : ByteArray) (a1 : Int) (a2 : ByteArray) (r : Int) (w : World) (h : boltingref06_find.f k a0 a1 a2 = some r) :
    Calls Tryz.prog 133 #[.string a0, .int .i64 a1, .string a2] w fun e w' => e = .returned (.int .i64 r) ∧ Below w.heap.size w w' := by
  have HB := Aside0.mk (Below.refl w.heap.size w)
  have H : (boltingref06_find.l0 k a0 a1 a2) = some r := h
  clear h
  have H' := Aside0.mk H
  clear H
  go_enter Tryz.func133, Tryz.ntmps133
  go_wp2
  go_loopg [1] k (fun kq v1 w' => ∃ (x1_1 : Int), v1 = .int .i64 x1_1 ∧ Aside0 (boltingref06_find.l0 kq a0 x1_1 a2 = some r) ∧ Aside0 (kq ≤ k) ∧ Aside0 (Below w.heap.size w w'))
  case atStart => exact ⟨(a1), (by first | rfl | (simp; done) | (simp [*]; done)), H', ⟨Nat.le_refl _⟩, ⟨by repeat (first | (with_reducible first | exact HB.out | apply below_alloc | apply pw_below_drewN | apply below_drew1) | exact HB.out)⟩⟩
  case round =>
    clear H'
    try clear c1
    try clear p2
    obtain ⟨x1_1, rfl, HA, HK1, HB⟩ := hrel
    cases gk with
    | zero => exact absurd HA.out (by simp [boltingref06_find.l0])
    | succ k1 =>
      have H := HA.out
      clear HA
      simp only [boltingref06_find.l0] at H
      by_cases c4 : x1_1 < (a0.size : Int)
      · rw [if_pos c4] at H
        have c4b0 : decide (x1_1 < (a0.size : Int)) = true := decide_eq_true c4
        clear c4
        replace H := Option.bind_eq_some_iff.mp H
        obtain ⟨t103, A50, H⟩ := H
        replace H : (if t103 = true then (some (mn x1_1 (a0.size : Int))) else (boltingref06_find.l0 k1 a0 (wrap64 (x1_1 + 1)) a2)) = some r := H
        have A5 := Aside0.mk A50
        clear A50
        by_cases c6 : t103 = true
        · subst c6
          have H1 : (some (mn x1_1 (a0.size : Int))) = some r := by rw [if_pos rfl] at H; exact H
          clear H
          have H := H1
          clear H1
          obtain ⟨ji7, hji7⟩ : ∃ j_ : Int, (mn x1_1 (a0.size : Int)) = j_ := ⟨_, rfl⟩
          replace H : (some ji7) = some r := by first | (rw [hji7] at H; exact H) | (simp only [hji7] at H ⊢; exact H)
          (try rw [hji7] at A5)
          have hji7_ : (if (a0.size : Int) < x1_1 then (a0.size : Int) else x1_1) = ji7 := hji7
          obtain rfl := Option.some.inj H
          go_wp2_with (first | (go_at_call 40; (with_reducible refine (boltingref06_at.calls a0 x1_1 a2 true _ A5.out).mono ?_); rintro e w' ⟨rfl, ⟨nd, rfl⟩⟩))
          go_ret
          exact ⟨by first | rfl | (simp [errW_none, errW_some] <;> rfl) | (simp only [← hji7]; first | rfl | (simp [errW_none, errW_some] <;> rfl)) | (simp [*, errW_none, errW_some] <;> rfl), by repeat (first | (with_reducible first | exact HB.out | apply below_alloc | apply pw_below_drewN | apply below_drew1) | exact HB.out)⟩
        · replace c6 := Bool.eq_false_iff.mpr c6
          subst c6
          have H1 : (boltingref06_find.l0 k1 a0 (wrap64 (x1_1 + 1)) a2) = some r := by rw [if_neg (show ¬ (false = true) by decide)] at H; first | exact H | (simp only [eq_self] at H ⊢; exact H) | (simp only [eq_self, if_true] at H ⊢; exact H)
          clear H
          have H := H1
          clear H1
          have H' := Aside0.mk H
          clear H
          go_wp2_with (first | (go_at_call 40; (with_reducible refine (boltingref06_at.calls a0 x1_1 a2 false _ A5.out).mono ?_); rintro e w' ⟨rfl, ⟨nd, rfl⟩⟩))
          go_roundg k1
          case measure => have := HK1.out; omega
          case rel => exact ⟨(wrap64 (x1_1 + 1)), (by first | rfl | (simp; done) | (simp [*]; done)), H', ⟨by have := HK1.out; omega⟩, ⟨by repeat (first | (with_reducible first | exact HB.out | apply below_alloc | apply pw_below_drewN | apply below_drew1) | exact HB.out)⟩⟩
      · rw [if_neg c4] at H
        have c4b0 : decide (x1_1 < (a0.size : Int)) = false := decide_eq_false c4
        clear c4
        obtain ⟨ji8, hji8⟩ : ∃ j_ : Int, (mn x1_1 (a0.size : Int)) = j_ := ⟨_, rfl⟩
        replace H : (some ji8) = some r := by first | (rw [hji8] at H; exact H) | (simp only [hji8] at H ⊢; exact H)
        have hji8_ : (if (a0.size : Int) < x1_1 then (a0.size : Int) else x1_1) = ji8 := hji8
        obtain rfl := Option.some.inj H
        go_wp2
        go_ret
        exact ⟨by first | rfl | (simp [errW_none, errW_some] <;> rfl) | (simp only [← hji8]; first | rfl | (simp [errW_none, errW_some] <;> rfl)) | (simp [*, errW_none, errW_some] <;> rfl), by repeat (first | (with_reducible first | exact HB.out | apply below_alloc | apply pw_below_drewN | apply below_drew1) | exact HB.out)⟩

end Go.Proofs.YtdnbaliibiginaaGreatDoorH.TI

-- Walks of Go functions by a program (wip/hook/hook.py over the kit's printer): each as a Lean function, and that the call comes to what it tells. Not trusted: Lean checks it.
namespace Go.Proofs.YtdnbaliibiginaaGreatDoorH.TI
open Go.RowKit Go.Proofs.YtdnbaliibiginaaGreatDoorW.PrintWords Go.Proofs.YtdnbaliibiginaaGreatDoorW.PrintLast Go.Proofs.YtdnbaliibiginaaGreatDoorW.PrintMore
attribute [local go_sem] max2_int min2_int max_two min_two max_three min_three max_four min_four   -- for this text's walks alone

/-! ### boltingref02_Letter: function 82 -/
def boltingref02_Letter.f (a0 : Int) : Option (Bool) := if a0 ≥ 65 then (if a0 ≤ 90 then (some true) else (if a0 ≥ 97 then (some (decide (a0 ≤ 122))) else (some false))) else (if a0 ≥ 97 then (some (decide (a0 ≤ 122))) else (some false))
set_option maxHeartbeats 8000000 in
set_option maxRecDepth 100000 in
theorem boltingref02_Letter.calls (a0 : Int) (r : Bool) (w : World) (h : boltingref02_Letter.f a0 = some r) :
    Calls Tryz.prog 82 #[.int .u8 a0] w fun e w' => e = .returned (.bool r) ∧ Drawn0 w w' := by
  have H : (if a0 ≥ 65 then (if a0 ≤ 90 then (some true) else (if a0 ≥ 97 then (some (decide (a0 ≤ 122))) else (some false))) else (if a0 ≥ 97 then (some (decide (a0 ≤ 122))) else (some false))) = some r := h
  clear h
  by_cases c2 : a0 ≥ 65
  · rw [if_pos c2] at H
    have c2b0 : decide (65 ≤ a0) = true := decide_eq_true c2
    clear c2
    by_cases c3 : a0 ≤ 90
    · rw [if_pos c3] at H
      have c3b0 : decide (a0 ≤ 90) = true := decide_eq_true c3
      clear c3
      obtain rfl := Option.some.inj H
      go_enter Tryz.func82, Tryz.ntmps82
      go_wp2
      go_ret
      exact ⟨by first | rfl | (simp; done) | (simp [*]; done), by repeat (first | exact Drawn0.refl _ | apply Drawn0.step)⟩
    · rw [if_neg c3] at H
      have c3b0 : decide (a0 ≤ 90) = false := decide_eq_false c3
      clear c3
      by_cases c4 : a0 ≥ 97
      · rw [if_pos c4] at H
        have c4b0 : decide (97 ≤ a0) = true := decide_eq_true c4
        clear c4
        obtain rfl := Option.some.inj H
        go_enter Tryz.func82, Tryz.ntmps82
        go_wp2
        go_ret
        exact ⟨by first | rfl | (simp; done) | (simp [*]; done), by repeat (first | exact Drawn0.refl _ | apply Drawn0.step)⟩
      · rw [if_neg c4] at H
        have c4b0 : decide (97 ≤ a0) = false := decide_eq_false c4
        clear c4
        obtain rfl := Option.some.inj H
        go_enter Tryz.func82, Tryz.ntmps82
        go_wp2
        go_ret
        exact ⟨by first | rfl | (simp; done) | (simp [*]; done), by repeat (first | exact Drawn0.refl _ | apply Drawn0.step)⟩
  · rw [if_neg c2] at H
    have c2b0 : decide (65 ≤ a0) = false := decide_eq_false c2
    clear c2
    by_cases c5 : a0 ≥ 97
    · rw [if_pos c5] at H
      have c5b0 : decide (97 ≤ a0) = true := decide_eq_true c5
      clear c5
      obtain rfl := Option.some.inj H
      go_enter Tryz.func82, Tryz.ntmps82
      go_wp2
      go_ret
      exact ⟨by first | rfl | (simp; done) | (simp [*]; done), by repeat (first | exact Drawn0.refl _ | apply Drawn0.step)⟩
    · rw [if_neg c5] at H
      have c5b0 : decide (97 ≤ a0) = false := decide_eq_false c5
      clear c5
      obtain rfl := Option.some.inj H
      go_enter Tryz.func82, Tryz.ntmps82
      go_wp2
      go_ret
      exact ⟨by first | rfl | (simp; done) | (simp [*]; done), by repeat (first | exact Drawn0.refl _ | apply Drawn0.step)⟩

/-! ### boltingref06_letter: function 41 -/
def boltingref06_letter.f (a0 : ByteArray) (a1 : Int) : Option (Bool) := if a1 < (a0.size : Int) then (if 0 ≤ a1 then ((boltingref02_Letter.f (bt a0 a1)).bind fun t131 => (some t131)) else (none)) else (some false)
set_option maxHeartbeats 8000000 in
set_option maxRecDepth 100000 in
theorem boltingref06_letter.calls (a0 : ByteArray) (a1 : Int) (r : Bool) (w : World) (h : boltingref06_letter.f a0 a1 = some r) :
    Calls Tryz.prog 41 #[.string a0, .int .i64 a1] w fun e w' => e = .returned (.bool r) ∧ Drawn0 w w' := by
  have H : (if a1 < (a0.size : Int) then (if 0 ≤ a1 then ((boltingref02_Letter.f (bt a0 a1)).bind fun t131 => (some t131)) else (none)) else (some false)) = some r := h
  clear h
  by_cases c3 : a1 < (a0.size : Int)
  · rw [if_pos c3] at H
    have c3b0 : decide (a1 < (a0.size : Int)) = true := decide_eq_true c3
    clear c3
    by_cases c4 : 0 ≤ a1
    · rw [if_pos c4] at H
      have c4b0 : decide (0 ≤ a1) = true := decide_eq_true c4
      clear c4
      replace H := Option.bind_eq_some_iff.mp H
      obtain ⟨t131, A60, H⟩ := H
      replace H : (some t131) = some r := H
      have A6 := Aside0.mk A60
      clear A60
      obtain rfl := Option.some.inj H
      have p5 : 0 ≤ (a1 : Int) := (by first | exact of_decide_eq_true (by first | (with_reducible assumption) | assumption) | assumption | omega)
      have q5 : a1 < (a0.size : Int) := (by first | exact of_decide_eq_true (by first | (with_reducible assumption) | assumption) | assumption | omega)
      have hx5 := bt_at a0 a1
      replace p5 := eq_true p5
      replace q5 := eq_true q5
      go_enter Tryz.func41, Tryz.ntmps41
      go_wp2_with (first | (go_at_call 82; (with_reducible refine (boltingref02_Letter.calls (bt a0 a1) t131 _ A6.out).mono ?_); rintro e w' ⟨rfl, ⟨nd, rfl⟩⟩))
      go_ret
      exact ⟨by first | rfl | (simp; done) | (simp [*]; done), by repeat (first | exact Drawn0.refl _ | apply Drawn0.step)⟩
    · rw [if_neg c4] at H
      exact absurd H (by simp)
  · rw [if_neg c3] at H
    have c3b0 : decide (a1 < (a0.size : Int)) = false := decide_eq_false c3
    clear c3
    obtain rfl := Option.some.inj H
    go_enter Tryz.func41, Tryz.ntmps41
    go_wp2
    go_ret
    exact ⟨by first | rfl | (simp; done) | (simp [*]; done), by repeat (first | exact Drawn0.refl _ | apply Drawn0.step)⟩

/-! ### boltingref06_comment: function 88 -/
def boltingref06_comment.f (k : Nat) (a0 : ByteArray) (a1 : Int) : Option (ByteArray × Int) := (boltingref06_at.f a0 a1 (⟨#[62]⟩ : ByteArray)).bind fun t132 => (if t132 = true then (some ((⟨#[]⟩ : ByteArray), wrap64 (a1 + 1))) else ((boltingref06_at.f a0 a1 (⟨#[45, 62]⟩ : ByteArray)).bind fun t133 => (if t133 = true then (some ((⟨#[]⟩ : ByteArray), wrap64 (a1 + 2))) else ((boltingref06_find.f k a0 a1 (⟨#[45, 45, 62]⟩ : ByteArray)).bind fun t134 => ((boltingref06_find.f k a0 a1 (⟨#[45, 45, 33, 62]⟩ : ByteArray)).bind fun t135 => (if t134 ≤ t135 then (if 0 ≤ a1 then (if a1 ≤ t134 then (if t134 ≤ (a0.size : Int) then (some (a0.extract (a1 : Int).toNat (t134 : Int).toNat, mn (a0.size : Int) (wrap64 (t134 + 3)))) else (none)) else (none)) else (none)) else (if 0 ≤ a1 then (if a1 ≤ t135 then (if t135 ≤ (a0.size : Int) then (some (a0.extract (a1 : Int).toNat (t135 : Int).toNat, wrap64 (t135 + 4))) else (none)) else (none)) else (none))))))))
theorem boltingref06_comment.mono : ∀ a0 a1 k, LeO (boltingref06_comment.f k a0 a1) (boltingref06_comment.f (k + 1) a0 a1) := by
  intro a0 a1 k
  unfold boltingref06_comment.f
  repeat' first
      | (with_reducible exact boltingref06_find.mono _ _ _ _)
      | (with_reducible exact LeO.refl _)
      | (with_reducible exact LeO.none _)
      | (with_reducible refine LeO.ite ?_ ?_)
      | (with_reducible refine LeO.bind ?_ (fun _ => ?_))
      | exact boltingref06_find.mono _ _ _ _
      | exact LeO.none _
      | refine LeO.ite ?_ ?_
      | refine LeO.bind ?_ (fun _ => ?_)
set_option maxHeartbeats 8000000 in
set_option maxRecDepth 100000 in
theorem boltingref06_comment.calls (k : Nat) (a0 : ByteArray) (a1 : Int) (r1 : ByteArray) (r2 : Int) (w : World) (h : boltingref06_comment.f k a0 a1 = some (r1, r2)) :
    Calls Tryz.prog 88 #[.string a0, .int .i64 a1] w fun e w' => e = .returned (.tuple #[.string r1, .int .i64 r2]) ∧ Below w.heap.size w w' := by
  have HB := Aside0.mk (Below.refl w.heap.size w)
  have H : ((boltingref06_at.f a0 a1 (⟨#[62]⟩ : ByteArray)).bind fun t132 => (if t132 = true then (some ((⟨#[]⟩ : ByteArray), wrap64 (a1 + 1))) else ((boltingref06_at.f a0 a1 (⟨#[45, 62]⟩ : ByteArray)).bind fun t133 => (if t133 = true then (some ((⟨#[]⟩ : ByteArray), wrap64 (a1 + 2))) else ((boltingref06_find.f k a0 a1 (⟨#[45, 45, 62]⟩ : ByteArray)).bind fun t134 => ((boltingref06_find.f k a0 a1 (⟨#[45, 45, 33, 62]⟩ : ByteArray)).bind fun t135 => (if t134 ≤ t135 then (if 0 ≤ a1 then (if a1 ≤ t134 then (if t134 ≤ (a0.size : Int) then (some (a0.extract (a1 : Int).toNat (t134 : Int).toNat, mn (a0.size : Int) (wrap64 (t134 + 3)))) else (none)) else (none)) else (none)) else (if 0 ≤ a1 then (if a1 ≤ t135 then (if t135 ≤ (a0.size : Int) then (some (a0.extract (a1 : Int).toNat (t135 : Int).toNat, wrap64 (t135 + 4))) else (none)) else (none)) else (none))))))))) = some (r1, r2) := h
  clear h
  replace H := Option.bind_eq_some_iff.mp H
  obtain ⟨t132, A30, H⟩ := H
  replace H : (if t132 = true then (some ((⟨#[]⟩ : ByteArray), wrap64 (a1 + 1))) else ((boltingref06_at.f a0 a1 (⟨#[45, 62]⟩ : ByteArray)).bind fun t133 => (if t133 = true then (some ((⟨#[]⟩ : ByteArray), wrap64 (a1 + 2))) else ((boltingref06_find.f k a0 a1 (⟨#[45, 45, 62]⟩ : ByteArray)).bind fun t134 => ((boltingref06_find.f k a0 a1 (⟨#[45, 45, 33, 62]⟩ : ByteArray)).bind fun t135 => (if t134 ≤ t135 then (if 0 ≤ a1 then (if a1 ≤ t134 then (if t134 ≤ (a0.size : Int) then (some (a0.extract (a1 : Int).toNat (t134 : Int).toNat, mn (a0.size : Int) (wrap64 (t134 + 3)))) else (none)) else (none)) else (none)) else (if 0 ≤ a1 then (if a1 ≤ t135 then (if t135 ≤ (a0.size : Int) then (some (a0.extract (a1 : Int).toNat (t135 : Int).toNat, wrap64 (t135 + 4))) else (none)) else (none)) else (none)))))))) = some (r1, r2) := H
  have A3 := Aside0.mk A30
  clear A30
  by_cases c4 : t132 = true
  · subst c4
    have H1 : (some ((⟨#[]⟩ : ByteArray), wrap64 (a1 + 1))) = some (r1, r2) := by rw [if_pos rfl] at H; exact H
    clear H
    have H := H1
    clear H1
    simp only [Option.some.injEq, Prod.mk.injEq] at H
    obtain ⟨rfl, rfl⟩ := H
    go_enter Tryz.func88, Tryz.ntmps88
    go_wp2_with (first | ((with_reducible refine gate_callee (f := 40) rfl ?_); refine goesL_ (some 10) rfl rfl Tryz.func40 (by kernel_rfl) rfl #[.string a0, .int .i64 a1, .string (⟨#[62]⟩ : ByteArray)] rfl (by (try simp only [List.map_toArray, List.map_cons, List.map_nil]); first | done | rfl | (simp only [List.length_drop, List.length_take]; rfl)) ?_; (with_reducible refine (boltingref06_at.calls a0 a1 (⟨#[62]⟩ : ByteArray) true _ A3.out).mono ?_); rintro e w' ⟨rfl, ⟨nd, rfl⟩⟩; refine ⟨_, rfl, ?_⟩))
    go_ret2
    exact ⟨by first | rfl | (simp [errW_none, errW_some] <;> rfl) | (simp [*, errW_none, errW_some] <;> rfl), by repeat (first | (with_reducible first | exact HB.out | apply below_alloc | apply pw_below_drewN | apply below_drew1) | exact HB.out)⟩
  · replace c4 := Bool.eq_false_iff.mpr c4
    subst c4
    have H1 : ((boltingref06_at.f a0 a1 (⟨#[45, 62]⟩ : ByteArray)).bind fun t133 => (if t133 = true then (some ((⟨#[]⟩ : ByteArray), wrap64 (a1 + 2))) else ((boltingref06_find.f k a0 a1 (⟨#[45, 45, 62]⟩ : ByteArray)).bind fun t134 => ((boltingref06_find.f k a0 a1 (⟨#[45, 45, 33, 62]⟩ : ByteArray)).bind fun t135 => (if t134 ≤ t135 then (if 0 ≤ a1 then (if a1 ≤ t134 then (if t134 ≤ (a0.size : Int) then (some (a0.extract (a1 : Int).toNat (t134 : Int).toNat, mn (a0.size : Int) (wrap64 (t134 + 3)))) else (none)) else (none)) else (none)) else (if 0 ≤ a1 then (if a1 ≤ t135 then (if t135 ≤ (a0.size : Int) then (some (a0.extract (a1 : Int).toNat (t135 : Int).toNat, wrap64 (t135 + 4))) else (none)) else (none)) else (none))))))) = some (r1, r2) := by rw [if_neg (show ¬ (false = true) by decide)] at H; first | exact H | (simp only [eq_self] at H ⊢; exact H) | (simp only [eq_self, if_true] at H ⊢; exact H)
    clear H
    have H := H1
    clear H1
    replace H := Option.bind_eq_some_iff.mp H
    obtain ⟨t133, A50, H⟩ := H
    replace H : (if t133 = true then (some ((⟨#[]⟩ : ByteArray), wrap64 (a1 + 2))) else ((boltingref06_find.f k a0 a1 (⟨#[45, 45, 62]⟩ : ByteArray)).bind fun t134 => ((boltingref06_find.f k a0 a1 (⟨#[45, 45, 33, 62]⟩ : ByteArray)).bind fun t135 => (if t134 ≤ t135 then (if 0 ≤ a1 then (if a1 ≤ t134 then (if t134 ≤ (a0.size : Int) then (some (a0.extract (a1 : Int).toNat (t134 : Int).toNat, mn (a0.size : Int) (wrap64 (t134 + 3)))) else (none)) else (none)) else (none)) else (if 0 ≤ a1 then (if a1 ≤ t135 then (if t135 ≤ (a0.size : Int) then (some (a0.extract (a1 : Int).toNat (t135 : Int).toNat, wrap64 (t135 + 4))) else (none)) else (none)) else (none)))))) = some (r1, r2) := H
    have A5 := Aside0.mk A50
    clear A50
    by_cases c6 : t133 = true
    · subst c6
      have H1 : (some ((⟨#[]⟩ : ByteArray), wrap64 (a1 + 2))) = some (r1, r2) := by rw [if_pos rfl] at H; exact H
      clear H
      have H := H1
      clear H1
      simp only [Option.some.injEq, Prod.mk.injEq] at H
      obtain ⟨rfl, rfl⟩ := H
      go_enter Tryz.func88, Tryz.ntmps88
      go_wp2_with (first | ((with_reducible refine gate_callee (f := 40) rfl ?_); refine goesL_ (some 10) rfl rfl Tryz.func40 (by kernel_rfl) rfl #[.string a0, .int .i64 a1, .string (⟨#[62]⟩ : ByteArray)] rfl (by (try simp only [List.map_toArray, List.map_cons, List.map_nil]); first | done | rfl | (simp only [List.length_drop, List.length_take]; rfl)) ?_; (with_reducible refine (boltingref06_at.calls a0 a1 (⟨#[62]⟩ : ByteArray) false _ A3.out).mono ?_); rintro e w' ⟨rfl, ⟨nd, rfl⟩⟩; refine ⟨_, rfl, ?_⟩) | ((with_reducible refine gate_callee (f := 40) rfl ?_); refine goesL_ (some 15) rfl rfl Tryz.func40 (by kernel_rfl) rfl #[.string a0, .int .i64 a1, .string (⟨#[45, 62]⟩ : ByteArray)] rfl (by (try simp only [List.map_toArray, List.map_cons, List.map_nil]); first | done | rfl | (simp only [List.length_drop, List.length_take]; rfl)) ?_; (with_reducible refine (boltingref06_at.calls a0 a1 (⟨#[45, 62]⟩ : ByteArray) true _ A5.out).mono ?_); rintro e w' ⟨rfl, ⟨nd, rfl⟩⟩; refine ⟨_, rfl, ?_⟩))
      go_ret2
      exact ⟨by first | rfl | (simp [errW_none, errW_some] <;> rfl) | (simp [*, errW_none, errW_some] <;> rfl), by repeat (first | (with_reducible first | exact HB.out | apply below_alloc | apply pw_below_drewN | apply below_drew1) | exact HB.out)⟩
    · replace c6 := Bool.eq_false_iff.mpr c6
      subst c6
      have H1 : ((boltingref06_find.f k a0 a1 (⟨#[45, 45, 62]⟩ : ByteArray)).bind fun t134 => ((boltingref06_find.f k a0 a1 (⟨#[45, 45, 33, 62]⟩ : ByteArray)).bind fun t135 => (if t134 ≤ t135 then (if 0 ≤ a1 then (if a1 ≤ t134 then (if t134 ≤ (a0.size : Int) then (some (a0.extract (a1 : Int).toNat (t134 : Int).toNat, mn (a0.size : Int) (wrap64 (t134 + 3)))) else (none)) else (none)) else (none)) else (if 0 ≤ a1 then (if a1 ≤ t135 then (if t135 ≤ (a0.size : Int) then (some (a0.extract (a1 : Int).toNat (t135 : Int).toNat, wrap64 (t135 + 4))) else (none)) else (none)) else (none))))) = some (r1, r2) := by rw [if_neg (show ¬ (false = true) by decide)] at H; first | exact H | (simp only [eq_self] at H ⊢; exact H) | (simp only [eq_self, if_true] at H ⊢; exact H)
      clear H
      have H := H1
      clear H1
      replace H := Option.bind_eq_some_iff.mp H
      obtain ⟨t134, A70, H⟩ := H
      replace H : ((boltingref06_find.f k a0 a1 (⟨#[45, 45, 33, 62]⟩ : ByteArray)).bind fun t135 => (if t134 ≤ t135 then (if 0 ≤ a1 then (if a1 ≤ t134 then (if t134 ≤ (a0.size : Int) then (some (a0.extract (a1 : Int).toNat (t134 : Int).toNat, mn (a0.size : Int) (wrap64 (t134 + 3)))) else (none)) else (none)) else (none)) else (if 0 ≤ a1 then (if a1 ≤ t135 then (if t135 ≤ (a0.size : Int) then (some (a0.extract (a1 : Int).toNat (t135 : Int).toNat, wrap64 (t135 + 4))) else (none)) else (none)) else (none)))) = some (r1, r2) := H
      have A7 := Aside0.mk A70
      clear A70
      replace H := Option.bind_eq_some_iff.mp H
      obtain ⟨t135, A80, H⟩ := H
      replace H : (if t134 ≤ t135 then (if 0 ≤ a1 then (if a1 ≤ t134 then (if t134 ≤ (a0.size : Int) then (some (a0.extract (a1 : Int).toNat (t134 : Int).toNat, mn (a0.size : Int) (wrap64 (t134 + 3)))) else (none)) else (none)) else (none)) else (if 0 ≤ a1 then (if a1 ≤ t135 then (if t135 ≤ (a0.size : Int) then (some (a0.extract (a1 : Int).toNat (t135 : Int).toNat, wrap64 (t135 + 4))) else (none)) else (none)) else (none))) = some (r1, r2) := H
      have A8 := Aside0.mk A80
      clear A80
      by_cases c9 : t134 ≤ t135
      · rw [if_pos c9] at H
        have c9b0 : decide (t134 ≤ t135) = true := decide_eq_true c9
        clear c9
        by_cases c10 : 0 ≤ a1
        · rw [if_pos c10] at H
          have c10b0 := eq_true c10
          have c10b1 : decide (0 ≤ a1) = true := decide_eq_true c10
          clear c10
          by_cases c11 : a1 ≤ t134
          · rw [if_pos c11] at H
            have c11b0 := eq_true c11
            have c11b1 : decide (a1 ≤ t134) = true := decide_eq_true c11
            clear c11
            by_cases c12 : t134 ≤ (a0.size : Int)
            · rw [if_pos c12] at H
              have c12b0 := eq_true c12
              have c12b1 : decide (t134 ≤ (a0.size : Int)) = true := decide_eq_true c12
              clear c12
              obtain ⟨ji13, hji13⟩ : ∃ j_ : Int, (mn (a0.size : Int) (wrap64 (t134 + 3))) = j_ := ⟨_, rfl⟩
              replace H : (some (a0.extract (a1 : Int).toNat (t134 : Int).toNat, ji13)) = some (r1, r2) := by first | (rw [hji13] at H; exact H) | (simp only [hji13] at H ⊢; exact H)
              (try rw [hji13] at A3)
              (try rw [hji13] at A5)
              (try rw [hji13] at A7)
              (try rw [hji13] at A8)
              have hji13_ : (if (wrap64 (t134 + 3)) < (a0.size : Int) then (wrap64 (t134 + 3)) else (a0.size : Int)) = ji13 := hji13
              simp only [Option.some.injEq, Prod.mk.injEq] at H
              obtain ⟨rfl, rfl⟩ := H
              go_enter Tryz.func88, Tryz.ntmps88
              go_wp2_with (first | ((with_reducible refine gate_callee (f := 40) rfl ?_); refine goesL_ (some 10) rfl rfl Tryz.func40 (by kernel_rfl) rfl #[.string a0, .int .i64 a1, .string (⟨#[62]⟩ : ByteArray)] rfl (by (try simp only [List.map_toArray, List.map_cons, List.map_nil]); first | done | rfl | (simp only [List.length_drop, List.length_take]; rfl)) ?_; (with_reducible refine (boltingref06_at.calls a0 a1 (⟨#[62]⟩ : ByteArray) false _ A3.out).mono ?_); rintro e w' ⟨rfl, ⟨nd, rfl⟩⟩; refine ⟨_, rfl, ?_⟩) | ((with_reducible refine gate_callee (f := 40) rfl ?_); refine goesL_ (some 15) rfl rfl Tryz.func40 (by kernel_rfl) rfl #[.string a0, .int .i64 a1, .string (⟨#[45, 62]⟩ : ByteArray)] rfl (by (try simp only [List.map_toArray, List.map_cons, List.map_nil]); first | done | rfl | (simp only [List.length_drop, List.length_take]; rfl)) ?_; (with_reducible refine (boltingref06_at.calls a0 a1 (⟨#[45, 62]⟩ : ByteArray) false _ A5.out).mono ?_); rintro e w' ⟨rfl, ⟨nd, rfl⟩⟩; refine ⟨_, rfl, ?_⟩) | ((with_reducible refine gate_callee (f := 133) rfl ?_); refine goesL_ (some 20) rfl rfl Tryz.func133 (by kernel_rfl) rfl #[.string a0, .int .i64 a1, .string (⟨#[45, 45, 62]⟩ : ByteArray)] rfl (by (try simp only [List.map_toArray, List.map_cons, List.map_nil]); first | done | rfl | (simp only [List.length_drop, List.length_take]; rfl)) ?_; (with_reducible refine (boltingref06_find.calls k a0 a1 (⟨#[45, 45, 62]⟩ : ByteArray) t134 _ A7.out).mono ?_); rintro e w14 ⟨rfl, hb⟩; refine ⟨_, rfl, ?_⟩; have n0_ := Aside0.mk (below_step (by repeat (first | (with_reducible first | exact HB.out | apply below_alloc | apply pw_below_drewN | apply below_drew1) | exact HB.out)) hb); clear HB; have HB := n0_; clear n0_; (try clear hb); (try clear hb2); (try clear hk); (try clear hi)) | ((with_reducible refine gate_callee (f := 133) rfl ?_); refine goesL_ (some 23) rfl rfl Tryz.func133 (by kernel_rfl) rfl #[.string a0, .int .i64 a1, .string (⟨#[45, 45, 33, 62]⟩ : ByteArray)] rfl (by (try simp only [List.map_toArray, List.map_cons, List.map_nil]); first | done | rfl | (simp only [List.length_drop, List.length_take]; rfl)) ?_; (with_reducible refine (boltingref06_find.calls k a0 a1 (⟨#[45, 45, 33, 62]⟩ : ByteArray) t135 _ A8.out).mono ?_); rintro e w15 ⟨rfl, hb⟩; refine ⟨_, rfl, ?_⟩; have n0_ := Aside0.mk (below_step (by repeat (first | (with_reducible first | exact HB.out | apply below_alloc | apply pw_below_drewN | apply below_drew1) | exact HB.out)) hb); clear HB; have HB := n0_; clear n0_; (try clear hb); (try clear hb2); (try clear hk); (try clear hi)))
              go_ret2
              exact ⟨by first | rfl | (simp [errW_none, errW_some] <;> rfl) | (simp only [← hji13]; first | rfl | (simp [errW_none, errW_some] <;> rfl)) | (simp [*, errW_none, errW_some] <;> rfl), by repeat (first | (with_reducible first | exact HB.out | apply below_alloc | apply pw_below_drewN | apply below_drew1) | exact HB.out)⟩
            · rw [if_neg c12] at H
              exact absurd H (by simp)
          · rw [if_neg c11] at H
            exact absurd H (by simp)
        · rw [if_neg c10] at H
          exact absurd H (by simp)
      · rw [if_neg c9] at H
        have c9b0 : decide (t134 ≤ t135) = false := decide_eq_false c9
        clear c9
        by_cases c16 : 0 ≤ a1
        · rw [if_pos c16] at H
          have c16b0 := eq_true c16
          have c16b1 : decide (0 ≤ a1) = true := decide_eq_true c16
          clear c16
          by_cases c17 : a1 ≤ t135
          · rw [if_pos c17] at H
            have c17b0 := eq_true c17
            have c17b1 : decide (a1 ≤ t135) = true := decide_eq_true c17
            clear c17
            by_cases c18 : t135 ≤ (a0.size : Int)
            · rw [if_pos c18] at H
              have c18b0 := eq_true c18
              have c18b1 : decide (t135 ≤ (a0.size : Int)) = true := decide_eq_true c18
              clear c18
              simp only [Option.some.injEq, Prod.mk.injEq] at H
              obtain ⟨rfl, rfl⟩ := H
              go_enter Tryz.func88, Tryz.ntmps88
              go_wp2_with (first | ((with_reducible refine gate_callee (f := 40) rfl ?_); refine goesL_ (some 10) rfl rfl Tryz.func40 (by kernel_rfl) rfl #[.string a0, .int .i64 a1, .string (⟨#[62]⟩ : ByteArray)] rfl (by (try simp only [List.map_toArray, List.map_cons, List.map_nil]); first | done | rfl | (simp only [List.length_drop, List.length_take]; rfl)) ?_; (with_reducible refine (boltingref06_at.calls a0 a1 (⟨#[62]⟩ : ByteArray) false _ A3.out).mono ?_); rintro e w' ⟨rfl, ⟨nd, rfl⟩⟩; refine ⟨_, rfl, ?_⟩) | ((with_reducible refine gate_callee (f := 40) rfl ?_); refine goesL_ (some 15) rfl rfl Tryz.func40 (by kernel_rfl) rfl #[.string a0, .int .i64 a1, .string (⟨#[45, 62]⟩ : ByteArray)] rfl (by (try simp only [List.map_toArray, List.map_cons, List.map_nil]); first | done | rfl | (simp only [List.length_drop, List.length_take]; rfl)) ?_; (with_reducible refine (boltingref06_at.calls a0 a1 (⟨#[45, 62]⟩ : ByteArray) false _ A5.out).mono ?_); rintro e w' ⟨rfl, ⟨nd, rfl⟩⟩; refine ⟨_, rfl, ?_⟩) | ((with_reducible refine gate_callee (f := 133) rfl ?_); refine goesL_ (some 20) rfl rfl Tryz.func133 (by kernel_rfl) rfl #[.string a0, .int .i64 a1, .string (⟨#[45, 45, 62]⟩ : ByteArray)] rfl (by (try simp only [List.map_toArray, List.map_cons, List.map_nil]); first | done | rfl | (simp only [List.length_drop, List.length_take]; rfl)) ?_; (with_reducible refine (boltingref06_find.calls k a0 a1 (⟨#[45, 45, 62]⟩ : ByteArray) t134 _ A7.out).mono ?_); rintro e w19 ⟨rfl, hb⟩; refine ⟨_, rfl, ?_⟩; have n0_ := Aside0.mk (below_step (by repeat (first | (with_reducible first | exact HB.out | apply below_alloc | apply pw_below_drewN | apply below_drew1) | exact HB.out)) hb); clear HB; have HB := n0_; clear n0_; (try clear hb); (try clear hb2); (try clear hk); (try clear hi)) | ((with_reducible refine gate_callee (f := 133) rfl ?_); refine goesL_ (some 23) rfl rfl Tryz.func133 (by kernel_rfl) rfl #[.string a0, .int .i64 a1, .string (⟨#[45, 45, 33, 62]⟩ : ByteArray)] rfl (by (try simp only [List.map_toArray, List.map_cons, List.map_nil]); first | done | rfl | (simp only [List.length_drop, List.length_take]; rfl)) ?_; (with_reducible refine (boltingref06_find.calls k a0 a1 (⟨#[45, 45, 33, 62]⟩ : ByteArray) t135 _ A8.out).mono ?_); rintro e w20 ⟨rfl, hb⟩; refine ⟨_, rfl, ?_⟩; have n0_ := Aside0.mk (below_step (by repeat (first | (with_reducible first | exact HB.out | apply below_alloc | apply pw_below_drewN | apply below_drew1) | exact HB.out)) hb); clear HB; have HB := n0_; clear n0_; (try clear hb); (try clear hb2); (try clear hk); (try clear hi)))
              go_ret2
              exact ⟨by first | rfl | (simp [errW_none, errW_some] <;> rfl) | (simp [*, errW_none, errW_some] <;> rfl), by repeat (first | (with_reducible first | exact HB.out | apply below_alloc | apply pw_below_drewN | apply below_drew1) | exact HB.out)⟩
            · rw [if_neg c18] at H
              exact absurd H (by simp)
          · rw [if_neg c17] at H
            exact absurd H (by simp)
        · rw [if_neg c16] at H
          exact absurd H (by simp)

/-! ### boltingref06_other: function 89 -/
def boltingref06_other.f (k : Nat) (a0 : ByteArray) (a1 : Int) : Option (ByteArray × Int) := (boltingref06_find.f k a0 a1 (⟨#[62]⟩ : ByteArray)).bind fun t136 => (if 0 ≤ a1 then (if a1 ≤ t136 then (if t136 ≤ (a0.size : Int) then (some (a0.extract (a1 : Int).toNat (t136 : Int).toNat, mn (a0.size : Int) (wrap64 (t136 + 1)))) else (none)) else (none)) else (none))
theorem boltingref06_other.mono : ∀ a0 a1 k, LeO (boltingref06_other.f k a0 a1) (boltingref06_other.f (k + 1) a0 a1) := by
  intro a0 a1 k
  unfold boltingref06_other.f
  repeat' first
      | (with_reducible exact boltingref06_find.mono _ _ _ _)
      | (with_reducible exact LeO.refl _)
      | (with_reducible exact LeO.none _)
      | (with_reducible refine LeO.ite ?_ ?_)
      | (with_reducible refine LeO.bind ?_ (fun _ => ?_))
      | exact boltingref06_find.mono _ _ _ _
      | exact LeO.none _
      | refine LeO.ite ?_ ?_
      | refine LeO.bind ?_ (fun _ => ?_)
set_option maxHeartbeats 8000000 in
set_option maxRecDepth 100000 in
theorem boltingref06_other.calls (k : Nat) (a0 : ByteArray) (a1 : Int) (r1 : ByteArray) (r2 : Int) (w : World) (h : boltingref06_other.f k a0 a1 = some (r1, r2)) :
    Calls Tryz.prog 89 #[.string a0, .int .i64 a1] w fun e w' => e = .returned (.tuple #[.string r1, .int .i64 r2]) ∧ Below w.heap.size w w' := by
  have HB := Aside0.mk (Below.refl w.heap.size w)
  have H : ((boltingref06_find.f k a0 a1 (⟨#[62]⟩ : ByteArray)).bind fun t136 => (if 0 ≤ a1 then (if a1 ≤ t136 then (if t136 ≤ (a0.size : Int) then (some (a0.extract (a1 : Int).toNat (t136 : Int).toNat, mn (a0.size : Int) (wrap64 (t136 + 1)))) else (none)) else (none)) else (none))) = some (r1, r2) := h
  clear h
  replace H := Option.bind_eq_some_iff.mp H
  obtain ⟨t136, A30, H⟩ := H
  replace H : (if 0 ≤ a1 then (if a1 ≤ t136 then (if t136 ≤ (a0.size : Int) then (some (a0.extract (a1 : Int).toNat (t136 : Int).toNat, mn (a0.size : Int) (wrap64 (t136 + 1)))) else (none)) else (none)) else (none)) = some (r1, r2) := H
  have A3 := Aside0.mk A30
  clear A30
  by_cases c4 : 0 ≤ a1
  · rw [if_pos c4] at H
    have c4b0 := eq_true c4
    have c4b1 : decide (0 ≤ a1) = true := decide_eq_true c4
    clear c4
    by_cases c5 : a1 ≤ t136
    · rw [if_pos c5] at H
      have c5b0 := eq_true c5
      have c5b1 : decide (a1 ≤ t136) = true := decide_eq_true c5
      clear c5
      by_cases c6 : t136 ≤ (a0.size : Int)
      · rw [if_pos c6] at H
        have c6b0 := eq_true c6
        have c6b1 : decide (t136 ≤ (a0.size : Int)) = true := decide_eq_true c6
        clear c6
        obtain ⟨ji7, hji7⟩ : ∃ j_ : Int, (mn (a0.size : Int) (wrap64 (t136 + 1))) = j_ := ⟨_, rfl⟩
        replace H : (some (a0.extract (a1 : Int).toNat (t136 : Int).toNat, ji7)) = some (r1, r2) := by first | (rw [hji7] at H; exact H) | (simp only [hji7] at H ⊢; exact H)
        (try rw [hji7] at A3)
        have hji7_ : (if (wrap64 (t136 + 1)) < (a0.size : Int) then (wrap64 (t136 + 1)) else (a0.size : Int)) = ji7 := hji7
        simp only [Option.some.injEq, Prod.mk.injEq] at H
        obtain ⟨rfl, rfl⟩ := H
        go_enter Tryz.func89, Tryz.ntmps89
        go_wp2_with (first | ((with_reducible refine gate_callee (f := 133) rfl ?_); refine goesL_ (some 9) rfl rfl Tryz.func133 (by kernel_rfl) rfl #[.string a0, .int .i64 a1, .string (⟨#[62]⟩ : ByteArray)] rfl (by (try simp only [List.map_toArray, List.map_cons, List.map_nil]); first | done | rfl | (simp only [List.length_drop, List.length_take]; rfl)) ?_; (with_reducible refine (boltingref06_find.calls k a0 a1 (⟨#[62]⟩ : ByteArray) t136 _ A3.out).mono ?_); rintro e w8 ⟨rfl, hb⟩; refine ⟨_, rfl, ?_⟩; have n0_ := Aside0.mk (below_step (by repeat (first | (with_reducible first | exact HB.out | apply below_alloc | apply pw_below_drewN | apply below_drew1) | exact HB.out)) hb); clear HB; have HB := n0_; clear n0_; (try clear hb); (try clear hb2); (try clear hk); (try clear hi)))
        go_ret2
        exact ⟨by first | rfl | (simp [errW_none, errW_some] <;> rfl) | (simp only [← hji7]; first | rfl | (simp [errW_none, errW_some] <;> rfl)) | (simp [*, errW_none, errW_some] <;> rfl), by repeat (first | (with_reducible first | exact HB.out | apply below_alloc | apply pw_below_drewN | apply below_drew1) | exact HB.out)⟩
      · rw [if_neg c6] at H
        exact absurd H (by simp)
    · rw [if_neg c5] at H
      exact absurd H (by simp)
  · rw [if_neg c4] at H
    exact absurd H (by simp)

/-! ### boltingref02_Trim: function 90 -/
mutual
def boltingref02_Trim.j1 : Nat → ByteArray → Int → Int → Option (ByteArray)
  | 0, _, _, _ => none
  | k + 1, x0, x3, x4 => boltingref02_Trim.l1 k x0 x3 x4
def boltingref02_Trim.l1 : Nat → ByteArray → Int → Int → Option (ByteArray)
  | 0, _, _, _ => none
  | k + 1, x0, x3, x4 => if x4 > x3 then (if 0 ≤ (wrap64 (x4 - 1)) then (if (wrap64 (x4 - 1)) < (x0.size : Int) then ((boltingref02_Space.f (bt x0 (wrap64 (x4 - 1)))).bind fun t138 => (if t138 = true then (boltingref02_Trim.l1 k x0 x3 (wrap64 (x4 - 1))) else (if 0 ≤ x3 then (if x3 ≤ x4 then (if x4 ≤ (x0.size : Int) then (some (x0.extract (x3 : Int).toNat (x4 : Int).toNat)) else (none)) else (none)) else (none)))) else (none)) else (none)) else (if 0 ≤ x3 then (if x3 ≤ x4 then (if x4 ≤ (x0.size : Int) then (some (x0.extract (x3 : Int).toNat (x4 : Int).toNat)) else (none)) else (none)) else (none))
def boltingref02_Trim.l0 : Nat → ByteArray → Int → Int → Option (ByteArray)
  | 0, _, _, _ => none
  | k + 1, x0, x3, x4 => if x3 < x4 then (if 0 ≤ x3 then (if x3 < (x0.size : Int) then ((boltingref02_Space.f (bt x0 x3)).bind fun t137 => (if t137 = true then (boltingref02_Trim.l0 k x0 (wrap64 (x3 + 1)) x4) else (boltingref02_Trim.j1 k x0 x3 x4))) else (none)) else (none)) else (boltingref02_Trim.j1 k x0 x3 x4)
end
def boltingref02_Trim.f (k : Nat) (a0 : ByteArray) : Option (ByteArray) := boltingref02_Trim.l0 k a0 0 (a0.size : Int)
theorem boltingref02_Trim.mono_l : ∀ k, (∀ y0 y1 y2, LeO (boltingref02_Trim.j1 k y0 y1 y2) (boltingref02_Trim.j1 (k + 1) y0 y1 y2)) ∧ (∀ y0 y1 y2, LeO (boltingref02_Trim.l1 k y0 y1 y2) (boltingref02_Trim.l1 (k + 1) y0 y1 y2)) ∧ (∀ y0 y1 y2, LeO (boltingref02_Trim.l0 k y0 y1 y2) (boltingref02_Trim.l0 (k + 1) y0 y1 y2))
  | 0 => ⟨fun _ _ _ r h => by simp [boltingref02_Trim.j1] at h, fun _ _ _ r h => by simp [boltingref02_Trim.l1] at h, fun _ _ _ r h => by simp [boltingref02_Trim.l0] at h⟩
  | k + 1 => by
    obtain ⟨ih0, ih1, ih2⟩ := boltingref02_Trim.mono_l k
    refine ⟨?_, ?_, ?_⟩
    · intro y0 y1 y2
      unfold boltingref02_Trim.j1
      repeat' first
      | (with_reducible exact ih0 _ _ _)
      | (with_reducible exact ih1 _ _ _)
      | (with_reducible exact ih2 _ _ _)
      | (with_reducible exact LeO.refl _)
      | (with_reducible exact LeO.none _)
      | (with_reducible refine LeO.ite ?_ ?_)
      | (with_reducible refine LeO.bind ?_ (fun _ => ?_))
      | exact ih0 _ _ _
      | exact ih1 _ _ _
      | exact ih2 _ _ _
      | exact LeO.none _
      | refine LeO.ite ?_ ?_
      | refine LeO.bind ?_ (fun _ => ?_)
    · intro y0 y1 y2
      unfold boltingref02_Trim.l1
      repeat' first
      | (with_reducible exact ih0 _ _ _)
      | (with_reducible exact ih1 _ _ _)
      | (with_reducible exact ih2 _ _ _)
      | (with_reducible exact LeO.refl _)
      | (with_reducible exact LeO.none _)
      | (with_reducible refine LeO.ite ?_ ?_)
      | (with_reducible refine LeO.bind ?_ (fun _ => ?_))
      | exact ih0 _ _ _
      | exact ih1 _ _ _
      | exact ih2 _ _ _
      | exact LeO.none _
      | refine LeO.ite ?_ ?_
      | refine LeO.bind ?_ (fun _ => ?_)
    · intro y0 y1 y2
      unfold boltingref02_Trim.l0
      repeat' first
      | (with_reducible exact ih0 _ _ _)
      | (with_reducible exact ih1 _ _ _)
      | (with_reducible exact ih2 _ _ _)
      | (with_reducible exact LeO.refl _)
      | (with_reducible exact LeO.none _)
      | (with_reducible refine LeO.ite ?_ ?_)
      | (with_reducible refine LeO.bind ?_ (fun _ => ?_))
      | exact ih0 _ _ _
      | exact ih1 _ _ _
      | exact ih2 _ _ _
      | exact LeO.none _
      | refine LeO.ite ?_ ?_
      | refine LeO.bind ?_ (fun _ => ?_)
theorem boltingref02_Trim.mono : ∀ a0 k, LeO (boltingref02_Trim.f k a0) (boltingref02_Trim.f (k + 1) a0) := by
  intro a0 k
  obtain ⟨ih0, ih1, ih2⟩ := boltingref02_Trim.mono_l k
  unfold boltingref02_Trim.f
  repeat' first
      | (with_reducible exact ih0 _ _ _)
      | (with_reducible exact ih1 _ _ _)
      | (with_reducible exact ih2 _ _ _)
      | (with_reducible exact LeO.refl _)
      | (with_reducible exact LeO.none _)
      | (with_reducible refine LeO.ite ?_ ?_)
      | (with_reducible refine LeO.bind ?_ (fun _ => ?_))
      | exact ih0 _ _ _
      | exact ih1 _ _ _
      | exact ih2 _ _ _
      | exact LeO.none _
      | refine LeO.ite ?_ ?_
      | refine LeO.bind ?_ (fun _ => ?_)
set_option maxHeartbeats 8000000 in
set_option maxRecDepth 100000 in
theorem boltingref02_Trim.calls (k : Nat) (a0 : ByteArray) (r : ByteArray) (w : World) (h : boltingref02_Trim.f k a0 = some r) :
    Calls Tryz.prog 90 #[.string a0] w fun e w' => e = .returned (.string r) ∧ Drawn0 w w' := by
  have H : (boltingref02_Trim.l0 k a0 0 (a0.size : Int)) = some r := h
  clear h
  have HC2 := Aside0.mk H
  clear H
  go_enter Tryz.func90, Tryz.ntmps90
  go_upto_block 0 with (fail)
  go_cut [3] (fun v3 wc => ∃ (kq : Nat) (x3_1 : Int), v3 = .int .i64 x3_1 ∧ Aside0 (boltingref02_Trim.j1 kq a0 x3_1 (a0.size : Int) = some r) ∧ Aside0 (kq ≤ k) ∧ Drawn0 w wc)
  case first =>
    have H := HC2.out
    clear HC2
    have H' := Aside0.mk H
    clear H
    go_wp2
    go_loopg [3] k (fun kq v3 w' => ∃ (x3_1 : Int), v3 = .int .i64 x3_1 ∧ Aside0 (boltingref02_Trim.l0 kq a0 x3_1 (a0.size : Int) = some r) ∧ Aside0 (kq ≤ k) ∧ Drawn0 w w')
    case atStart => exact ⟨(0), (by first | rfl | (simp; done) | (simp [*]; done)), H', ⟨Nat.le_refl _⟩, by repeat (first | exact Drawn0.refl _ | apply Drawn0.step)⟩
    case round =>
      clear H'
      try clear p2
      obtain ⟨x3_1, rfl, HA, HK1, ⟨m1, rfl⟩⟩ := hrel
      cases gk with
      | zero => exact absurd HA.out (by simp [boltingref02_Trim.l0])
      | succ k1 =>
        have H := HA.out
        clear HA
        simp only [boltingref02_Trim.l0] at H
        by_cases c3 : x3_1 < (a0.size : Int)
        · rw [if_pos c3] at H
          have c3b0 : decide (x3_1 < (a0.size : Int)) = true := decide_eq_true c3
          clear c3
          (first | rw [c3b0] | (simp only [i64_w, i32_w]; rw [c3b0]) | skip)
          by_cases c4 : 0 ≤ x3_1
          · rw [if_pos c4] at H
            have c4b0 : decide (0 ≤ x3_1) = true := decide_eq_true c4
            clear c4
            by_cases c5 : x3_1 < (a0.size : Int)
            · rw [if_pos c5] at H
              have c5b0 : decide (x3_1 < (a0.size : Int)) = true := decide_eq_true c5
              clear c5
              replace H := Option.bind_eq_some_iff.mp H
              obtain ⟨t137, A70, H⟩ := H
              replace H : (if t137 = true then (boltingref02_Trim.l0 k1 a0 (wrap64 (x3_1 + 1)) (a0.size : Int)) else (boltingref02_Trim.j1 k1 a0 x3_1 (a0.size : Int))) = some r := H
              have A7 := Aside0.mk A70
              clear A70
              by_cases c8 : t137 = true
              · subst c8
                have H1 : (boltingref02_Trim.l0 k1 a0 (wrap64 (x3_1 + 1)) (a0.size : Int)) = some r := by rw [if_pos rfl] at H; exact H
                clear H
                have H := H1
                clear H1
                have H' := Aside0.mk H
                clear H
                have p6 : 0 ≤ (x3_1 : Int) := (by first | exact of_decide_eq_true (by first | (with_reducible assumption) | assumption) | assumption | omega)
                have q6 : x3_1 < (a0.size : Int) := (by first | exact of_decide_eq_true (by first | (with_reducible assumption) | assumption) | assumption | omega)
                have hx6 := bt_at a0 x3_1
                replace p6 := eq_true p6
                replace q6 := eq_true q6
                go_wp2_with (first | (go_at_call 85; (with_reducible refine (boltingref02_Space.calls (bt a0 x3_1) true _ A7.out).mono ?_); rintro e w' ⟨rfl, ⟨nd, rfl⟩⟩))
                go_roundg k1
                case measure => have := HK1.out; omega
                case rel => exact ⟨(wrap64 (x3_1 + 1)), (by first | rfl | (simp; done) | (simp [*]; done)), H', ⟨by have := HK1.out; omega⟩, by repeat (first | exact Drawn0.refl _ | apply Drawn0.step)⟩
              · replace c8 := Bool.eq_false_iff.mpr c8
                subst c8
                have H1 : (boltingref02_Trim.j1 k1 a0 x3_1 (a0.size : Int)) = some r := by rw [if_neg (show ¬ (false = true) by decide)] at H; first | exact H | (simp only [eq_self] at H ⊢; exact H) | (simp only [eq_self, if_true] at H ⊢; exact H)
                clear H
                have H := H1
                clear H1
                have H' := Aside0.mk H
                clear H
                have p6 : 0 ≤ (x3_1 : Int) := (by first | exact of_decide_eq_true (by first | (with_reducible assumption) | assumption) | assumption | omega)
                have q6 : x3_1 < (a0.size : Int) := (by first | exact of_decide_eq_true (by first | (with_reducible assumption) | assumption) | assumption | omega)
                have hx6 := bt_at a0 x3_1
                replace p6 := eq_true p6
                replace q6 := eq_true q6
                go_wp2_with (first | (go_at_call 85; (with_reducible refine (boltingref02_Space.calls (bt a0 x3_1) false _ A7.out).mono ?_); rintro e w' ⟨rfl, ⟨nd, rfl⟩⟩))
                go_meet
                case rel => exact ⟨_, (x3_1), (by first | rfl | (simp; done) | (simp [*]; done)), H', ⟨by have := HK1.out; first | omega | exact Nat.le_refl _⟩, by repeat (first | exact Drawn0.refl _ | apply Drawn0.step)⟩
            · rw [if_neg c5] at H
              exact absurd H (by simp)
          · rw [if_neg c4] at H
            exact absurd H (by simp)
        · rw [if_neg c3] at H
          have c3b0 : decide (x3_1 < (a0.size : Int)) = false := decide_eq_false c3
          clear c3
          (first | rw [c3b0] | (simp only [i64_w, i32_w]; rw [c3b0]) | skip)
          have H' := Aside0.mk H
          clear H
          go_wp2
          go_meet
          case rel => exact ⟨_, (x3_1), (by first | rfl | (simp; done) | (simp [*]; done)), H', ⟨by have := HK1.out; first | omega | exact Nat.le_refl _⟩, by repeat (first | exact Drawn0.refl _ | apply Drawn0.step)⟩
  case rest =>
    clear HC2
    try clear p2
    try clear c3
    try clear c3b0
    try clear c4
    try clear c4b0
    try clear c5
    try clear c5b0
    try clear p6
    try clear q6
    try clear hx6
    try clear c8
    try clear p2
    try clear p6
    try clear q6
    obtain ⟨kq, x3_1, rfl, HA, HJ1, ⟨mc1, rfl⟩⟩ := hcut
    cases kq with
    | zero => exact absurd HA.out (by simp [boltingref02_Trim.j1])
    | succ kj1 =>
      have H := HA.out
      clear HA
      simp only [boltingref02_Trim.j1] at H
      have H' := Aside0.mk H
      clear H
      go_wp2
      go_loopg [4] kj1 (fun kq v4 w' => ∃ (x4_2 : Int), v4 = .int .i64 x4_2 ∧ Aside0 (boltingref02_Trim.l1 kq a0 x3_1 x4_2 = some r) ∧ Aside0 (kq ≤ kj1) ∧ Drawn0 w w')
      case atStart => exact ⟨((a0.size : Int)), (by first | rfl | (simp; done) | (simp [*]; done)), H', ⟨Nat.le_refl _⟩, by repeat (first | exact Drawn0.refl _ | apply Drawn0.step)⟩
      case round =>
        clear H'
        try clear c1
        try clear p2
        try clear c3
        try clear c3b0
        try clear c4
        try clear c4b0
        try clear c5
        try clear c5b0
        try clear p6
        try clear q6
        try clear hx6
        try clear c8
        try clear p2
        try clear p6
        try clear q6
        obtain ⟨x4_2, rfl, HA, HK2, ⟨m2, rfl⟩⟩ := hrel
        cases gk with
        | zero => exact absurd HA.out (by simp [boltingref02_Trim.l1])
        | succ k2 =>
          have H := HA.out
          clear HA
          simp only [boltingref02_Trim.l1] at H
          by_cases c9 : x4_2 > x3_1
          · rw [if_pos c9] at H
            have c9b0 : decide (x3_1 < x4_2) = true := decide_eq_true c9
            clear c9
            obtain ⟨ji10, hji10⟩ : ∃ j_ : Int, (wrap64 (x4_2 - 1)) = j_ := ⟨_, rfl⟩
            replace H : (if 0 ≤ (ji10) then (if (ji10) < (a0.size : Int) then ((boltingref02_Space.f (bt a0 (ji10))).bind fun t138 => (if t138 = true then (boltingref02_Trim.l1 k2 a0 x3_1 ji10) else (if 0 ≤ x3_1 then (if x3_1 ≤ x4_2 then (if x4_2 ≤ (a0.size : Int) then (some (a0.extract (x3_1 : Int).toNat (x4_2 : Int).toNat)) else (none)) else (none)) else (none)))) else (none)) else (none)) = some r := by first | (rw [hji10] at H; exact H) | (simp only [hji10] at H ⊢; exact H)
            have hji10w : (IntKind.i64.wrap (x4_2 - 1)) = ji10 := (i64_w _).trans hji10
            by_cases c11 : 0 ≤ (ji10)
            · rw [if_pos c11] at H
              have c11b0 : decide (0 ≤ (ji10)) = true := decide_eq_true c11
              clear c11
              by_cases c12 : (ji10) < (a0.size : Int)
              · rw [if_pos c12] at H
                have c12b0 : decide ((ji10) < (a0.size : Int)) = true := decide_eq_true c12
                clear c12
                replace H := Option.bind_eq_some_iff.mp H
                obtain ⟨t138, A140, H⟩ := H
                replace H : (if t138 = true then (boltingref02_Trim.l1 k2 a0 x3_1 ji10) else (if 0 ≤ x3_1 then (if x3_1 ≤ x4_2 then (if x4_2 ≤ (a0.size : Int) then (some (a0.extract (x3_1 : Int).toNat (x4_2 : Int).toNat)) else (none)) else (none)) else (none))) = some r := H
                have A14 := Aside0.mk A140
                clear A140
                by_cases c15 : t138 = true
                · subst c15
                  have H1 : (boltingref02_Trim.l1 k2 a0 x3_1 ji10) = some r := by rw [if_pos rfl] at H; exact H
                  clear H
                  have H := H1
                  clear H1
                  have H' := Aside0.mk H
                  clear H
                  have p13 : 0 ≤ ((ji10) : Int) := (by first | exact of_decide_eq_true (by first | (with_reducible assumption) | assumption) | assumption | omega)
                  have q13 : (ji10) < (a0.size : Int) := (by first | exact of_decide_eq_true (by first | (with_reducible assumption) | assumption) | assumption | omega)
                  have hx13 := bt_at a0 (ji10)
                  replace p13 := eq_true p13
                  replace q13 := eq_true q13
                  go_wp2_with (first | (go_at_call 85; (with_reducible refine (boltingref02_Space.calls (bt a0 (ji10)) true _ A14.out).mono ?_); rintro e w' ⟨rfl, ⟨nd, rfl⟩⟩))
                  go_roundg k2
                  case measure => have := HJ1.out; have := HK2.out; omega
                  case rel => exact ⟨(ji10), (by first | rfl | (simp; done) | (simp only [← hji10] <;> (first | rfl | simp)) | (simp [*]; done)), H', ⟨by have := HJ1.out; have := HK2.out; omega⟩, by repeat (first | exact Drawn0.refl _ | apply Drawn0.step)⟩
                · replace c15 := Bool.eq_false_iff.mpr c15
                  subst c15
                  have H1 : (if 0 ≤ x3_1 then (if x3_1 ≤ x4_2 then (if x4_2 ≤ (a0.size : Int) then (some (a0.extract (x3_1 : Int).toNat (x4_2 : Int).toNat)) else (none)) else (none)) else (none)) = some r := by rw [if_neg (show ¬ (false = true) by decide)] at H; first | exact H | (simp only [eq_self] at H ⊢; exact H) | (simp only [eq_self, if_true] at H ⊢; exact H)
                  clear H
                  have H := H1
                  clear H1
                  by_cases c16 : 0 ≤ x3_1
                  · rw [if_pos c16] at H
                    have c16b0 := eq_true c16
                    have c16b1 : decide (0 ≤ x3_1) = true := decide_eq_true c16
                    clear c16
                    by_cases c17 : x3_1 ≤ x4_2
                    · rw [if_pos c17] at H
                      have c17b0 := eq_true c17
                      have c17b1 : decide (x3_1 ≤ x4_2) = true := decide_eq_true c17
                      clear c17
                      by_cases c18 : x4_2 ≤ (a0.size : Int)
                      · rw [if_pos c18] at H
                        have c18b0 := eq_true c18
                        have c18b1 : decide (x4_2 ≤ (a0.size : Int)) = true := decide_eq_true c18
                        clear c18
                        obtain rfl := Option.some.inj H
                        have p13 : 0 ≤ ((ji10) : Int) := (by first | exact of_decide_eq_true (by first | (with_reducible assumption) | assumption) | assumption | omega)
                        have q13 : (ji10) < (a0.size : Int) := (by first | exact of_decide_eq_true (by first | (with_reducible assumption) | assumption) | assumption | omega)
                        have hx13 := bt_at a0 (ji10)
                        replace p13 := eq_true p13
                        replace q13 := eq_true q13
                        go_wp2_with (first | (go_at_call 85; (with_reducible refine (boltingref02_Space.calls (bt a0 (ji10)) false _ A14.out).mono ?_); rintro e w' ⟨rfl, ⟨nd, rfl⟩⟩))
                        go_ret
                        exact ⟨by first | rfl | (simp; done) | (simp only [← hji10] <;> (first | rfl | simp)) | (simp [*]; done), by repeat (first | exact Drawn0.refl _ | apply Drawn0.step)⟩
                      · rw [if_neg c18] at H
                        exact absurd H (by simp)
                    · rw [if_neg c17] at H
                      exact absurd H (by simp)
                  · rw [if_neg c16] at H
                    exact absurd H (by simp)
              · rw [if_neg c12] at H
                exact absurd H (by simp)
            · rw [if_neg c11] at H
              exact absurd H (by simp)
          · rw [if_neg c9] at H
            have c9b0 : decide (x3_1 < x4_2) = false := decide_eq_false c9
            clear c9
            by_cases c19 : 0 ≤ x3_1
            · rw [if_pos c19] at H
              have c19b0 := eq_true c19
              have c19b1 : decide (0 ≤ x3_1) = true := decide_eq_true c19
              clear c19
              by_cases c20 : x3_1 ≤ x4_2
              · rw [if_pos c20] at H
                have c20b0 := eq_true c20
                have c20b1 : decide (x3_1 ≤ x4_2) = true := decide_eq_true c20
                clear c20
                by_cases c21 : x4_2 ≤ (a0.size : Int)
                · rw [if_pos c21] at H
                  have c21b0 := eq_true c21
                  have c21b1 : decide (x4_2 ≤ (a0.size : Int)) = true := decide_eq_true c21
                  clear c21
                  obtain rfl := Option.some.inj H
                  go_wp2
                  go_ret
                  exact ⟨by first | rfl | (simp; done) | (simp [*]; done), by repeat (first | exact Drawn0.refl _ | apply Drawn0.step)⟩
                · rw [if_neg c21] at H
                  exact absurd H (by simp)
              · rw [if_neg c20] at H
                exact absurd H (by simp)
            · rw [if_neg c19] at H
              exact absurd H (by simp)

end Go.Proofs.YtdnbaliibiginaaGreatDoorH.TI
