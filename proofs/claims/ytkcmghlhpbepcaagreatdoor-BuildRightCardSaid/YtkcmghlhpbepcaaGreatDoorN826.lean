/- Lemmas and walks, part 26: QScanF. -/
import Derived.Test.YtkcmghlhpbepcaaGreatDoorN825
set_option linter.unusedVariables false
set_option linter.unusedSimpArgs false

/- Contract of token's scanner: tag: a tag, whose letter stands at a place. What lay below the scanner's own blocks does not turn. -/
namespace Go.Proofs.YtkcmghlhpbepcaaGreatDoor
open Go.RowKit Go.Proofs
theorem inside_c (base b : Nat) (S t nm : Txt) (l : List Tok) (hs : S.length ≤ 1000000000) (hnm : nm.length ≤ 1000000000) (hl : l.length ≤ 10000000000) (w : World) (hsc : Sc w base b S t l) (hE : Env w base) :
 Calls Tryz.prog 115 #[.pointer (some ⟨b, 0, none⟩), .string ⟨nm.toArray⟩] w fun r w' => r = .returned (.tuple #[]) ∧ Sc w' base b (insideR nm S) t (l ++ insideT nm S) ∧ Below base w w' := by
 unfold insideT insideR
 by_cases h : S.take (endF nm S) = []
 ·rw [if_pos h, List.append_nil]
  exact inside_A base b S t nm l hs hnm hl h w hsc hE
 ·rw [if_neg h]
  cases hq : softB nm with
  | true => exact inside_B base b S t nm l hs hnm hl h hq w hsc hE
  | false => exact inside_C base b S t nm l hs hnm hl h hq w hsc hE
theorem Atts.mono {w : World} {base base' : Nat} {v : Value} {l : List (Txt × Txt)} (h : Atts w base' v l) (hb : base ≤ base') : Atts w base v l := by
 obtain ⟨h1, h2⟩ := h
 refine ⟨h1, ?_⟩
 rcases h2 with h2 | ⟨g, cap, cur, e1, e2, e3⟩
 ·exact .inl h2
 ·exact .inr ⟨g, cap, cur, e1, Nat.le_trans hb e2, e3⟩
theorem Toks.setTok {w : World} {base tb j : Nat} {v x : Value} {l : List Tok} {cur : Array Value} {fz : Nat × Nat} (h : Toks w base v l) (hne : v.ownBlock ≠ some tb) (hb : w.heap[tb]? = some (.cells cur 65 fz)) : Toks (w.setCell ⟨tb, j, none⟩ x) base v l := by
 obtain ⟨ps, k1, k2, k3⟩ := h
 exact ⟨ps, k1, World.ownsRow.kept k2 (grown_set w ⟨tb, j, none⟩ x) (.inr hne), fun p hp => own_other (k3 p hp) (grown_set w ⟨tb, j, none⟩ x) hb (by decide)⟩
theorem Toks.fresh {w : World} {base : Nat} {v : Value} {l : List Tok} (h : Toks w base v l) : v.ownBlock ≠ some w.heap.size := by
 obtain ⟨ps, k1, k2, k3⟩ := h
 intro e
 obtain ⟨cur, hc⟩ := own_cells k2 e
 have := (Array.getElem?_eq_some_iff.1 hc).1
 omega
theorem Atts.set {w : World} {base b j : Nat} {v x : Value} {l : List (Txt × Txt)} {cur : Array Value} {e' : TypeId} {fz : Nat × Nat} (h : Atts w base v l) (hb : w.heap[b]? = some (.cells cur e' fz)) (hne : e' ≠ 36) : Atts (w.setCell ⟨b, j, none⟩ x) base v l := own_other h (grown_set w ⟨b, j, none⟩ x) hb hne
theorem app_kept {w w' : World} {v : Value} {tb : Nat} {o : Obj} (hg : w.grownBy w' v.ownBlock) (hb : w.heap[tb]? = some o) (hne : v.ownBlock ≠ some tb) : w'.heap[tb]? = some o :=
 (hg.block tb (Array.getElem?_eq_some_iff.1 hb).1 (fun e => hne e.symm)).trans hb
structure TagLay (w2 W : World) (base b tb : Nat) (r : Txt) (v1 : Value) (l1 : List Tok) (k : Int) (nm : Txt) (va : Value) (at0 : List (Txt × Txt)) (sf : Bool) : Prop where
 hb : W.heap[b]? = some (.cells #[.string ⟨r.toArray⟩, .string ⟨#[]⟩, v1] 92 (0, 0))
 ht : W.heap[tb]? = some (.cells #[.int .i64 k, .string ⟨nm.toArray⟩, .string ⟨#[]⟩, va, .bool sf] 65 (0, 0))
 toks : Toks W base v1 l1
 atts : Atts W base va at0
 below : Below base w2 W
 ne : v1.ownBlock ≠ some tb
theorem tag_lay1 {w2 : World} {base b : Nat} {S r nm : Txt} {v1 va : Value} {l1 : List Tok} {at0 : List (Txt × Txt)} {sf : Bool} (k : Int) (hh2 : w2.heap[b]? = some (.cells #[.string ⟨S.toArray⟩, .string ⟨#[]⟩, v1] 92 (0, 0))) (hT2 : Toks w2 base v1 l1) (hA : Atts w2 base va at0) (hbb : base ≤ b) (hle : base ≤ w2.heap.size) :
 TagLay w2 (((w2.alloc (.cells #[.int .i64 0, .string ⟨nm.toArray⟩, .string ⟨#[]⟩, va, .bool sf] 65)).setCell ⟨b, 0, none⟩ (.string ⟨r.toArray⟩)).setCell ⟨w2.heap.size, 0, none⟩ (.int .i64 k)) base b w2.heap.size r v1 l1 k nm va at0 sf := by
 have hlt := heap_lt hh2
 have a1 := heap_old hh2 (.cells #[.int .i64 0, .string ⟨nm.toArray⟩, .string ⟨#[]⟩, va, .bool sf] 65)
 have a2 := new_cells w2 #[.int .i64 0, .string ⟨nm.toArray⟩, .string ⟨#[]⟩, va, .bool sf] 65
 have a3 := hT2.alloc (.cells #[.int .i64 0, .string ⟨nm.toArray⟩, .string ⟨#[]⟩, va, .bool sf] 65)
 have a4 : Atts (w2.alloc (.cells #[.int .i64 0, .string ⟨nm.toArray⟩, .string ⟨#[]⟩, va, .bool sf] 65)) base va at0 := World.ownsRow.alloc hA _
 have a5 := (Below.refl base w2).alloc hle (.cells #[.int .i64 0, .string ⟨nm.toArray⟩, .string ⟨#[]⟩, va, .bool sf] 65)
 generalize w2.alloc (.cells #[.int .i64 0, .string ⟨nm.toArray⟩, .string ⟨#[]⟩, va, .bool sf] 65) = W3 at *
 have hfr := hT2.fresh
 generalize hz : w2.heap.size = tb at *
 have hne1 : tb ≠ b := by omega
 have hne2 : b ≠ tb := by omega
 have b1 : (W3.setCell ⟨b, 0, none⟩ (.string ⟨r.toArray⟩)).heap[b]? = some (.cells #[.string ⟨r.toArray⟩, .string ⟨#[]⟩, v1] 92 (0, 0)) := heap_setCell_same W3 b 0 _ _ _ a1
 have b2 : (W3.setCell ⟨b, 0, none⟩ (.string ⟨r.toArray⟩)).heap[tb]? = some (.cells #[.int .i64 0, .string ⟨nm.toArray⟩, .string ⟨#[]⟩, va, .bool sf] 65 (0, 0)) := (heap_setCell_other W3 ⟨b, 0, none⟩ tb _ hne1).trans a2
 have b3 : Toks (W3.setCell ⟨b, 0, none⟩ (.string ⟨r.toArray⟩)) base v1 l1 := a3.other (grown_set W3 ⟨b, 0, none⟩ _) a1 (by decide) (by decide)
 have b4 : Atts (W3.setCell ⟨b, 0, none⟩ (.string ⟨r.toArray⟩)) base va at0 := a4.set a1 (by decide)
 have b5 := below_set (j := 0) a5 hbb (.string ⟨r.toArray⟩)
 generalize W3.setCell ⟨b, 0, none⟩ (.string ⟨r.toArray⟩) = W4 at *
 exact ⟨(heap_setCell_other W4 ⟨tb, 0, none⟩ b _ hne2).trans b1, heap_setCell_same W4 tb 0 _ _ _ b2, b3.setTok hfr b2, b4.set b2 (by decide), below_set b5 (by omega) _, hfr⟩
theorem tag_lay2 {w2 W : World} {base b tb : Nat} {r nm : Txt} {v1 va : Value} {l1 : List Tok} {k : Int} {at0 : List (Txt × Txt)} {sf : Bool} (hne : b ≠ tb) (hle : base ≤ tb) (h : TagLay w2 W base b tb r v1 l1 k nm va at0 sf) :
 TagLay w2 ((W.setCell ⟨tb, 3, none⟩ (.slice none 0 0)).setCell ⟨tb, 4, none⟩ (.bool false)) base b tb r v1 l1 k nm (.slice none 0 0) [] false := by
 obtain ⟨b1, b2, b3, b4, b5, hfr⟩ := h
 have d1 := (heap_setCell_other W ⟨tb, 3, none⟩ b (.slice none 0 0) hne).trans b1
 have d2 : (W.setCell ⟨tb, 3, none⟩ (.slice none 0 0)).heap[tb]? = some (.cells #[.int .i64 k, .string ⟨nm.toArray⟩, .string ⟨#[]⟩, .slice none 0 0, .bool sf] 65 (0, 0)) := heap_setCell_same W tb 3 _ _ _ b2
 have d3 := b3.setTok (j := 3) (x := .slice none 0 0) hfr b2
 have d5 := below_set (j := 3) b5 hle (.slice none 0 0)
 generalize W.setCell ⟨tb, 3, none⟩ (.slice none 0 0) = W4 at *
 exact ⟨(heap_setCell_other W4 ⟨tb, 4, none⟩ b _ hne).trans d1, heap_setCell_same W4 tb 4 _ _ _ d2, d3.setTok hfr d2, Atts.nil _ _, below_set d5 hle _, hfr⟩
set_option maxHeartbeats 4000000 in
set_option maxRecDepth 100000 in
theorem tag_E (base b : Nat) (S t : Txt) (l : List Tok) (hs : S.length ≤ 1000000000) (hs2 : 2 ≤ S.length) (ht : t.length ≤ 1000000000) (hl : l.length ≤ 9000000000) (nm : Txt) (at0 : List (Txt × Txt)) (sf : Bool) (r : Txt) (ho : openedF (S.drop 2) = some (⟨0, nm, at0, [], sf⟩, r)) (w : World) (hsc : Sc w base b S t l) (hE : Env w base) :
 Calls Tryz.prog 191 #[.pointer (some ⟨b, 0, none⟩), .int .i64 2, .int .i64 2] w fun e w' => e = .returned (.tuple #[]) ∧ Sc w' base b r [] ((l ++ tellF t) ++ [⟨2, nm, [], [], false⟩]) ∧ Below base w w' := by
 have hbb := hsc.1
 have hc1 := Lib.hid (tell_c base b S t l ht (by omega) w hsc hE)
 have hl1 : (l ++ tellF t).length ≤ 9000000001 := by unfold tellF; split <;> simp <;> omega
 generalize l ++ tellF t = l1 at *
 have hc2 := Lib.hid (fun W hS => opened_c (S.drop 2) (by simp; omega) W hS)
 rw [ho] at hc2
 simp only [openV, openA] at hc2
 have h2I : (2 : Int) ≤ S.length := by omega
 go_enter Tryz.func191, Tryz.ntmps191
 go_wp2_with (first
  | (go_at_call 159; ((with_reducible refine (hc1.out).mono ?_); rintro e w1 ⟨rfl, hsc1, hb1⟩; have hE1 := hE.below hb1; obtain ⟨_, v1, hh1, hT1⟩ := id hsc1; obtain ⟨ad1, cp1, rfl⟩ := hT1.len; obtain ⟨⟨d0, d1, d2⟩, d5⟩ := three_facts hh1; have hle1 := hE1.le; have hS1 := hE1.std; have hlt1 := heap_lt hh1))
  | (go_at_call 213; ((with_reducible refine (hc2.out _ hS1).mono ?_); rintro e w2 ⟨va, rfl, hA2, hb2⟩; obtain ⟨ad2, cp2, rfl⟩ := hA2.len; have hh2 := heap_below hh1 hb2; obtain ⟨⟨f0, f1, f2⟩, f5⟩ := three_facts hh2; have hT2 := hT1.below hb2; have hb2s := hb2.size; have hne1 : b ≠ w2.heap.size := (by omega); have hne2 : w2.heap.size ≠ b := (by omega); have hle2 : base ≤ w2.heap.size := (by omega); have hh3 := heap_old hh2 (.cells #[.int .i64 0, .string ⟨nm.toArray⟩, .string ⟨#[]⟩, .slice ad2 at0.length cp2, .bool sf] 65); obtain ⟨⟨p0, p1, p2⟩, p5⟩ := three_facts hh3; obtain ⟨⟨g0, g1, g2, g3, g4⟩, g5⟩ := five_facts (new_cells w2 #[.int .i64 0, .string ⟨nm.toArray⟩, .string ⟨#[]⟩, .slice ad2 at0.length cp2, .bool sf] 65); have hBb := below_then hb1 hle1 hb2; have hL := tag_lay1 (r := r) (nm := nm) (sf := sf) 2 hh2 hT2 (hA2.mono hle1) hbb hle2; have hL := tag_lay2 hne1 hle2 hL)))
 have hLb := hBb.trans hL.below
 have hW0 := hL.hb
 have hW1 := hL.ht
 have hWT := hL.toks
 have hWA := hL.atts
 have hWn := hL.ne
 clear hL p0 p1 p2 p5 g0 g1 g2 g3 g4 g5 hh3
 generalize ((((w2.alloc (.cells #[.int .i64 0, .string ⟨nm.toArray⟩, .string ⟨#[]⟩, .slice ad2 at0.length cp2, .bool sf] 65)).setCell ⟨b, 0, none⟩ (.string ⟨r.toArray⟩)).setCell ⟨w2.heap.size, 0, none⟩ (.int .i64 2)).setCell ⟨w2.heap.size, 3, none⟩ (.slice none 0 0)).setCell ⟨w2.heap.size, 4, none⟩ (.bool false) = W7 at *
 generalize w2.heap.size = tb at *
 obtain ⟨⟨c0, c1, c2⟩, c5⟩ := three_facts hW0
 obtain ⟨⟨g0, g1, g2, g3, g4⟩, g5⟩ := five_facts hW1
 have hE7 := hE.below hLb
 have hle7 := hE7.le
 have hY0 := heap_old hW0 (.cells #[.int .i64 2, .string ⟨nm.toArray⟩, .string ⟨#[]⟩, .slice none 0 0, .bool false] 65)
 obtain ⟨⟨y0, y1, y2⟩, y5⟩ := three_facts hY0
 obtain ⟨⟨z0, z1, z2, z3, z4⟩, z5⟩ := five_facts (new_cells W7 #[.int .i64 2, .string ⟨nm.toArray⟩, .string ⟨#[]⟩, .slice none 0 0, .bool false] 65)
 have hX0 : ((W7.alloc (.cells #[.int .i64 2, .string ⟨nm.toArray⟩, .string ⟨#[]⟩, .slice none 0 0, .bool false] 65)).drew).heap[b]? = _ := hY0
 have hX1 : ((W7.alloc (.cells #[.int .i64 2, .string ⟨nm.toArray⟩, .string ⟨#[]⟩, .slice none 0 0, .bool false] 65)).drew).heap[tb]? = _ := heap_old hW1 (.cells #[.int .i64 2, .string ⟨nm.toArray⟩, .string ⟨#[]⟩, .slice none 0 0, .bool false] 65)
 obtain ⟨⟨k0, k1, k2, k3, k4⟩, k5⟩ := five_facts (w := (W7.alloc (.cells #[.int .i64 2, .string ⟨nm.toArray⟩, .string ⟨#[]⟩, .slice none 0 0, .bool false] 65)).drew) (new_cells W7 #[.int .i64 2, .string ⟨nm.toArray⟩, .string ⟨#[]⟩, .slice none 0 0, .bool false] 65)
 have hXT := (hWT.alloc (.cells #[.int .i64 2, .string ⟨nm.toArray⟩, .string ⟨#[]⟩, .slice none 0 0, .bool false] 65)).below (Below.refl _ _).drew
 have hXA : Atts (W7.alloc (.cells #[.int .i64 2, .string ⟨nm.toArray⟩, .string ⟨#[]⟩, .slice none 0 0, .bool false] 65)).drew base (.slice none 0 0) [] := Atts.below (World.ownsRow.alloc hWA (.cells #[.int .i64 2, .string ⟨nm.toArray⟩, .string ⟨#[]⟩, .slice none 0 0, .bool false] 65)) (Below.refl _ _).drew
 have hXB := (hLb.alloc (by exact hle7) (.cells #[.int .i64 2, .string ⟨nm.toArray⟩, .string ⟨#[]⟩, .slice none 0 0, .bool false] 65)).drew
 have hle8 : base ≤ ((W7.alloc (.cells #[.int .i64 2, .string ⟨nm.toArray⟩, .string ⟨#[]⟩, .slice none 0 0, .bool false] 65)).drew).heap.size := hXB.size |> Nat.le_trans hE.le
 go_region_law (refine step_tok rfl (.tmp 41) (.tmp 43) rfl base W7.heap.size (.slice ad1 l1.length cp1) (.slice none 0 0) l1 ⟨2, nm, [], [], false⟩ rfl hXT rfl k0 k1 k2 k3 k4 hXA (by omega) hle8 ?_; intro v5 w5 hT5 hg5 hb5 hk5; obtain ⟨ad5, cp5, rfl⟩ := hT5.len; rw [show (l1 ++ [(⟨2, nm, [], [], false⟩ : Tok)]).length = l1.length + 1 from List.length_append] at hT5; have hh5 := hk5 _ _ _ _ hX0 (by decide); obtain ⟨⟨e0, e1, e2⟩, e5⟩ := three_facts hh5; have hB5 := hXB.trans hb5)
 all_goals
  have hfin := Sc.set_o (l := l1) hbb hh5 hT5
  have hbf := fun x => below_set (j := 2) hB5 hbb x
  go_wp2
  go_end0
  exact ⟨rfl, hfin, hbf _⟩
set_option maxHeartbeats 4000000 in
set_option maxRecDepth 100000 in
theorem tag_P (base b : Nat) (S t : Txt) (l : List Tok) (hs : S.length ≤ 1000000000) (hs2 : 1 ≤ S.length) (ht : t.length ≤ 1000000000) (hl : l.length ≤ 9000000000) (nm : Txt) (at0 : List (Txt × Txt)) (sf : Bool) (r : Txt) (ho : openedF (S.drop 1) = some (⟨0, nm, at0, [], sf⟩, r)) (hr : rawB nm = false) (hso : softB nm = false) (w : World) (hsc : Sc w base b S t l) (hE : Env w base) :
 Calls Tryz.prog 191 #[.pointer (some ⟨b, 0, none⟩), .int .i64 1, .int .i64 1] w fun e w' => e = .returned (.tuple #[]) ∧ Sc w' base b r [] ((l ++ tellF t) ++ [⟨1, nm, at0, [], sf⟩]) ∧ Below base w w' := by
 have hbb := hsc.1
 have hc1 := Lib.hid (tell_c base b S t l ht (by omega) w hsc hE)
 have hl1 : (l ++ tellF t).length ≤ 9000000001 := by unfold tellF; split <;> simp <;> omega
 generalize l ++ tellF t = l1 at *
 have hc2 := Lib.hid (fun W hS => opened_c (S.drop 1) (by simp; omega) W hS)
 rw [ho] at hc2
 simp only [openV, openA] at hc2
 rw [List.drop_one] at hc2
 have hraw := Lib.hid (fun W => raw_c nm W)
 rw [hr] at hraw
 have hsoft := Lib.hid (fun W => soft_c nm W)
 rw [hso] at hsoft
 have h2I : (1 : Int) ≤ S.length := by omega
 go_enter Tryz.func191, Tryz.ntmps191
 go_wp2_with (first
  | (go_at_call 159; ((with_reducible refine (hc1.out).mono ?_); rintro e w1 ⟨rfl, hsc1, hb1⟩; have hE1 := hE.below hb1; obtain ⟨_, v1, hh1, hT1⟩ := id hsc1; obtain ⟨ad1, cp1, rfl⟩ := hT1.len; obtain ⟨⟨d0, d1, d2⟩, d5⟩ := three_facts hh1; have hle1 := hE1.le; have hS1 := hE1.std; have hlt1 := heap_lt hh1))
  | (go_at_call 213; ((with_reducible refine (hc2.out _ hS1).mono ?_); rintro e w2 ⟨va, rfl, hA2, hb2⟩; obtain ⟨ad2, cp2, rfl⟩ := hA2.len; have hh2 := heap_below hh1 hb2; obtain ⟨⟨f0, f1, f2⟩, f5⟩ := three_facts hh2; have hT2 := hT1.below hb2; have hb2s := hb2.size; have hne1 : b ≠ w2.heap.size := (by omega); have hne2 : w2.heap.size ≠ b := (by omega); have hle2 : base ≤ w2.heap.size := (by omega); have hh3 := heap_old hh2 (.cells #[.int .i64 0, .string ⟨nm.toArray⟩, .string ⟨#[]⟩, .slice ad2 at0.length cp2, .bool sf] 65); obtain ⟨⟨p0, p1, p2⟩, p5⟩ := three_facts hh3; obtain ⟨⟨g0, g1, g2, g3, g4⟩, g5⟩ := five_facts (new_cells w2 #[.int .i64 0, .string ⟨nm.toArray⟩, .string ⟨#[]⟩, .slice ad2 at0.length cp2, .bool sf] 65); have hBb := below_then hb1 hle1 hb2; have hL := tag_lay1 (r := r) (nm := nm) (sf := sf) 1 hh2 hT2 (hA2.mono hle1) hbb hle2)))
 have hLb := hBb.trans hL.below
 have hW0 := hL.hb
 have hW1 := hL.ht
 have hWT := hL.toks
 have hWA := hL.atts
 have hWn := hL.ne
 clear hL p0 p1 p2 p5 g0 g1 g2 g3 g4 g5 hh3
 generalize ((w2.alloc (.cells #[.int .i64 0, .string ⟨nm.toArray⟩, .string ⟨#[]⟩, .slice ad2 at0.length cp2, .bool sf] 65)).setCell ⟨b, 0, none⟩ (.string ⟨r.toArray⟩)).setCell ⟨w2.heap.size, 0, none⟩ (.int .i64 1) = W7 at *
 generalize w2.heap.size = tb at *
 obtain ⟨⟨c0, c1, c2⟩, c5⟩ := three_facts hW0
 obtain ⟨⟨g0, g1, g2, g3, g4⟩, g5⟩ := five_facts hW1
 have hE7 := hE.below hLb
 have hle7 := hE7.le
 have hY0 := heap_old hW0 (.cells #[.int .i64 1, .string ⟨nm.toArray⟩, .string ⟨#[]⟩, .slice ad2 at0.length cp2, .bool sf] 65)
 obtain ⟨⟨y0, y1, y2⟩, y5⟩ := three_facts hY0
 obtain ⟨⟨z0, z1, z2, z3, z4⟩, z5⟩ := five_facts (new_cells W7 #[.int .i64 1, .string ⟨nm.toArray⟩, .string ⟨#[]⟩, .slice ad2 at0.length cp2, .bool sf] 65)
 have hX0 : ((W7.alloc (.cells #[.int .i64 1, .string ⟨nm.toArray⟩, .string ⟨#[]⟩, .slice ad2 at0.length cp2, .bool sf] 65)).drew).heap[b]? = _ := hY0
 have hX1 : ((W7.alloc (.cells #[.int .i64 1, .string ⟨nm.toArray⟩, .string ⟨#[]⟩, .slice ad2 at0.length cp2, .bool sf] 65)).drew).heap[tb]? = _ := heap_old hW1 (.cells #[.int .i64 1, .string ⟨nm.toArray⟩, .string ⟨#[]⟩, .slice ad2 at0.length cp2, .bool sf] 65)
 obtain ⟨⟨k0, k1, k2, k3, k4⟩, k5⟩ := five_facts (w := (W7.alloc (.cells #[.int .i64 1, .string ⟨nm.toArray⟩, .string ⟨#[]⟩, .slice ad2 at0.length cp2, .bool sf] 65)).drew) (new_cells W7 #[.int .i64 1, .string ⟨nm.toArray⟩, .string ⟨#[]⟩, .slice ad2 at0.length cp2, .bool sf] 65)
 have hXT := (hWT.alloc (.cells #[.int .i64 1, .string ⟨nm.toArray⟩, .string ⟨#[]⟩, .slice ad2 at0.length cp2, .bool sf] 65)).below (Below.refl _ _).drew
 have hXA : Atts (W7.alloc (.cells #[.int .i64 1, .string ⟨nm.toArray⟩, .string ⟨#[]⟩, .slice ad2 at0.length cp2, .bool sf] 65)).drew base (.slice ad2 at0.length cp2) at0 := Atts.below (World.ownsRow.alloc hWA (.cells #[.int .i64 1, .string ⟨nm.toArray⟩, .string ⟨#[]⟩, .slice ad2 at0.length cp2, .bool sf] 65)) (Below.refl _ _).drew
 have hXB := (hLb.alloc (by exact hle7) (.cells #[.int .i64 1, .string ⟨nm.toArray⟩, .string ⟨#[]⟩, .slice ad2 at0.length cp2, .bool sf] 65)).drew
 have hle8 : base ≤ ((W7.alloc (.cells #[.int .i64 1, .string ⟨nm.toArray⟩, .string ⟨#[]⟩, .slice ad2 at0.length cp2, .bool sf] 65)).drew).heap.size := hXB.size |> Nat.le_trans hE.le
 go_region_law (refine step_tok rfl (.tmp 41) (.tmp 43) rfl base W7.heap.size (.slice ad1 l1.length cp1) (.slice ad2 at0.length cp2) l1 ⟨1, nm, at0, [], sf⟩ rfl hXT rfl k0 k1 k2 k3 k4 hXA (by omega) hle8 ?_; intro v5 w5 hT5 hg5 hb5 hk5; obtain ⟨ad5, cp5, rfl⟩ := hT5.len; rw [show (l1 ++ [(⟨1, nm, at0, [], sf⟩ : Tok)]).length = l1.length + 1 from List.length_append] at hT5; have hh5 := hk5 _ _ _ _ hX0 (by decide); obtain ⟨⟨e0, e1, e2⟩, e5⟩ := three_facts hh5; have hB5 := hXB.trans hb5; have ht5 := app_kept hg5 hX1 hWn; obtain ⟨⟨n0, n1, n2, n3, n4⟩, n5⟩ := five_facts ht5)
 all_goals
  have hfin := Sc.set_o (l := l1) hbb hh5 hT5
  have hbf := fun x => below_set (j := 2) hB5 hbb x
  have hscP := hfin
  have htP := (heap_setCell_other w5 ⟨b, 2, none⟩ tb (.slice ad5 (l1.length + 1) cp5) hne2).trans ht5
  have hBP := hbf (.slice ad5 (l1.length + 1) cp5)
  have hleP := (hE.below hBP).le
  obtain ⟨⟨m0, m1, m2, m3, m4⟩, m5⟩ := five_facts htP
  go_wp2_with (first
   | (go_at_call 32; ((with_reducible refine (hraw.out _).mono ?_); rintro e w6 ⟨rfl, hb6⟩; have hsc6 := hscP.below hb6; have ht6 := heap_below htP hb6; obtain ⟨⟨o0, o1, o2, o3, o4⟩, o5⟩ := five_facts ht6; have hb6s := hb6.size; have hB6 := below_then hBP hleP hb6; have hE6 := hE.below hB6))
   | (go_at_call 33; ((with_reducible refine (hsoft.out _).mono ?_); rintro e w7 ⟨rfl, hb7⟩)))
  go_end0
  exact ⟨rfl, hsc6.below hb7, below_then hB6 hE6.le hb7⟩
set_option maxHeartbeats 4000000 in
set_option maxRecDepth 100000 in
theorem tag_R (base b : Nat) (S t : Txt) (l : List Tok) (hs : S.length ≤ 1000000000) (hs2 : 1 ≤ S.length) (ht : t.length ≤ 1000000000) (hl : l.length ≤ 9000000000) (nm : Txt) (at0 : List (Txt × Txt)) (sf : Bool) (r : Txt) (ho : openedF (S.drop 1) = some (⟨0, nm, at0, [], sf⟩, r)) (hr : rawB nm = true) (hnl : nm.length ≤ 1000000000) (w : World) (hsc : Sc w base b S t l) (hE : Env w base) :
 Calls Tryz.prog 191 #[.pointer (some ⟨b, 0, none⟩), .int .i64 1, .int .i64 1] w fun e w' => e = .returned (.tuple #[]) ∧ Sc w' base b (insideR nm r) [] (((l ++ tellF t) ++ [⟨1, nm, at0, [], sf⟩]) ++ insideT nm r) ∧ Below base w w' := by
 have hbb := hsc.1
 have hc1 := Lib.hid (tell_c base b S t l ht (by omega) w hsc hE)
 have hl1 : (l ++ tellF t).length ≤ 9000000001 := by unfold tellF; split <;> simp <;> omega
 generalize l ++ tellF t = l1 at *
 have hc2 := Lib.hid (fun W hS => opened_c (S.drop 1) (by simp; omega) W hS)
 rw [ho] at hc2
 simp only [openV, openA] at hc2
 rw [List.drop_one] at hc2
 have hrl : r.length ≤ 1000000000 := by
  have := openedF_le ho
  simp at this
  omega
 have hraw := Lib.hid (fun W => raw_c nm W)
 rw [hr] at hraw
 have h2I : (1 : Int) ≤ S.length := by omega
 go_enter Tryz.func191, Tryz.ntmps191
 go_wp2_with (first
  | (go_at_call 159; ((with_reducible refine (hc1.out).mono ?_); rintro e w1 ⟨rfl, hsc1, hb1⟩; have hE1 := hE.below hb1; obtain ⟨_, v1, hh1, hT1⟩ := id hsc1; obtain ⟨ad1, cp1, rfl⟩ := hT1.len; obtain ⟨⟨d0, d1, d2⟩, d5⟩ := three_facts hh1; have hle1 := hE1.le; have hS1 := hE1.std; have hlt1 := heap_lt hh1))
  | (go_at_call 213; ((with_reducible refine (hc2.out _ hS1).mono ?_); rintro e w2 ⟨va, rfl, hA2, hb2⟩; obtain ⟨ad2, cp2, rfl⟩ := hA2.len; have hh2 := heap_below hh1 hb2; obtain ⟨⟨f0, f1, f2⟩, f5⟩ := three_facts hh2; have hT2 := hT1.below hb2; have hb2s := hb2.size; have hne1 : b ≠ w2.heap.size := (by omega); have hne2 : w2.heap.size ≠ b := (by omega); have hle2 : base ≤ w2.heap.size := (by omega); have hh3 := heap_old hh2 (.cells #[.int .i64 0, .string ⟨nm.toArray⟩, .string ⟨#[]⟩, .slice ad2 at0.length cp2, .bool sf] 65); obtain ⟨⟨p0, p1, p2⟩, p5⟩ := three_facts hh3; obtain ⟨⟨g0, g1, g2, g3, g4⟩, g5⟩ := five_facts (new_cells w2 #[.int .i64 0, .string ⟨nm.toArray⟩, .string ⟨#[]⟩, .slice ad2 at0.length cp2, .bool sf] 65); have hBb := below_then hb1 hle1 hb2; have hL := tag_lay1 (r := r) (nm := nm) (sf := sf) 1 hh2 hT2 (hA2.mono hle1) hbb hle2)))
 have hLb := hBb.trans hL.below
 have hW0 := hL.hb
 have hW1 := hL.ht
 have hWT := hL.toks
 have hWA := hL.atts
 have hWn := hL.ne
 clear hL p0 p1 p2 p5 g0 g1 g2 g3 g4 g5 hh3
 generalize ((w2.alloc (.cells #[.int .i64 0, .string ⟨nm.toArray⟩, .string ⟨#[]⟩, .slice ad2 at0.length cp2, .bool sf] 65)).setCell ⟨b, 0, none⟩ (.string ⟨r.toArray⟩)).setCell ⟨w2.heap.size, 0, none⟩ (.int .i64 1) = W7 at *
 generalize w2.heap.size = tb at *
 obtain ⟨⟨c0, c1, c2⟩, c5⟩ := three_facts hW0
 obtain ⟨⟨g0, g1, g2, g3, g4⟩, g5⟩ := five_facts hW1
 have hE7 := hE.below hLb
 have hle7 := hE7.le
 have hY0 := heap_old hW0 (.cells #[.int .i64 1, .string ⟨nm.toArray⟩, .string ⟨#[]⟩, .slice ad2 at0.length cp2, .bool sf] 65)
 obtain ⟨⟨y0, y1, y2⟩, y5⟩ := three_facts hY0
 obtain ⟨⟨z0, z1, z2, z3, z4⟩, z5⟩ := five_facts (new_cells W7 #[.int .i64 1, .string ⟨nm.toArray⟩, .string ⟨#[]⟩, .slice ad2 at0.length cp2, .bool sf] 65)
 have hX0 : ((W7.alloc (.cells #[.int .i64 1, .string ⟨nm.toArray⟩, .string ⟨#[]⟩, .slice ad2 at0.length cp2, .bool sf] 65)).drew).heap[b]? = _ := hY0
 have hX1 : ((W7.alloc (.cells #[.int .i64 1, .string ⟨nm.toArray⟩, .string ⟨#[]⟩, .slice ad2 at0.length cp2, .bool sf] 65)).drew).heap[tb]? = _ := heap_old hW1 (.cells #[.int .i64 1, .string ⟨nm.toArray⟩, .string ⟨#[]⟩, .slice ad2 at0.length cp2, .bool sf] 65)
 obtain ⟨⟨k0, k1, k2, k3, k4⟩, k5⟩ := five_facts (w := (W7.alloc (.cells #[.int .i64 1, .string ⟨nm.toArray⟩, .string ⟨#[]⟩, .slice ad2 at0.length cp2, .bool sf] 65)).drew) (new_cells W7 #[.int .i64 1, .string ⟨nm.toArray⟩, .string ⟨#[]⟩, .slice ad2 at0.length cp2, .bool sf] 65)
 have hXT := (hWT.alloc (.cells #[.int .i64 1, .string ⟨nm.toArray⟩, .string ⟨#[]⟩, .slice ad2 at0.length cp2, .bool sf] 65)).below (Below.refl _ _).drew
 have hXA : Atts (W7.alloc (.cells #[.int .i64 1, .string ⟨nm.toArray⟩, .string ⟨#[]⟩, .slice ad2 at0.length cp2, .bool sf] 65)).drew base (.slice ad2 at0.length cp2) at0 := Atts.below (World.ownsRow.alloc hWA (.cells #[.int .i64 1, .string ⟨nm.toArray⟩, .string ⟨#[]⟩, .slice ad2 at0.length cp2, .bool sf] 65)) (Below.refl _ _).drew
 have hXB := (hLb.alloc (by exact hle7) (.cells #[.int .i64 1, .string ⟨nm.toArray⟩, .string ⟨#[]⟩, .slice ad2 at0.length cp2, .bool sf] 65)).drew
 have hle8 : base ≤ ((W7.alloc (.cells #[.int .i64 1, .string ⟨nm.toArray⟩, .string ⟨#[]⟩, .slice ad2 at0.length cp2, .bool sf] 65)).drew).heap.size := hXB.size |> Nat.le_trans hE.le
 go_region_law (refine step_tok rfl (.tmp 41) (.tmp 43) rfl base W7.heap.size (.slice ad1 l1.length cp1) (.slice ad2 at0.length cp2) l1 ⟨1, nm, at0, [], sf⟩ rfl hXT rfl k0 k1 k2 k3 k4 hXA (by omega) hle8 ?_; intro v5 w5 hT5 hg5 hb5 hk5; obtain ⟨ad5, cp5, rfl⟩ := hT5.len; rw [show (l1 ++ [(⟨1, nm, at0, [], sf⟩ : Tok)]).length = l1.length + 1 from List.length_append] at hT5; have hh5 := hk5 _ _ _ _ hX0 (by decide); obtain ⟨⟨e0, e1, e2⟩, e5⟩ := three_facts hh5; have hB5 := hXB.trans hb5; have ht5 := app_kept hg5 hX1 hWn; obtain ⟨⟨n0, n1, n2, n3, n4⟩, n5⟩ := five_facts ht5)
 all_goals
  have hfin := Sc.set_o (l := l1) hbb hh5 hT5
  have hbf := fun x => below_set (j := 2) hB5 hbb x
  have hscP := hfin
  have htP := (heap_setCell_other w5 ⟨b, 2, none⟩ tb (.slice ad5 (l1.length + 1) cp5) hne2).trans ht5
  have hBP := hbf (.slice ad5 (l1.length + 1) cp5)
  have hleP := (hE.below hBP).le
  obtain ⟨⟨m0, m1, m2, m3, m4⟩, m5⟩ := five_facts htP
  go_wp2_with (first
   | (go_at_call 32; ((with_reducible refine (hraw.out _).mono ?_); rintro e w6 ⟨rfl, hb6⟩; have hsc6 := hscP.below hb6; have ht6 := heap_below htP hb6; obtain ⟨⟨o0, o1, o2, o3, o4⟩, o5⟩ := five_facts ht6; have hb6s := hb6.size; have hB6 := below_then hBP hleP hb6; have hE6 := hE.below hB6))
   | (go_at_call 115; ((with_reducible refine (inside_c base b r [] nm _ hrl hnl (by simp; omega) _ hsc6 hE6).mono ?_); rintro e w8 ⟨rfl, hsc8, hb8⟩)))
  go_end0
  exact ⟨rfl, hsc8, hB6.trans hb8⟩
set_option maxHeartbeats 4000000 in
set_option maxRecDepth 100000 in
theorem tag_S (base b : Nat) (S t : Txt) (l : List Tok) (hs : S.length ≤ 1000000000) (hs2 : 1 ≤ S.length) (ht : t.length ≤ 1000000000) (hl : l.length ≤ 9000000000) (nm : Txt) (at0 : List (Txt × Txt)) (sf : Bool) (r : Txt) (ho : openedF (S.drop 1) = some (⟨0, nm, at0, [], sf⟩, r)) (hr : rawB nm = false) (hso : softB nm = true) (hnl : nm.length ≤ 1000000000) (w : World) (hsc : Sc w base b S t l) (hE : Env w base) :
 Calls Tryz.prog 191 #[.pointer (some ⟨b, 0, none⟩), .int .i64 1, .int .i64 1] w fun e w' => e = .returned (.tuple #[]) ∧ Sc w' base b (insideR nm r) [] (((l ++ tellF t) ++ [⟨1, nm, at0, [], sf⟩]) ++ insideT nm r) ∧ Below base w w' := by
 have hbb := hsc.1
 have hc1 := Lib.hid (tell_c base b S t l ht (by omega) w hsc hE)
 have hl1 : (l ++ tellF t).length ≤ 9000000001 := by unfold tellF; split <;> simp <;> omega
 generalize l ++ tellF t = l1 at *
 have hc2 := Lib.hid (fun W hS => opened_c (S.drop 1) (by simp; omega) W hS)
 rw [ho] at hc2
 simp only [openV, openA] at hc2
 rw [List.drop_one] at hc2
 have hrl : r.length ≤ 1000000000 := by
  have := openedF_le ho
  simp at this
  omega
 have hraw := Lib.hid (fun W => raw_c nm W)
 rw [hr] at hraw
 have hsoft := Lib.hid (fun W => soft_c nm W)
 rw [hso] at hsoft
 have h2I : (1 : Int) ≤ S.length := by omega
 go_enter Tryz.func191, Tryz.ntmps191
 go_wp2_with (first
  | (go_at_call 159; ((with_reducible refine (hc1.out).mono ?_); rintro e w1 ⟨rfl, hsc1, hb1⟩; have hE1 := hE.below hb1; obtain ⟨_, v1, hh1, hT1⟩ := id hsc1; obtain ⟨ad1, cp1, rfl⟩ := hT1.len; obtain ⟨⟨d0, d1, d2⟩, d5⟩ := three_facts hh1; have hle1 := hE1.le; have hS1 := hE1.std; have hlt1 := heap_lt hh1))
  | (go_at_call 213; ((with_reducible refine (hc2.out _ hS1).mono ?_); rintro e w2 ⟨va, rfl, hA2, hb2⟩; obtain ⟨ad2, cp2, rfl⟩ := hA2.len; have hh2 := heap_below hh1 hb2; obtain ⟨⟨f0, f1, f2⟩, f5⟩ := three_facts hh2; have hT2 := hT1.below hb2; have hb2s := hb2.size; have hne1 : b ≠ w2.heap.size := (by omega); have hne2 : w2.heap.size ≠ b := (by omega); have hle2 : base ≤ w2.heap.size := (by omega); have hh3 := heap_old hh2 (.cells #[.int .i64 0, .string ⟨nm.toArray⟩, .string ⟨#[]⟩, .slice ad2 at0.length cp2, .bool sf] 65); obtain ⟨⟨p0, p1, p2⟩, p5⟩ := three_facts hh3; obtain ⟨⟨g0, g1, g2, g3, g4⟩, g5⟩ := five_facts (new_cells w2 #[.int .i64 0, .string ⟨nm.toArray⟩, .string ⟨#[]⟩, .slice ad2 at0.length cp2, .bool sf] 65); have hBb := below_then hb1 hle1 hb2; have hL := tag_lay1 (r := r) (nm := nm) (sf := sf) 1 hh2 hT2 (hA2.mono hle1) hbb hle2)))
 have hLb := hBb.trans hL.below
 have hW0 := hL.hb
 have hW1 := hL.ht
 have hWT := hL.toks
 have hWA := hL.atts
 have hWn := hL.ne
 clear hL p0 p1 p2 p5 g0 g1 g2 g3 g4 g5 hh3
 generalize ((w2.alloc (.cells #[.int .i64 0, .string ⟨nm.toArray⟩, .string ⟨#[]⟩, .slice ad2 at0.length cp2, .bool sf] 65)).setCell ⟨b, 0, none⟩ (.string ⟨r.toArray⟩)).setCell ⟨w2.heap.size, 0, none⟩ (.int .i64 1) = W7 at *
 generalize w2.heap.size = tb at *
 obtain ⟨⟨c0, c1, c2⟩, c5⟩ := three_facts hW0
 obtain ⟨⟨g0, g1, g2, g3, g4⟩, g5⟩ := five_facts hW1
 have hE7 := hE.below hLb
 have hle7 := hE7.le
 have hY0 := heap_old hW0 (.cells #[.int .i64 1, .string ⟨nm.toArray⟩, .string ⟨#[]⟩, .slice ad2 at0.length cp2, .bool sf] 65)
 obtain ⟨⟨y0, y1, y2⟩, y5⟩ := three_facts hY0
 obtain ⟨⟨z0, z1, z2, z3, z4⟩, z5⟩ := five_facts (new_cells W7 #[.int .i64 1, .string ⟨nm.toArray⟩, .string ⟨#[]⟩, .slice ad2 at0.length cp2, .bool sf] 65)
 have hX0 : ((W7.alloc (.cells #[.int .i64 1, .string ⟨nm.toArray⟩, .string ⟨#[]⟩, .slice ad2 at0.length cp2, .bool sf] 65)).drew).heap[b]? = _ := hY0
 have hX1 : ((W7.alloc (.cells #[.int .i64 1, .string ⟨nm.toArray⟩, .string ⟨#[]⟩, .slice ad2 at0.length cp2, .bool sf] 65)).drew).heap[tb]? = _ := heap_old hW1 (.cells #[.int .i64 1, .string ⟨nm.toArray⟩, .string ⟨#[]⟩, .slice ad2 at0.length cp2, .bool sf] 65)
 obtain ⟨⟨k0, k1, k2, k3, k4⟩, k5⟩ := five_facts (w := (W7.alloc (.cells #[.int .i64 1, .string ⟨nm.toArray⟩, .string ⟨#[]⟩, .slice ad2 at0.length cp2, .bool sf] 65)).drew) (new_cells W7 #[.int .i64 1, .string ⟨nm.toArray⟩, .string ⟨#[]⟩, .slice ad2 at0.length cp2, .bool sf] 65)
 have hXT := (hWT.alloc (.cells #[.int .i64 1, .string ⟨nm.toArray⟩, .string ⟨#[]⟩, .slice ad2 at0.length cp2, .bool sf] 65)).below (Below.refl _ _).drew
 have hXA : Atts (W7.alloc (.cells #[.int .i64 1, .string ⟨nm.toArray⟩, .string ⟨#[]⟩, .slice ad2 at0.length cp2, .bool sf] 65)).drew base (.slice ad2 at0.length cp2) at0 := Atts.below (World.ownsRow.alloc hWA (.cells #[.int .i64 1, .string ⟨nm.toArray⟩, .string ⟨#[]⟩, .slice ad2 at0.length cp2, .bool sf] 65)) (Below.refl _ _).drew
 have hXB := (hLb.alloc (by exact hle7) (.cells #[.int .i64 1, .string ⟨nm.toArray⟩, .string ⟨#[]⟩, .slice ad2 at0.length cp2, .bool sf] 65)).drew
 have hle8 : base ≤ ((W7.alloc (.cells #[.int .i64 1, .string ⟨nm.toArray⟩, .string ⟨#[]⟩, .slice ad2 at0.length cp2, .bool sf] 65)).drew).heap.size := hXB.size |> Nat.le_trans hE.le
 go_region_law (refine step_tok rfl (.tmp 41) (.tmp 43) rfl base W7.heap.size (.slice ad1 l1.length cp1) (.slice ad2 at0.length cp2) l1 ⟨1, nm, at0, [], sf⟩ rfl hXT rfl k0 k1 k2 k3 k4 hXA (by omega) hle8 ?_; intro v5 w5 hT5 hg5 hb5 hk5; obtain ⟨ad5, cp5, rfl⟩ := hT5.len; rw [show (l1 ++ [(⟨1, nm, at0, [], sf⟩ : Tok)]).length = l1.length + 1 from List.length_append] at hT5; have hh5 := hk5 _ _ _ _ hX0 (by decide); obtain ⟨⟨e0, e1, e2⟩, e5⟩ := three_facts hh5; have hB5 := hXB.trans hb5; have ht5 := app_kept hg5 hX1 hWn; obtain ⟨⟨n0, n1, n2, n3, n4⟩, n5⟩ := five_facts ht5)
 all_goals
  have hfin := Sc.set_o (l := l1) hbb hh5 hT5
  have hbf := fun x => below_set (j := 2) hB5 hbb x
  have hscP := hfin
  have htP := (heap_setCell_other w5 ⟨b, 2, none⟩ tb (.slice ad5 (l1.length + 1) cp5) hne2).trans ht5
  have hBP := hbf (.slice ad5 (l1.length + 1) cp5)
  have hleP := (hE.below hBP).le
  obtain ⟨⟨m0, m1, m2, m3, m4⟩, m5⟩ := five_facts htP
  go_wp2_with (first
   | (go_at_call 32; ((with_reducible refine (hraw.out _).mono ?_); rintro e w6 ⟨rfl, hb6⟩; have hsc6 := hscP.below hb6; have ht6 := heap_below htP hb6; obtain ⟨⟨o0, o1, o2, o3, o4⟩, o5⟩ := five_facts ht6; have hb6s := hb6.size; have hB6 := below_then hBP hleP hb6; have hE6 := hE.below hB6))
   | (go_at_call 33; ((with_reducible refine (hsoft.out _).mono ?_); rintro e w7 ⟨rfl, hb7⟩; have hsc7 := hsc6.below hb7; have ht7 := heap_below ht6 hb7; obtain ⟨⟨q0, q1, q2, q3, q4⟩, q5⟩ := five_facts ht7; have hB7 := below_then hB6 hE6.le hb7; have hE7' := hE.below hB7))
   | (go_at_call 115; ((with_reducible refine (inside_c base b r [] nm _ hrl hnl (by simp; omega) _ hsc7 hE7').mono ?_); rintro e w8 ⟨rfl, hsc8, hb8⟩)))
  go_end0
  exact ⟨rfl, hsc8, hB7.trans hb8⟩
end Go.Proofs.YtkcmghlhpbepcaaGreatDoor
