/- Lemmas and walks, part 20: RIn. -/
import Derived.Test.YtdnbaliibiginaaGreatDoorTIM19
import Derived.Deep.RegionHeld3
import Derived.Laws.Runes
import Derived.Deep.QuietTactic
import Derived.BigQuiet
set_option linter.unusedVariables false
set_option linter.unusedSimpArgs false

/- Contract of boltingref06.In: the tokens of bytes, within an element of a name, as inL has them; they lie in blocks that the call made. -/
namespace Go.Proofs.YtdnbaliibiginaaGreatDoorH.TI
open Go.RowKit Go.Proofs Go.Proofs.YtdnbaliibiginaaGreatDoorH Go.Proofs.YtdnbaliibiginaaGreatDoor

theorem toks_new (w : World) (base : Nat) (hB : base ≤ w.heap.size) : Toks (w.alloc (.cells #[] 59)) base (.slice (some ⟨w.heap.size, 0, none⟩) 0 0) [] :=
  ⟨[], rfl, ⟨rfl, .inr ⟨w.heap.size, 0, #[], rfl, hB, new_cells _ _ _, Nat.le_refl _, by unfold maxLen; omega, rfl, rfl⟩⟩, by simp⟩
theorem rat_c (s t : Txt) (i : Nat) (b : Bool) (hi : i ≤ s.length) (hs : s.length ≤ 900000000) (ht : t.length ≤ 1000) (hb : Lib.hasPrefix (s.drop i) t = b) (w : World) :
    Calls Tryz.prog 40 #[.string ⟨s.toArray⟩, .int .i64 i, .string ⟨t.toArray⟩] w fun e w' => e = .returned (.bool b) ∧ Below w.heap.size w w' :=
  (boltingref06_at.calls ⟨s.toArray⟩ i ⟨t.toArray⟩ b w (by rw [at_f ⟨s.toArray⟩ ⟨t.toArray⟩ i hi (by show s.length ≤ _; omega) (by show t.toArray.size ≤ _; simp; omega)]; exact congrArg some hb)).mono fun e w' ⟨h1, h2⟩ => ⟨h1, h2.below⟩
theorem rletter_c (s : Txt) (i : Nat) (b : Bool) (hi : i ≤ s.length + 10) (hs : s.length ≤ 900000000) (hb : letterL (s.drop i) = b) (w : World) :
    Calls Tryz.prog 41 #[.string ⟨s.toArray⟩, .int .i64 i] w fun e w' => e = .returned (.bool b) ∧ Below w.heap.size w w' :=
  (boltingref06_letter.calls ⟨s.toArray⟩ i b w (by rw [letter_f ⟨s.toArray⟩ i hi]; exact congrArg some hb)).mono fun e w' ⟨h1, h2⟩ => ⟨h1, h2.below⟩
theorem pre_ne {s t : Txt} {i : Nat} (h : i < s.length) (hc : s[i] ≠ 60) : Lib.hasPrefix (s.drop i) (60 :: t) = false := by
  rw [drop_cons h]
  simp only [Lib.hasPrefix, List.isPrefixOf]
  have : ((60 : UInt8) == s[i]) = false := by simpa using fun e => hc e.symm
  rw [this, Bool.false_and]
theorem app1 (t : Txt) (c : UInt8) : (⟨t.toArray⟩ : ByteArray) ++ ⟨[c].toArray⟩ = ⟨(t ++ [c]).toArray⟩ := str_app t [c]
theorem rtag_some (s : Txt) (i : Nat) (hi : i ≤ s.length) (hs : s.length ≤ 900000000) {tk : Go.Proofs.YtdnbaliibiginaaGreatDoor.Tok} {r : Txt} (h : openedF (s.drop i) = some (tk, r)) :
    ∃ en, i ≤ en ∧ en ≤ s.length ∧ s.drop en = r ∧ ∀ W, Calls Tryz.prog 43 #[.string ⟨s.toArray⟩, .int .i64 i] W fun e w' => ∃ v3, e = .returned (.tuple #[.agg #[.int .i64 0, .string ⟨tk.name.toArray⟩, .string ⟨#[]⟩, v3, .bool tk.self], .int .i64 (en : Int)]) ∧ Atts w' W.heap.size v3 tk.attrs ∧ Below W.heap.size W w' := by
  obtain ⟨nm, at', sf, e, hx, hcase⟩ := tag_f ⟨s.toArray⟩ (by show s.length ≤ _; omega) i hi (9 * s.length + 50) (Nat.le_refl _)
  have hle := openedF_le h
  rcases hcase with ⟨hn, _⟩ | ⟨en, he, hen, hsome⟩
  · exact absurd ((show openedF (s.drop i) = none from hn).symm.trans h) (by simp)
  · have h2 := (show openedF (s.drop i) = some (_, s.drop en) from hsome).symm.trans h
    simp only [Option.some.injEq, Prod.mk.injEq] at h2
    obtain ⟨rfl, rfl⟩ := h2
    simp only [List.length_drop] at hle
    have henl : en ≤ s.length := hen
    refine ⟨en, by omega, henl, rfl, fun W => ?_⟩
    have hc := boltingref06_tag.calls (9 * s.length + 50) ⟨s.toArray⟩ i _ _ _ _ _ _ W hx
    refine hc.mono fun e' w' ⟨v3, h1, h3, h4⟩ => ⟨v3, ?_, ?_, h4⟩
    · rw [h1, he]
      simp only [tokS]
    · exact atts_of_R h3
theorem rtag_none (s : Txt) (i : Nat) (hi : i ≤ s.length) (hs : s.length ≤ 900000000) (h : openedF (s.drop i) = none) :
    ∃ (nm : ByteArray) (sf : Bool) (en : Int), (s.length : Int) < en ∧ ∀ W, Calls Tryz.prog 43 #[.string ⟨s.toArray⟩, .int .i64 i] W fun e w' => ∃ v3, e = .returned (.tuple #[.agg #[.int .i64 0, .string nm, .string ⟨#[]⟩, v3, .bool sf], .int .i64 en]) ∧ (∃ ad n cp, v3 = .slice ad n cp) ∧ Below W.heap.size W w' := by
  obtain ⟨nm, at', sf, e, hx, hcase⟩ := tag_f ⟨s.toArray⟩ (by show s.length ≤ _; omega) i hi (9 * s.length + 50) (Nat.le_refl _)
  rcases hcase with ⟨_, hlt⟩ | ⟨en, he, hen, hsome⟩
  · refine ⟨nm, sf, e, hlt, fun W => ?_⟩
    have hc := boltingref06_tag.calls (9 * s.length + 50) ⟨s.toArray⟩ i _ _ _ _ _ _ W hx
    refine hc.mono fun e' w' ⟨v3, h1, h3, h4⟩ => ⟨v3, h1, ?_, h4⟩
    obtain ⟨A, c, hv⟩ := Go.Proofs.YtdnbaliibiginaaGreatDoorW.PrintWords.Kd.R_slice h3
    exact ⟨A, _, c, hv⟩
  · exact absurd ((show openedF (s.drop i) = some _ from hsome).symm.trans h) (by simp)
theorem rnote_c (s : Txt) (i : Nat) (hi : i < s.length) (h60 : s[i] = 60) (hs : s.length ≤ 900000000) :
    ∃ (tk : Go.Proofs.YtdnbaliibiginaaGreatDoor.Tok) (en : Nat), ((noteP (s.drop (i + 1)) = none ∧ en = i) ∨ (en ≤ s.length ∧ i < en ∧ noteP (s.drop (i + 1)) = some ([tk], s.drop en))) ∧
      ∀ W, Calls Tryz.prog 44 #[.string ⟨s.toArray⟩, .int .i64 i] W fun e w' => ∃ v3, e = .returned (.tuple #[.agg #[.int .i64 tk.kind, .string ⟨tk.name.toArray⟩, .string ⟨tk.data.toArray⟩, v3, .bool tk.self], .int .i64 (en : Int)]) ∧ Atts w' W.heap.size v3 tk.attrs ∧ Below W.heap.size W w' := by
  obtain ⟨r1, r2, r3, r4, r5, r6, hx, hcase⟩ := note_f ⟨s.toArray⟩ (by show s.length ≤ _; omega) i hi h60 (3 * s.length + 10) (Nat.le_refl _)
  have hW : ∀ (en : Nat), r6 = en → ∀ W, Calls Tryz.prog 44 #[.string ⟨s.toArray⟩, .int .i64 i] W fun e w' => ∃ v3, e = .returned (.tuple #[.agg #[.int .i64 (tokS ⟨r1, r2, r3, r4, r5⟩).kind, .string ⟨(tokS ⟨r1, r2, r3, r4, r5⟩).name.toArray⟩, .string ⟨(tokS ⟨r1, r2, r3, r4, r5⟩).data.toArray⟩, v3, .bool (tokS ⟨r1, r2, r3, r4, r5⟩).self], .int .i64 (en : Int)]) ∧ Atts w' W.heap.size v3 (tokS ⟨r1, r2, r3, r4, r5⟩).attrs ∧ Below W.heap.size W w' := by
    intro en he W
    have hc := boltingref06_note.calls (3 * s.length + 10) ⟨s.toArray⟩ i _ _ _ _ _ _ W hx
    refine hc.mono fun e' w' ⟨v3, h1, h3, h4⟩ => ⟨v3, ?_, ?_, h4⟩
    · rw [h1, he]
      simp only [tokS]
    · exact atts_of_R h3
  rcases hcase with ⟨hn, he⟩ | ⟨en, he, hen, hlt, hsome⟩
  · exact ⟨_, i, .inl ⟨hn, rfl⟩, hW i he⟩
  · exact ⟨_, en, .inr ⟨hen, hlt, hsome⟩, hW en he⟩
theorem atts_low {w : World} {b b' : Nat} {v : Value} {l : List (Txt × Txt)} (h : Atts w b' v l) (hb : b ≤ b') : Atts w b v l := Go.Proofs.YtdnbaliibiginaaGreatDoorW.PrintWords.own_weaken h hb
theorem opened_is {s r : Txt} {tk : Go.Proofs.YtdnbaliibiginaaGreatDoor.Tok} (h : openedF s = some (tk, r)) : tk.kind = 0 ∧ tk.data = [] ∧ tk.name.length ≤ s.length := by
  unfold openedF at h
  obtain ⟨q, _, hq⟩ := Option.map_eq_some_iff.1 h
  simp only [Prod.mk.injEq] at hq
  obtain ⟨rfl, _⟩ := hq
  exact ⟨rfl, rfl, by simp [lowL]; omega⟩
theorem tell_len (t : Txt) : (tellF t).length ≤ 1 := by unfold tellF; split <;> simp
theorem ins_len (nm s : Txt) : (insideT nm s).length ≤ 1 := by unfold insideT; split <;> simp
theorem toks_lt {w : World} {base : Nat} {v : Value} {l : List Go.Proofs.YtdnbaliibiginaaGreatDoor.Tok} (h : Toks w base v l) (k : Nat) (hk : v.ownBlock = some k) : k < w.heap.size := by
  obtain ⟨ps, _, h2, _⟩ := h
  exact Go.Proofs.YtdnbaliibiginaaGreatDoorW.PrintWords.own_lt h2 k hk
/-- A block that is newer than a row stands when the row is grown. -/
theorem newer_keep {w0 w w' : World} {base : Nat} {v : Value} {l : List Go.Proofs.YtdnbaliibiginaaGreatDoor.Tok} {b : Nat} {o : Obj} (hT : Toks w0 base v l) (hg : w.grownBy w' v.ownBlock) (hb : w0.heap.size ≤ b) (h : w.heap[b]? = some o) : w'.heap[b]? = some o := by
  rw [hg.block b (Array.getElem?_eq_some_iff.1 h).1 (fun e => by have := toks_lt hT b e.symm; omega)]
  exact h
abbrev set5 (w : World) (b : Nat) (u0 u1 u2 u3 u4 : Value) : World := ((((w.setCell ⟨b, 0, none⟩ u0).setCell ⟨b, 1, none⟩ u1).setCell ⟨b, 2, none⟩ u2).setCell ⟨b, 3, none⟩ u3).setCell ⟨b, 4, none⟩ u4
theorem put5 {w : World} {b : Nat} {t : TypeId} {v0 v1 v2 v3 v4 : Value} (h : w.heap[b]? = some (.cells #[v0, v1, v2, v3, v4] t (0, 0))) (u0 u1 u2 u3 u4 : Value) : (set5 w b u0 u1 u2 u3 u4).heap[b]? = some (.cells #[u0, u1, u2, u3, u4] t (0, 0)) :=
  Go.Proofs.YtdnbaliibiginaaGreatDoorW.PrintWords.blk_put (Go.Proofs.YtdnbaliibiginaaGreatDoorW.PrintWords.blk_put (Go.Proofs.YtdnbaliibiginaaGreatDoorW.PrintWords.blk_put (Go.Proofs.YtdnbaliibiginaaGreatDoorW.PrintWords.blk_put (Go.Proofs.YtdnbaliibiginaaGreatDoorW.PrintWords.blk_put h 0 u0 rfl) 1 u1 rfl) 2 u2 rfl) 3 u3 rfl) 4 u4 rfl
theorem below_set5 {B b : Nat} {w W : World} (h : Below B w W) (hb : B ≤ b) (u0 u1 u2 u3 u4 : Value) : Below B w (set5 W b u0 u1 u2 u3 u4) :=
  Go.Proofs.YtdnbaliibiginaaGreatDoor.below_set (Go.Proofs.YtdnbaliibiginaaGreatDoor.below_set (Go.Proofs.YtdnbaliibiginaaGreatDoor.below_set (Go.Proofs.YtdnbaliibiginaaGreatDoor.below_set (Go.Proofs.YtdnbaliibiginaaGreatDoor.below_set h hb u0) hb u1) hb u2) hb u3) hb u4
theorem atts_ne {w : World} {base b : Nat} {v : Value} {l : List (Txt × Txt)} {cs : Array Value} (h : Atts w base v l) (hb : w.heap[b]? = some (.cells cs 59 (0, 0))) (k : Nat) (hk : v.ownBlock = some k) : k ≠ b := by
  rintro rfl
  obtain ⟨c1, e1⟩ := own_cells h hk
  rw [e1] at hb
  injection hb with hb
  injection hb with _ hb
  exact absurd hb (by decide)
theorem atts_set5 {w : World} {base b : Nat} {v : Value} {l : List (Txt × Txt)} (h : Atts w base v l) (hne : ∀ k, v.ownBlock = some k → k ≠ b) (u0 u1 u2 u3 u4 : Value) : Atts (set5 w b u0 u1 u2 u3 u4) base v l := by
  refine Go.Proofs.YtdnbaliibiginaaGreatDoorW.PrintWords.own_move h (fun k hk => ?_)
  have hkb := hne k hk
  simp only [set5]
  rw [heap_setCell_other _ _ _ _ hkb, heap_setCell_other _ _ _ _ hkb, heap_setCell_other _ _ _ _ hkb, heap_setCell_other _ _ _ _ hkb, heap_setCell_other _ _ _ _ hkb]
theorem atts_kept {w w' : World} {base : Nat} {va v : Value} {at' : List (Txt × Txt)} {l : List Go.Proofs.YtdnbaliibiginaaGreatDoor.Tok} (h : Atts w base va at') (hT : Toks w base v l) (hk : ∀ (b : Nat) (o : Obj), w.heap[b]? = some o → some b ≠ v.ownBlock → w'.heap[b]? = some o) : Atts w' base va at' := by
  refine Go.Proofs.YtdnbaliibiginaaGreatDoorW.PrintWords.own_move h (fun k hk1 => ?_)
  obtain ⟨c1, e1⟩ := own_cells h hk1
  rw [e1]
  refine hk k _ e1 (fun e => ?_)
  obtain ⟨ps, _, h2, _⟩ := hT
  obtain ⟨c2, e2⟩ := own_cells h2 e.symm
  rw [e1] at e2
  injection e2 with e2
  injection e2 with _ e2
  exact absurd e2 (by decide)
theorem pre_two {s : Txt} (h : Lib.hasPrefix s [47] = false) : Lib.hasPrefix s [47, 62] = false := by
  cases s with
  | nil => rfl
  | cons c r =>
    rw [pre1] at h
    simp only [List.head?_cons] at h
    simp only [Lib.hasPrefix, List.isPrefixOf]
    have h2 : ((47 : UInt8) == c) = false := by
      rw [beq_eq_false_iff_ne] at *
      intro e
      exact h (by rw [e])
    rw [h2, Bool.false_and]
/-- The state at the head of a round. -/
def St (w : World) (L0 : List Go.Proofs.YtdnbaliibiginaaGreatDoor.Tok) (s : Txt) (vl vi vt : Value) (wr : World) : Prop :=
  ∃ (ad : Option Addr) (cp i : Nat) (l : List Go.Proofs.YtdnbaliibiginaaGreatDoor.Tok) (t : Txt), vl = .slice ad l.length cp ∧ vi = .int .i64 i ∧ vt = .string ⟨t.toArray⟩ ∧ i ≤ s.length ∧ t.length ≤ i ∧ l.length ≤ 3 * i + 3 ∧ Toks wr w.heap.size (.slice ad l.length cp) l ∧ Below w.heap.size w wr ∧ Hid (L0 = l ++ rest s t i)

set_option maxHeartbeats 4000000 in
set_option maxRecDepth 100000 in
theorem rin_c (s nm : Txt) (hs : s.length ≤ 900000000) (w : World) :
    Calls Tryz.prog 10 #[.string ⟨s.toArray⟩, .string ⟨nm.toArray⟩] w fun e w' => ∃ v, e = .returned v ∧ Toks w' w.heap.size v (inL s nm) ∧ Below w.heap.size w w' := by
  rw [in_start]
  have hT0 := toks_new w w.heap.size (Nat.le_refl _)
  have hB0 := (Below.refl w.heap.size w).alloc (Nat.le_refl _) (.cells #[] 59)
  have hz0 : w.heap.size ≤ (w.alloc (.cells #[] 59)).heap.size := by rw [World.size_alloc]; omega
  have hal := Lib.hid (alone_c w.heap.size _ [] s nm 0 hs (by omega) (by simp) _ hT0 hz0)
  have hi0 : (if rawB nm || softB nm then 0 + endF nm (s.drop 0) else 0) ≤ s.length := by
    split
    · have := end_le nm (s.drop 0); rw [List.drop_zero] at *; omega
    · omega
  have hl0 : (if rawB nm || softB nm then [] ++ insideT nm (s.drop 0) else []).length ≤ 3 := by
    split
    · unfold insideT
      split <;> simp
    · simp
  generalize (if rawB nm || softB nm then 0 + endF nm (s.drop 0) else 0) = i0 at *
  generalize (if rawB nm || softB nm then [] ++ insideT nm (s.drop 0) else []) = l0 at *
  generalize hL0 : l0 ++ rest s [] i0 = L0
  have hinv0 : Hid (L0 = l0 ++ rest s [] i0) := hL0.symm
  clear hL0
  go_enter Tryz.func10, Tryz.ntmps10
  go_wp2_with fail
  refine (hal.out).mono ?_
  rintro e w1 ⟨v1, rfl, hT1, hb1, hz1⟩
  clear hal
  obtain ⟨ad1, cp1, rfl⟩ := hT1.len
  go_wp2_with fail
  go_loopw [5, 6, 7] (fun vl vi vt wr => St w L0 s vl vi vt wr) (fun _ vi _ _ => s.length - (intOf vi).toNat)
  case atStart => exact ⟨ad1, cp1, i0, l0, [], rfl, rfl, rfl, hi0, by simp, by omega, hT1, hB0.trans hb1, hinv0⟩
  case round =>
    obtain ⟨ad, cp, i, l, t, rfl, rfl, rfl, hi, ht, hl, hT, hB, hinv⟩ := hrel
    have hBz := hB.size
    by_cases hlt : i < s.length
    · by_cases hc : s[i] = 60
      · have hrl := rest_less (t := t) hlt hc
        have hd60 : s.drop i = 60 :: s.drop (i + 1) := by rw [drop_cons hlt, hc]
        have p1 : Lib.hasPrefix (s.drop i) [60] = true := by rw [hd60, pre_cons]; rfl
        have c1 := Lib.hid (fun W => rat_c s [60] i true hi hs (by decide) p1 W)
        have hto := Lib.hid (fun W h1 h2 => told_c w.heap.size (.slice ad l.length cp) l t (by omega) (by omega) W h1 h2)
        by_cases hst : letterL (s.drop (i + 1)) = true
        · have p2 : Lib.hasPrefix (s.drop i) [60, 47] = false := by
            rw [hd60, pre_cons, pre1]
            cases hh : s.drop (i + 1) with
            | nil => rfl
            | cons c r =>
              rw [hh] at hst
              have : c ≠ 47 := by rintro rfl; exact absurd hst (by rw [show letterL (47 :: r) = letterB 47 from rfl]; decide)
              simpa using this
          have c2 := Lib.hid (fun W => rat_c s [60, 47] i false hi hs (by decide) p2 W)
          have l1 := Lib.hid (fun W => rletter_c s (i + 1) true (by omega) hs hst W)
          rw [open_start hst] at hrl
          simp only at hrl
          cases ho : openedF (s.drop (i + 1)) with
          | none =>
            obtain ⟨nm', sf', en, hen, htag⟩ := rtag_none s (i + 1) (by omega) hs ho
            have htg := Lib.hid htag
            clear htag
            rw [tag_none ho, run_nil] at hrl
            simp only [List.append_nil] at hrl
            rw [show tellF [] = ([] : List Go.Proofs.YtdnbaliibiginaaGreatDoor.Tok) from rfl, List.append_nil] at hrl
            have hinv2 := hinv.out
            rw [hrl] at hinv2
            clear hinv hrl hc hd60 p1 p2 ho hst
            generalize l ++ tellF t = L9 at *
            subst hinv2
            have HB := hB
            have HT := hT
            go_wp2_with fail
            refine (c1.out _).mono ?_
            rintro e wm ⟨rfl, hbn⟩
            have HB2 : Below w.heap.size w wm := below_then HB HB.size hbn
            have HT2 : Toks wm w.heap.size (.slice ad l.length cp) l := HT.below hbn
            clear HB HT hbn
            have HB := HB2
            have HT := HT2
            clear HB2 HT2
            go_wp2_with fail
            refine (l1.out _).mono ?_
            rintro e wm ⟨rfl, hbn⟩
            have HB2 : Below w.heap.size w wm := below_then HB HB.size hbn
            have HT2 : Toks wm w.heap.size (.slice ad l.length cp) l := HT.below hbn
            clear HB HT hbn
            have HB := HB2
            have HT := HT2
            clear HB2 HT2
            go_wp2_with fail
            refine (c2.out _).mono ?_
            rintro e wm ⟨rfl, hbn⟩
            have HB2 : Below w.heap.size w wm := below_then HB HB.size hbn
            have HT2 : Toks wm w.heap.size (.slice ad l.length cp) l := HT.below hbn
            clear HB HT hbn
            have HB := HB2
            have HT := HT2
            clear HB2 HT2
            go_wp2_with fail
            refine (hto.out _ HT HB.size).mono ?_
            rintro e w9 ⟨v9, rfl, hT9, hb9, hz9, hk9⟩
            obtain ⟨ad9, cp9, rfl⟩ := hT9.len
            have HB9 := HB.trans hb9
            go_wp2_with fail
            refine (htg.out _).mono ?_
            rintro e w10 ⟨v10, rfl, ⟨ad10, n10, cp10, rfl⟩, hb10⟩
            have HB10 := below_then HB9 HB9.size hb10
            have HT10 := hT9.below hb10
            go_wp2
            go_ret
            exact ⟨_, rfl, HT10.alloc _, HB10.alloc HB10.size _⟩
          | some x =>
            obtain ⟨⟨k0, nm1, at1, d1, sf1⟩, r1⟩ := x
            obtain ⟨en, hie, hen, hdr, htag⟩ := rtag_some s (i + 1) (by omega) hs ho
            have htg := Lib.hid htag
            clear htag
            rw [tag_start ho] at hrl
            simp only [insideR] at hrl
            obtain ⟨hk0, hd0, hnl⟩ := opened_is ho
            simp only at htg hk0 hd0 hnl hrl
            subst hk0 hd0 hdr
            rw [List.length_drop] at hnl
            have htl := tell_len t
            have hil := ins_len nm1 (s.drop en)
            have hinv2 := hinv.out
            rw [hrl] at hinv2
            have hel := end_le nm1 (s.drop en)
            rw [List.length_drop] at hel
            have hLL : (l ++ tellF t).length ≤ l.length + 1 := by rw [List.length_append]; omega
            rw [← List.append_assoc, ← List.append_assoc] at hinv2
            generalize l ++ tellF t = L9 at *
            have hst2 := Lib.hid (show L0 = (if rawB nm1 || softB nm1 then (L9 ++ [(⟨1, nm1, at1, [], sf1⟩ : Go.Proofs.YtdnbaliibiginaaGreatDoor.Tok)]) ++ insideT nm1 (s.drop en) else L9 ++ [(⟨1, nm1, at1, [], sf1⟩ : Go.Proofs.YtdnbaliibiginaaGreatDoor.Tok)]) ++ rest s [] (if rawB nm1 || softB nm1 then en + endF nm1 (s.drop en) else en) by
              rw [hinv2]
              unfold rest
              cases rawB nm1 || softB nm1 <;> simp)
            have hal := Lib.hid (fun v W h1 h2 => alone_c w.heap.size v (L9 ++ [(⟨1, nm1, at1, [], sf1⟩ : Go.Proofs.YtdnbaliibiginaaGreatDoor.Tok)]) s nm1 en hs hen (by rw [List.length_append]; simp; omega) W h1 h2)
            have hi2 : en ≤ (if rawB nm1 || softB nm1 then en + endF nm1 (s.drop en) else en) ∧ (if rawB nm1 || softB nm1 then en + endF nm1 (s.drop en) else en) ≤ s.length := by
              split <;> omega
            have hl2 : (if rawB nm1 || softB nm1 then (L9 ++ [(⟨1, nm1, at1, [], sf1⟩ : Go.Proofs.YtdnbaliibiginaaGreatDoor.Tok)]) ++ insideT nm1 (s.drop en) else L9 ++ [(⟨1, nm1, at1, [], sf1⟩ : Go.Proofs.YtdnbaliibiginaaGreatDoor.Tok)]).length ≤ L9.length + 2 := by
              split <;> simp [List.length_append] <;> omega
            generalize (if rawB nm1 || softB nm1 then en + endF nm1 (s.drop en) else en) = i2 at *
            generalize (if rawB nm1 || softB nm1 then (L9 ++ [(⟨1, nm1, at1, [], sf1⟩ : Go.Proofs.YtdnbaliibiginaaGreatDoor.Tok)]) ++ insideT nm1 (s.drop en) else L9 ++ [(⟨1, nm1, at1, [], sf1⟩ : Go.Proofs.YtdnbaliibiginaaGreatDoor.Tok)]) = l2 at *
            clear hinv hinv2 hrl hc hd60 p1 p2 ho hst
            have hle : ¬ ((en : Int) > s.length) := by omega
            have HB := hB
            have HT := hT
            go_wp2_with fail
            refine (c1.out _).mono ?_
            rintro e wm ⟨rfl, hbn⟩
            have HB2 : Below w.heap.size w wm := below_then HB HB.size hbn
            have HT2 : Toks wm w.heap.size (.slice ad l.length cp) l := HT.below hbn
            clear HB HT hbn
            have HB := HB2
            have HT := HT2
            clear HB2 HT2
            go_wp2_with fail
            refine (l1.out _).mono ?_
            rintro e wm ⟨rfl, hbn⟩
            have HB2 : Below w.heap.size w wm := below_then HB HB.size hbn
            have HT2 : Toks wm w.heap.size (.slice ad l.length cp) l := HT.below hbn
            clear HB HT hbn
            have HB := HB2
            have HT := HT2
            clear HB2 HT2
            go_wp2_with fail
            refine (c2.out _).mono ?_
            rintro e wm ⟨rfl, hbn⟩
            have HB2 : Below w.heap.size w wm := below_then HB HB.size hbn
            have HT2 : Toks wm w.heap.size (.slice ad l.length cp) l := HT.below hbn
            clear HB HT hbn
            have HB := HB2
            have HT := HT2
            clear HB2 HT2
            go_wp2_with fail
            refine (hto.out _ HT HB.size).mono ?_
            rintro e w9 ⟨v9, rfl, hT9, hb9, hz9, hk9⟩
            obtain ⟨ad9, cp9, rfl⟩ := hT9.len
            have HB9 := HB.trans hb9
            go_wp2_with fail
            refine (htg.out _).mono ?_
            rintro e w10 ⟨v10, rfl, hA10, hb10⟩
            obtain ⟨ad10, cp10, rfl⟩ := hA10.len
            have HA10 := atts_low hA10 HB9.size
            have HB10 := below_then HB9 HB9.size hb10
            have HT10 := hT9.below hb10
            have HBA := HB10.alloc HB10.size (.cells #[.int .i64 1, .string ⟨nm1.toArray⟩, .string ⟨#[]⟩, .slice ad10 at1.length cp10, .bool sf1] 59)
            have HBB := HBA.alloc HBA.size (.cells #[.int .i64 1, .string ⟨nm1.toArray⟩, .string ⟨#[]⟩, .slice ad10 at1.length cp10, .bool sf1] 59)
            have HTB := (HT10.alloc (.cells #[.int .i64 1, .string ⟨nm1.toArray⟩, .string ⟨#[]⟩, .slice ad10 at1.length cp10, .bool sf1] 59)).alloc (.cells #[.int .i64 1, .string ⟨nm1.toArray⟩, .string ⟨#[]⟩, .slice ad10 at1.length cp10, .bool sf1] 59)
            have HAB := (HA10.below ((Below.refl _ _).alloc (Nat.le_refl _) (.cells #[.int .i64 1, .string ⟨nm1.toArray⟩, .string ⟨#[]⟩, .slice ad10 at1.length cp10, .bool sf1] 59))).below ((Below.refl _ _).alloc (Nat.le_refl _) (.cells #[.int .i64 1, .string ⟨nm1.toArray⟩, .string ⟨#[]⟩, .slice ad10 at1.length cp10, .bool sf1] 59))
            have hsz : (w10.alloc (.cells #[.int .i64 1, .string ⟨nm1.toArray⟩, .string ⟨#[]⟩, .slice ad10 at1.length cp10, .bool sf1] 59)).heap.size = w10.heap.size + 1 := World.size_alloc _ _
            have hnc := new_cells (w10.alloc (.cells #[.int .i64 1, .string ⟨nm1.toArray⟩, .string ⟨#[]⟩, .slice ad10 at1.length cp10, .bool sf1] 59)) #[.int .i64 1, .string ⟨nm1.toArray⟩, .string ⟨#[]⟩, .slice ad10 at1.length cp10, .bool sf1] 59
            rw [hsz] at hnc
            have hn0 := heap_old (new_cells w10 #[.int .i64 1, .string ⟨nm1.toArray⟩, .string ⟨#[]⟩, .slice ad10 at1.length cp10, .bool sf1] 59) (.cells #[.int .i64 1, .string ⟨nm1.toArray⟩, .string ⟨#[]⟩, .slice ad10 at1.length cp10, .bool sf1] 59)
            have hz10 := hb10.size
            obtain ⟨⟨k0, k1, k2, k3, k4⟩, k5⟩ := five_facts hnc
            go_wp2_with (at_builtin; refine app_tok rfl (.tmp 76) (.tmp 78) rfl w.heap.size (w10.heap.size + 1) (.slice ad9 L9.length cp9) (.slice ad10 at1.length cp10) L9 ⟨1, nm1, at1, [], sf1⟩ rfl HTB rfl k0 k1 k2 k3 k4 HAB (by omega) HBB.size ?_; intro v11 w11 hT11 hg11 hb11 hk11; obtain ⟨ad11, cp11, rfl⟩ := hT11.len; have hn11 := newer_keep hT9 hg11 hz10 hn0; obtain ⟨⟨q0, q1, q2, q3, q4⟩, q5⟩ := five_facts hn11; have HB11 := HBB.trans hb11)
            rw [show (L9 ++ [(⟨1, nm1, at1, [], sf1⟩ : Go.Proofs.YtdnbaliibiginaaGreatDoor.Tok)]).length = L9.length + 1 from List.length_append] at hT11
            refine (hal.out _ _ hT11 HB11.size).mono ?_
            rintro e w12 ⟨v12, rfl, hT12, hb12, hz12⟩
            obtain ⟨ad12, cp12, rfl⟩ := hT12.len
            have HB12 := HB11.trans hb12
            go_wp2
            exact ⟨⟨ad12, cp12, i2, l2, [], rfl, rfl, rfl, by omega, by simp, by omega, hT12, HB12, hst2⟩, by simp [intOf]; omega⟩
        · replace hst : letterL (s.drop (i + 1)) = false := by simpa using hst
          have l1 := Lib.hid (fun W => rletter_c s (i + 1) false (by omega) hs hst W)
          have htd : (s.drop (i + 1)).tail = s.drop (i + 2) := tail_drop1 s i
          by_cases hend : (Lib.hasPrefix (s.drop (i + 1)) [47] && letterL (s.drop (i + 2))) = true
          · obtain ⟨h47, hl2⟩ := Bool.and_eq_true_iff.1 hend
            have h2l := pre_len h47
            simp only [List.length_drop, List.length_cons, List.length_nil] at h2l
            have p2 : Lib.hasPrefix (s.drop i) [60, 47] = true := by rw [hd60, pre_cons]; exact h47
            have c2 := Lib.hid (fun W => rat_c s [60, 47] i true hi hs (by decide) p2 W)
            have l2 := Lib.hid (fun W => rletter_c s (i + 2) true (by omega) hs hl2 W)
            rw [open_end hst h47 (by rw [htd]; exact hl2), htd] at hrl
            simp only at hrl
            cases ho : openedF (s.drop (i + 2)) with
            | none =>
              obtain ⟨nm', sf', en, hen, htag⟩ := rtag_none s (i + 2) (by omega) hs ho
              have htg := Lib.hid htag
              clear htag
              rw [tag_none ho, run_nil] at hrl
              simp only [List.append_nil] at hrl
              rw [show tellF [] = ([] : List Go.Proofs.YtdnbaliibiginaaGreatDoor.Tok) from rfl, List.append_nil] at hrl
              have hinv2 := hinv.out
              rw [hrl] at hinv2
              clear hinv hrl hc hd60 p1 p2 ho hst hend h47 hl2 htd
              generalize l ++ tellF t = L9 at *
              subst hinv2
              have HB := hB
              have HT := hT
              go_wp2_with fail
              refine (c1.out _).mono ?_
              rintro e wm ⟨rfl, hbn⟩
              have HB2 : Below w.heap.size w wm := below_then HB HB.size hbn
              have HT2 : Toks wm w.heap.size (.slice ad l.length cp) l := HT.below hbn
              clear HB HT hbn
              have HB := HB2
              have HT := HT2
              clear HB2 HT2
              go_wp2_with fail
              refine (l1.out _).mono ?_
              rintro e wm ⟨rfl, hbn⟩
              have HB2 : Below w.heap.size w wm := below_then HB HB.size hbn
              have HT2 : Toks wm w.heap.size (.slice ad l.length cp) l := HT.below hbn
              clear HB HT hbn
              have HB := HB2
              have HT := HT2
              clear HB2 HT2
              go_wp2_with fail
              refine (c2.out _).mono ?_
              rintro e wm ⟨rfl, hbn⟩
              have HB2 : Below w.heap.size w wm := below_then HB HB.size hbn
              have HT2 : Toks wm w.heap.size (.slice ad l.length cp) l := HT.below hbn
              clear HB HT hbn
              have HB := HB2
              have HT := HT2
              clear HB2 HT2
              go_wp2_with fail
              refine (l2.out _).mono ?_
              rintro e wm ⟨rfl, hbn⟩
              have HB2 : Below w.heap.size w wm := below_then HB HB.size hbn
              have HT2 : Toks wm w.heap.size (.slice ad l.length cp) l := HT.below hbn
              clear HB HT hbn
              have HB := HB2
              have HT := HT2
              clear HB2 HT2
              go_wp2_with fail
              refine (hto.out _ HT HB.size).mono ?_
              rintro e w9 ⟨v9, rfl, hT9, hb9, hz9, hk9⟩
              obtain ⟨ad9, cp9, rfl⟩ := hT9.len
              have HB9 := HB.trans hb9
              go_wp2_with fail
              refine (htg.out _).mono ?_
              rintro e w10 ⟨v10, rfl, ⟨ad10, n10, cp10, rfl⟩, hb10⟩
              have HB10 := below_then HB9 HB9.size hb10
              have HT10 := hT9.below hb10
              go_wp2
              go_ret
              exact ⟨_, rfl, HT10.alloc _, HB10.alloc HB10.size _⟩
            | some x =>
              obtain ⟨⟨k0, nm1, at1, d1, sf1⟩, r1⟩ := x
              obtain ⟨en, hie, hen, hdr, htag⟩ := rtag_some s (i + 2) (by omega) hs ho
              have htg := Lib.hid htag
              clear htag
              rw [tag_end ho] at hrl
              obtain ⟨hk0, hd0, hnl⟩ := opened_is ho
              simp only at htg hk0 hd0 hnl hrl
              subst hk0 hd0 hdr
              have htl := tell_len t
              have hinv2 := hinv.out
              rw [hrl] at hinv2
              have hLL : (l ++ tellF t).length ≤ l.length + 1 := by rw [List.length_append]; omega
              rw [← List.append_assoc, ← List.append_assoc] at hinv2
              generalize l ++ tellF t = L9 at *
              have hst2 := Lib.hid (show L0 = (L9 ++ [(⟨2, nm1, [], [], false⟩ : Go.Proofs.YtdnbaliibiginaaGreatDoor.Tok)]) ++ rest s [] en from hinv2)
              clear hinv hinv2 hrl hc hd60 p1 p2 ho hst hend h47 hl2 htd
              have hle : ¬ ((en : Int) > s.length) := by omega
              have HB := hB
              have HT := hT
              go_wp2_with fail
              refine (c1.out _).mono ?_
              rintro e wm ⟨rfl, hbn⟩
              have HB2 : Below w.heap.size w wm := below_then HB HB.size hbn
              have HT2 : Toks wm w.heap.size (.slice ad l.length cp) l := HT.below hbn
              clear HB HT hbn
              have HB := HB2
              have HT := HT2
              clear HB2 HT2
              go_wp2_with fail
              refine (l1.out _).mono ?_
              rintro e wm ⟨rfl, hbn⟩
              have HB2 : Below w.heap.size w wm := below_then HB HB.size hbn
              have HT2 : Toks wm w.heap.size (.slice ad l.length cp) l := HT.below hbn
              clear HB HT hbn
              have HB := HB2
              have HT := HT2
              clear HB2 HT2
              go_wp2_with fail
              refine (c2.out _).mono ?_
              rintro e wm ⟨rfl, hbn⟩
              have HB2 : Below w.heap.size w wm := below_then HB HB.size hbn
              have HT2 : Toks wm w.heap.size (.slice ad l.length cp) l := HT.below hbn
              clear HB HT hbn
              have HB := HB2
              have HT := HT2
              clear HB2 HT2
              go_wp2_with fail
              refine (l2.out _).mono ?_
              rintro e wm ⟨rfl, hbn⟩
              have HB2 : Below w.heap.size w wm := below_then HB HB.size hbn
              have HT2 : Toks wm w.heap.size (.slice ad l.length cp) l := HT.below hbn
              clear HB HT hbn
              have HB := HB2
              have HT := HT2
              clear HB2 HT2
              go_wp2_with fail
              refine (hto.out _ HT HB.size).mono ?_
              rintro e w9 ⟨v9, rfl, hT9, hb9, hz9, hk9⟩
              obtain ⟨ad9, cp9, rfl⟩ := hT9.len
              have HB9 := HB.trans hb9
              go_wp2_with fail
              refine (htg.out _).mono ?_
              rintro e w10 ⟨v10, rfl, hA10, hb10⟩
              obtain ⟨ad10, cp10, rfl⟩ := hA10.len
              have HB10 := below_then HB9 HB9.size hb10
              have HT10 := hT9.below hb10
              have HBA := HB10.alloc HB10.size (.cells #[.int .i64 0, .string ⟨nm1.toArray⟩, .string ⟨#[]⟩, .slice ad10 at1.length cp10, .bool sf1] 59)
              have HBB := HBA.alloc HBA.size (.cells #[.int .i64 2, .string ⟨nm1.toArray⟩, .string ⟨#[]⟩, .slice none 0 0, .bool false] 59)
              have HTB := (HT10.alloc (.cells #[.int .i64 0, .string ⟨nm1.toArray⟩, .string ⟨#[]⟩, .slice ad10 at1.length cp10, .bool sf1] 59)).alloc (.cells #[.int .i64 2, .string ⟨nm1.toArray⟩, .string ⟨#[]⟩, .slice none 0 0, .bool false] 59)
              have hsz : (w10.alloc (.cells #[.int .i64 0, .string ⟨nm1.toArray⟩, .string ⟨#[]⟩, .slice ad10 at1.length cp10, .bool sf1] 59)).heap.size = w10.heap.size + 1 := World.size_alloc _ _
              have hnc := new_cells (w10.alloc (.cells #[.int .i64 0, .string ⟨nm1.toArray⟩, .string ⟨#[]⟩, .slice ad10 at1.length cp10, .bool sf1] 59)) #[.int .i64 2, .string ⟨nm1.toArray⟩, .string ⟨#[]⟩, .slice none 0 0, .bool false] 59
              rw [hsz] at hnc
              obtain ⟨⟨k0, k1, k2, k3, k4⟩, k5⟩ := five_facts hnc
              go_wp2_with (at_builtin; refine app_tok rfl (.tmp 69) (.tmp 73) rfl w.heap.size (w10.heap.size + 1) (.slice ad9 L9.length cp9) (.slice none 0 0) L9 ⟨2, nm1, [], [], false⟩ rfl HTB rfl k0 k1 k2 k3 k4 (Atts.nil _ _) (by omega) HBB.size ?_; intro v11 w11 hT11 hg11 hb11 hk11; obtain ⟨ad11, cp11, rfl⟩ := hT11.len; have HB11 := HBB.trans hb11)
              exact ⟨⟨ad11, cp11, en, L9 ++ [(⟨2, nm1, [], [], false⟩ : Go.Proofs.YtdnbaliibiginaaGreatDoor.Tok)], [], by rw [List.length_append]; rfl, rfl, rfl, by omega, by simp, by rw [List.length_append]; simp; omega, hT11, HB11, hst2⟩, by simp [intOf]; omega⟩
          · replace hend : (Lib.hasPrefix (s.drop (i + 1)) [47] && letterL (s.drop (i + 2))) = false := by simpa using hend
            have p2 : Lib.hasPrefix (s.drop i) [60, 47] = Lib.hasPrefix (s.drop (i + 1)) [47] := by rw [hd60, pre_cons]
            have p3 : Lib.hasPrefix (s.drop i) [60, 47, 62] = Lib.hasPrefix (s.drop (i + 1)) [47, 62] := by rw [hd60, pre_cons]
            obtain ⟨tk, en, hcase, hnote⟩ := rnote_c s i hlt hc hs
            have hno := Lib.hid hnote
            clear hnote
            obtain ⟨k3, nm3, at3, d3, sf3⟩ := tk
            simp only at hno
            cases h47 : Lib.hasPrefix (s.drop (i + 1)) [47] with
            | true =>
              rw [h47] at p2 hend
              simp only [Bool.true_and] at hend
              have c2 := Lib.hid (fun W => rat_c s [60, 47] i true hi hs (by decide) p2 W)
              have l2 := Lib.hid (fun W => rletter_c s (i + 2) false (by omega) hs hend W)
              cases h62 : Lib.hasPrefix (s.drop (i + 1)) [47, 62] with
              | true =>
                rw [h62] at p3
                have c3 := Lib.hid (fun W => rat_c s [60, 47, 62] i true hi hs (by decide) p3 W)
                rw [open_gone hst (by rw [h47, htd, hend]; rfl) h62] at hrl
                simp only [List.append_nil] at hrl
                have h62l := pre_len h62
                simp only [List.length_drop, List.length_cons, List.length_nil] at h62l
                have htl := tell_len t
                have hLL : (l ++ tellF t).length ≤ l.length + 1 := by rw [List.length_append]; omega
                have hinv2 := hinv.out
                rw [hrl, List.drop_drop, ← List.append_assoc] at hinv2
                generalize l ++ tellF t = L9 at *
                have hst2 := Lib.hid (show L0 = L9 ++ rest s [] (i + 3) from hinv2)
                clear hinv hinv2 hrl hc hd60 p1 p2 p3 hst hend h47 htd h62 hcase
                have HB := hB
                have HT := hT
                go_wp2_with fail
                refine (c1.out _).mono ?_
                rintro e wm ⟨rfl, hbn⟩
                have HB2 : Below w.heap.size w wm := below_then HB HB.size hbn
                have HT2 : Toks wm w.heap.size (.slice ad l.length cp) l := HT.below hbn
                clear HB HT hbn
                have HB := HB2
                have HT := HT2
                clear HB2 HT2
                go_wp2_with fail
                refine (l1.out _).mono ?_
                rintro e wm ⟨rfl, hbn⟩
                have HB2 : Below w.heap.size w wm := below_then HB HB.size hbn
                have HT2 : Toks wm w.heap.size (.slice ad l.length cp) l := HT.below hbn
                clear HB HT hbn
                have HB := HB2
                have HT := HT2
                clear HB2 HT2
                go_wp2_with fail
                refine (c2.out _).mono ?_
                rintro e wm ⟨rfl, hbn⟩
                have HB2 : Below w.heap.size w wm := below_then HB HB.size hbn
                have HT2 : Toks wm w.heap.size (.slice ad l.length cp) l := HT.below hbn
                clear HB HT hbn
                have HB := HB2
                have HT := HT2
                clear HB2 HT2
                go_wp2_with fail
                refine (l2.out _).mono ?_
                rintro e wm ⟨rfl, hbn⟩
                have HB2 : Below w.heap.size w wm := below_then HB HB.size hbn
                have HT2 : Toks wm w.heap.size (.slice ad l.length cp) l := HT.below hbn
                clear HB HT hbn
                have HB := HB2
                have HT := HT2
                clear HB2 HT2
                go_wp2_with fail
                refine (c1.out _).mono ?_
                rintro e wz ⟨rfl, hbz⟩
                have hzw := HB.size
                have hBz := below_then ((Below.refl wm.heap.size wm).alloc (Nat.le_refl _) (.cells #[.int .i64 0, .string ⟨#[]⟩, .string ⟨#[]⟩, .slice none 0 0, .bool false] 59)) (by rw [World.size_alloc]; omega) hbz
                have hnz := heap_below (new_cells wm #[.int .i64 0, .string ⟨#[]⟩, .string ⟨#[]⟩, .slice none 0 0, .bool false] 59) hbz
                go_wp2_with fail
                refine (hno.out _).mono ?_
                rintro e wt ⟨v3, rfl, hA3, hbt⟩
                obtain ⟨ad3, cp3, rfl⟩ := hA3.len
                have hnt := heap_below hnz hbt
                have hBt := below_then hBz hBz.size hbt
                obtain ⟨⟨z0, z1, z2, z3, z4⟩, z5⟩ := five_facts hnt
                go_wp2_with fail
                have hnS := put5 hnt (.int .i64 k3) (.string ⟨nm3.toArray⟩) (.string ⟨d3.toArray⟩) (.slice ad3 at3.length cp3) (.bool sf3)
                have hBS := below_set5 hBt (Nat.le_refl _) (.int .i64 k3) (.string ⟨nm3.toArray⟩) (.string ⟨d3.toArray⟩) (.slice ad3 at3.length cp3) (.bool sf3)
                have hAS : Atts (set5 wt wm.heap.size (.int .i64 k3) (.string ⟨nm3.toArray⟩) (.string ⟨d3.toArray⟩) (.slice ad3 at3.length cp3) (.bool sf3)) w.heap.size (.slice ad3 at3.length cp3) at3 := atts_set5 (atts_low hA3 (by have := hBz.size; omega)) (atts_ne hA3 hnt) (.int .i64 k3) (.string ⟨nm3.toArray⟩) (.string ⟨d3.toArray⟩) (.slice ad3 at3.length cp3) (.bool sf3)
                change Calls Tryz.prog 40 _ (set5 wt wm.heap.size (.int .i64 k3) (.string ⟨nm3.toArray⟩) (.string ⟨d3.toArray⟩) (.slice ad3 at3.length cp3) (.bool sf3)) _
                generalize set5 wt wm.heap.size (.int .i64 k3) (.string ⟨nm3.toArray⟩) (.string ⟨d3.toArray⟩) (.slice ad3 at3.length cp3) (.bool sf3) = wS at *
                have HTS := HT.below hBS
                have HBS := below_then HB hzw hBS
                clear hBS hBt hBz hnt hnz z0 z1 z2 z3 z4 z5
                refine (c3.out _).mono ?_
                rintro e w5 ⟨rfl, hb5⟩
                have HT5 := HTS.below hb5
                have HB5 := below_then HBS HBS.size hb5
                go_wp2_with fail
                refine (hto.out _ HT5 HB5.size).mono ?_
                rintro e w9 ⟨v9, rfl, hT9, hb9, hz9, hk9⟩
                obtain ⟨ad9, cp9, rfl⟩ := hT9.len
                have HB9 := HB5.trans hb9
                go_wp2
                exact ⟨⟨ad9, cp9, i + 3, L9, [], rfl, rfl, rfl, by omega, by simp, by omega, hT9, HB9, hst2⟩, by simp [intOf]; omega⟩
              | false =>
                rw [h62] at p3
                have c3 := Lib.hid (fun W => rat_c s [60, 47, 62] i false hi hs (by decide) p3 W)
                rw [open_note hst (by rw [h47, htd]; first | rw [hend]; rfl | rfl) h62] at hrl
                rcases hcase with ⟨hN, hen⟩ | ⟨hen, hgt, hN⟩
                · rw [hN] at hrl
                  simp only at hrl
                  subst hen
                  have hinv2 := hinv.out
                  rw [hrl] at hinv2
                  have hst2 := Lib.hid hinv2
                  have hext : (⟨s.toArray⟩ : ByteArray).extract en (en + 1) = ⟨[(60 : UInt8)].toArray⟩ := by rw [ext_take, show L ⟨s.toArray⟩ = s from rfl, hd60]; rfl
                  have hap := app1 t 60
                  have h0I : (0 : Int) ≤ en := by omega
                  have h1I : (en : Int) ≤ en + 1 := by omega
                  have h2I : (en : Int) + 1 ≤ s.length := by omega
                  clear hinv hinv2 hrl hc hd60 p1 p2 p3 hst hend h47 htd h62 hN
                  have HB := hB
                  have HT := hT
                  go_wp2_with fail
                  refine (c1.out _).mono ?_
                  rintro e wm ⟨rfl, hbn⟩
                  have HB2 : Below w.heap.size w wm := below_then HB HB.size hbn
                  have HT2 : Toks wm w.heap.size (.slice ad l.length cp) l := HT.below hbn
                  clear HB HT hbn
                  have HB := HB2
                  have HT := HT2
                  clear HB2 HT2
                  go_wp2_with fail
                  refine (l1.out _).mono ?_
                  rintro e wm ⟨rfl, hbn⟩
                  have HB2 : Below w.heap.size w wm := below_then HB HB.size hbn
                  have HT2 : Toks wm w.heap.size (.slice ad l.length cp) l := HT.below hbn
                  clear HB HT hbn
                  have HB := HB2
                  have HT := HT2
                  clear HB2 HT2
                  go_wp2_with fail
                  refine (c2.out _).mono ?_
                  rintro e wm ⟨rfl, hbn⟩
                  have HB2 : Below w.heap.size w wm := below_then HB HB.size hbn
                  have HT2 : Toks wm w.heap.size (.slice ad l.length cp) l := HT.below hbn
                  clear HB HT hbn
                  have HB := HB2
                  have HT := HT2
                  clear HB2 HT2
                  go_wp2_with fail
                  refine (l2.out _).mono ?_
                  rintro e wm ⟨rfl, hbn⟩
                  have HB2 : Below w.heap.size w wm := below_then HB HB.size hbn
                  have HT2 : Toks wm w.heap.size (.slice ad l.length cp) l := HT.below hbn
                  clear HB HT hbn
                  have HB := HB2
                  have HT := HT2
                  clear HB2 HT2
                  go_wp2_with fail
                  refine (c1.out _).mono ?_
                  rintro e wz ⟨rfl, hbz⟩
                  have hzw := HB.size
                  have hBz := below_then ((Below.refl wm.heap.size wm).alloc (Nat.le_refl _) (.cells #[.int .i64 0, .string ⟨#[]⟩, .string ⟨#[]⟩, .slice none 0 0, .bool false] 59)) (by rw [World.size_alloc]; omega) hbz
                  have hnz := heap_below (new_cells wm #[.int .i64 0, .string ⟨#[]⟩, .string ⟨#[]⟩, .slice none 0 0, .bool false] 59) hbz
                  go_wp2_with fail
                  refine (hno.out _).mono ?_
                  rintro e wt ⟨v3, rfl, hA3, hbt⟩
                  obtain ⟨ad3, cp3, rfl⟩ := hA3.len
                  have hnt := heap_below hnz hbt
                  have hBt := below_then hBz hBz.size hbt
                  obtain ⟨⟨z0, z1, z2, z3, z4⟩, z5⟩ := five_facts hnt
                  go_wp2_with fail
                  have hnS := put5 hnt (.int .i64 k3) (.string ⟨nm3.toArray⟩) (.string ⟨d3.toArray⟩) (.slice ad3 at3.length cp3) (.bool sf3)
                  have hBS := below_set5 hBt (Nat.le_refl _) (.int .i64 k3) (.string ⟨nm3.toArray⟩) (.string ⟨d3.toArray⟩) (.slice ad3 at3.length cp3) (.bool sf3)
                  have hAS : Atts (set5 wt wm.heap.size (.int .i64 k3) (.string ⟨nm3.toArray⟩) (.string ⟨d3.toArray⟩) (.slice ad3 at3.length cp3) (.bool sf3)) w.heap.size (.slice ad3 at3.length cp3) at3 := atts_set5 (atts_low hA3 (by have := hBz.size; omega)) (atts_ne hA3 hnt) (.int .i64 k3) (.string ⟨nm3.toArray⟩) (.string ⟨d3.toArray⟩) (.slice ad3 at3.length cp3) (.bool sf3)
                  change Calls Tryz.prog 40 _ (set5 wt wm.heap.size (.int .i64 k3) (.string ⟨nm3.toArray⟩) (.string ⟨d3.toArray⟩) (.slice ad3 at3.length cp3) (.bool sf3)) _
                  generalize set5 wt wm.heap.size (.int .i64 k3) (.string ⟨nm3.toArray⟩) (.string ⟨d3.toArray⟩) (.slice ad3 at3.length cp3) (.bool sf3) = wS at *
                  have HTS := HT.below hBS
                  have HBS := below_then HB hzw hBS
                  clear hBS hBt hBz hnt hnz z0 z1 z2 z3 z4 z5
                  refine (c3.out _).mono ?_
                  rintro e w5 ⟨rfl, hb5⟩
                  have HT5 := HTS.below hb5
                  have HB5 := below_then HBS HBS.size hb5
                  go_wp2
                  exact ⟨⟨ad, cp, en + 1, l, t ++ [60], rfl, rfl, rfl, by omega, by simp; omega, by omega, HT5, HB5, hst2⟩, by simp [intOf]; omega⟩
                · rw [hN] at hrl
                  simp only at hrl
                  have htl := tell_len t
                  have hLL : (l ++ tellF t).length ≤ l.length + 1 := by rw [List.length_append]; omega
                  have hinv2 := hinv.out
                  rw [hrl, ← List.append_assoc, ← List.append_assoc] at hinv2
                  generalize l ++ tellF t = L9 at *
                  have hst2 := Lib.hid (show L0 = (L9 ++ [(⟨k3, nm3, at3, d3, sf3⟩ : Go.Proofs.YtdnbaliibiginaaGreatDoor.Tok)]) ++ rest s [] en from hinv2)
                  have hneI : ((en : Int) == (i : Int)) = false := by rw [beq_eq_false_iff_ne]; omega
                  have hneI2 : ¬ ((en : Int) = (i : Int)) := by omega
                  clear hinv hinv2 hrl hc hd60 p1 p2 p3 hst hend h47 htd h62 hN
                  have HB := hB
                  have HT := hT
                  go_wp2_with fail
                  refine (c1.out _).mono ?_
                  rintro e wm ⟨rfl, hbn⟩
                  have HB2 : Below w.heap.size w wm := below_then HB HB.size hbn
                  have HT2 : Toks wm w.heap.size (.slice ad l.length cp) l := HT.below hbn
                  clear HB HT hbn
                  have HB := HB2
                  have HT := HT2
                  clear HB2 HT2
                  go_wp2_with fail
                  refine (l1.out _).mono ?_
                  rintro e wm ⟨rfl, hbn⟩
                  have HB2 : Below w.heap.size w wm := below_then HB HB.size hbn
                  have HT2 : Toks wm w.heap.size (.slice ad l.length cp) l := HT.below hbn
                  clear HB HT hbn
                  have HB := HB2
                  have HT := HT2
                  clear HB2 HT2
                  go_wp2_with fail
                  refine (c2.out _).mono ?_
                  rintro e wm ⟨rfl, hbn⟩
                  have HB2 : Below w.heap.size w wm := below_then HB HB.size hbn
                  have HT2 : Toks wm w.heap.size (.slice ad l.length cp) l := HT.below hbn
                  clear HB HT hbn
                  have HB := HB2
                  have HT := HT2
                  clear HB2 HT2
                  go_wp2_with fail
                  refine (l2.out _).mono ?_
                  rintro e wm ⟨rfl, hbn⟩
                  have HB2 : Below w.heap.size w wm := below_then HB HB.size hbn
                  have HT2 : Toks wm w.heap.size (.slice ad l.length cp) l := HT.below hbn
                  clear HB HT hbn
                  have HB := HB2
                  have HT := HT2
                  clear HB2 HT2
                  go_wp2_with fail
                  refine (c1.out _).mono ?_
                  rintro e wz ⟨rfl, hbz⟩
                  have hzw := HB.size
                  have hBz := below_then ((Below.refl wm.heap.size wm).alloc (Nat.le_refl _) (.cells #[.int .i64 0, .string ⟨#[]⟩, .string ⟨#[]⟩, .slice none 0 0, .bool false] 59)) (by rw [World.size_alloc]; omega) hbz
                  have hnz := heap_below (new_cells wm #[.int .i64 0, .string ⟨#[]⟩, .string ⟨#[]⟩, .slice none 0 0, .bool false] 59) hbz
                  go_wp2_with fail
                  refine (hno.out _).mono ?_
                  rintro e wt ⟨v3, rfl, hA3, hbt⟩
                  obtain ⟨ad3, cp3, rfl⟩ := hA3.len
                  have hnt := heap_below hnz hbt
                  have hBt := below_then hBz hBz.size hbt
                  obtain ⟨⟨z0, z1, z2, z3, z4⟩, z5⟩ := five_facts hnt
                  go_wp2_with fail
                  have hnS := put5 hnt (.int .i64 k3) (.string ⟨nm3.toArray⟩) (.string ⟨d3.toArray⟩) (.slice ad3 at3.length cp3) (.bool sf3)
                  have hBS := below_set5 hBt (Nat.le_refl _) (.int .i64 k3) (.string ⟨nm3.toArray⟩) (.string ⟨d3.toArray⟩) (.slice ad3 at3.length cp3) (.bool sf3)
                  have hAS : Atts (set5 wt wm.heap.size (.int .i64 k3) (.string ⟨nm3.toArray⟩) (.string ⟨d3.toArray⟩) (.slice ad3 at3.length cp3) (.bool sf3)) w.heap.size (.slice ad3 at3.length cp3) at3 := atts_set5 (atts_low hA3 (by have := hBz.size; omega)) (atts_ne hA3 hnt) (.int .i64 k3) (.string ⟨nm3.toArray⟩) (.string ⟨d3.toArray⟩) (.slice ad3 at3.length cp3) (.bool sf3)
                  change Calls Tryz.prog 40 _ (set5 wt wm.heap.size (.int .i64 k3) (.string ⟨nm3.toArray⟩) (.string ⟨d3.toArray⟩) (.slice ad3 at3.length cp3) (.bool sf3)) _
                  generalize set5 wt wm.heap.size (.int .i64 k3) (.string ⟨nm3.toArray⟩) (.string ⟨d3.toArray⟩) (.slice ad3 at3.length cp3) (.bool sf3) = wS at *
                  have HTS := HT.below hBS
                  have HBS := below_then HB hzw hBS
                  clear hBS hBt hBz hnt hnz z0 z1 z2 z3 z4 z5
                  refine (c3.out _).mono ?_
                  rintro e w5 ⟨rfl, hb5⟩
                  have HT5 := HTS.below hb5
                  have HB5 := below_then HBS HBS.size hb5
                  have hn5 := heap_below hnS hb5
                  have hA5 := hAS.below hb5
                  go_wp2_with fail
                  refine (hto.out _ HT5 HB5.size).mono ?_
                  rintro e w9 ⟨v9, rfl, hT9, hb9, hz9, hk9⟩
                  obtain ⟨ad9, cp9, rfl⟩ := hT9.len
                  have HB9 := HB5.trans hb9
                  have hn9 := hk9 _ _ hn5 (fun e => by have := toks_lt HT _ e.symm; omega)
                  have hA9 := atts_kept hA5 HT5 hk9
                  obtain ⟨⟨z0, z1, z2, z3, z4⟩, z5⟩ := five_facts hn9
                  have HBB := HB9.alloc HB9.size (.cells #[.int .i64 k3, .string ⟨nm3.toArray⟩, .string ⟨d3.toArray⟩, .slice ad3 at3.length cp3, .bool sf3] 59)
                  have HTB := hT9.alloc (.cells #[.int .i64 k3, .string ⟨nm3.toArray⟩, .string ⟨d3.toArray⟩, .slice ad3 at3.length cp3, .bool sf3] 59)
                  have HAB := hA9.below ((Below.refl _ _).alloc (Nat.le_refl _) (.cells #[.int .i64 k3, .string ⟨nm3.toArray⟩, .string ⟨d3.toArray⟩, .slice ad3 at3.length cp3, .bool sf3] 59))
                  obtain ⟨⟨k0, k1, k2, k3', k4⟩, k5⟩ := five_facts (new_cells w9 #[.int .i64 k3, .string ⟨nm3.toArray⟩, .string ⟨d3.toArray⟩, .slice ad3 at3.length cp3, .bool sf3] 59)
                  go_wp2_with (at_builtin; refine app_tok rfl (.tmp 123) (.tmp 125) rfl w.heap.size w9.heap.size (.slice ad9 L9.length cp9) (.slice ad3 at3.length cp3) L9 ⟨k3, nm3, at3, d3, sf3⟩ rfl HTB rfl k0 k1 k2 k3' k4 HAB (by omega) HBB.size ?_; intro v11 w11 hT11 hg11 hb11 hk11; obtain ⟨ad11, cp11, rfl⟩ := hT11.len; have HB11 := HBB.trans hb11)
                  exact ⟨⟨ad11, cp11, en, L9 ++ [(⟨k3, nm3, at3, d3, sf3⟩ : Go.Proofs.YtdnbaliibiginaaGreatDoor.Tok)], [], by rw [List.length_append]; rfl, rfl, rfl, by omega, by simp, by rw [List.length_append]; simp; omega, hT11, HB11, hst2⟩, by simp [intOf]; omega⟩
            | false =>
              rw [h47] at p2
              have c2 := Lib.hid (fun W => rat_c s [60, 47] i false hi hs (by decide) p2 W)
              have h62 : Lib.hasPrefix (s.drop (i + 1)) [47, 62] = false := pre_two h47
              rw [h62] at p3
              have c3 := Lib.hid (fun W => rat_c s [60, 47, 62] i false hi hs (by decide) p3 W)
              rw [open_note hst (by rw [h47, htd]; first | rw [hend]; rfl | rfl) h62] at hrl
              rcases hcase with ⟨hN, hen⟩ | ⟨hen, hgt, hN⟩
              · rw [hN] at hrl
                simp only at hrl
                subst hen
                have hinv2 := hinv.out
                rw [hrl] at hinv2
                have hst2 := Lib.hid hinv2
                have hext : (⟨s.toArray⟩ : ByteArray).extract en (en + 1) = ⟨[(60 : UInt8)].toArray⟩ := by rw [ext_take, show L ⟨s.toArray⟩ = s from rfl, hd60]; rfl
                have hap := app1 t 60
                have h0I : (0 : Int) ≤ en := by omega
                have h1I : (en : Int) ≤ en + 1 := by omega
                have h2I : (en : Int) + 1 ≤ s.length := by omega
                clear hinv hinv2 hrl hc hd60 p1 p2 p3 hst hend h47 htd h62 hN
                have HB := hB
                have HT := hT
                go_wp2_with fail
                refine (c1.out _).mono ?_
                rintro e wm ⟨rfl, hbn⟩
                have HB2 : Below w.heap.size w wm := below_then HB HB.size hbn
                have HT2 : Toks wm w.heap.size (.slice ad l.length cp) l := HT.below hbn
                clear HB HT hbn
                have HB := HB2
                have HT := HT2
                clear HB2 HT2
                go_wp2_with fail
                refine (l1.out _).mono ?_
                rintro e wm ⟨rfl, hbn⟩
                have HB2 : Below w.heap.size w wm := below_then HB HB.size hbn
                have HT2 : Toks wm w.heap.size (.slice ad l.length cp) l := HT.below hbn
                clear HB HT hbn
                have HB := HB2
                have HT := HT2
                clear HB2 HT2
                go_wp2_with fail
                refine (c2.out _).mono ?_
                rintro e wm ⟨rfl, hbn⟩
                have HB2 : Below w.heap.size w wm := below_then HB HB.size hbn
                have HT2 : Toks wm w.heap.size (.slice ad l.length cp) l := HT.below hbn
                clear HB HT hbn
                have HB := HB2
                have HT := HT2
                clear HB2 HT2
                go_wp2_with fail
                refine (c1.out _).mono ?_
                rintro e wz ⟨rfl, hbz⟩
                have hzw := HB.size
                have hBz := below_then ((Below.refl wm.heap.size wm).alloc (Nat.le_refl _) (.cells #[.int .i64 0, .string ⟨#[]⟩, .string ⟨#[]⟩, .slice none 0 0, .bool false] 59)) (by rw [World.size_alloc]; omega) hbz
                have hnz := heap_below (new_cells wm #[.int .i64 0, .string ⟨#[]⟩, .string ⟨#[]⟩, .slice none 0 0, .bool false] 59) hbz
                go_wp2_with fail
                refine (hno.out _).mono ?_
                rintro e wt ⟨v3, rfl, hA3, hbt⟩
                obtain ⟨ad3, cp3, rfl⟩ := hA3.len
                have hnt := heap_below hnz hbt
                have hBt := below_then hBz hBz.size hbt
                obtain ⟨⟨z0, z1, z2, z3, z4⟩, z5⟩ := five_facts hnt
                go_wp2_with fail
                have hnS := put5 hnt (.int .i64 k3) (.string ⟨nm3.toArray⟩) (.string ⟨d3.toArray⟩) (.slice ad3 at3.length cp3) (.bool sf3)
                have hBS := below_set5 hBt (Nat.le_refl _) (.int .i64 k3) (.string ⟨nm3.toArray⟩) (.string ⟨d3.toArray⟩) (.slice ad3 at3.length cp3) (.bool sf3)
                have hAS : Atts (set5 wt wm.heap.size (.int .i64 k3) (.string ⟨nm3.toArray⟩) (.string ⟨d3.toArray⟩) (.slice ad3 at3.length cp3) (.bool sf3)) w.heap.size (.slice ad3 at3.length cp3) at3 := atts_set5 (atts_low hA3 (by have := hBz.size; omega)) (atts_ne hA3 hnt) (.int .i64 k3) (.string ⟨nm3.toArray⟩) (.string ⟨d3.toArray⟩) (.slice ad3 at3.length cp3) (.bool sf3)
                change Calls Tryz.prog 40 _ (set5 wt wm.heap.size (.int .i64 k3) (.string ⟨nm3.toArray⟩) (.string ⟨d3.toArray⟩) (.slice ad3 at3.length cp3) (.bool sf3)) _
                generalize set5 wt wm.heap.size (.int .i64 k3) (.string ⟨nm3.toArray⟩) (.string ⟨d3.toArray⟩) (.slice ad3 at3.length cp3) (.bool sf3) = wS at *
                have HTS := HT.below hBS
                have HBS := below_then HB hzw hBS
                clear hBS hBt hBz hnt hnz z0 z1 z2 z3 z4 z5
                refine (c3.out _).mono ?_
                rintro e w5 ⟨rfl, hb5⟩
                have HT5 := HTS.below hb5
                have HB5 := below_then HBS HBS.size hb5
                go_wp2
                exact ⟨⟨ad, cp, en + 1, l, t ++ [60], rfl, rfl, rfl, by omega, by simp; omega, by omega, HT5, HB5, hst2⟩, by simp [intOf]; omega⟩
              · rw [hN] at hrl
                simp only at hrl
                have htl := tell_len t
                have hLL : (l ++ tellF t).length ≤ l.length + 1 := by rw [List.length_append]; omega
                have hinv2 := hinv.out
                rw [hrl, ← List.append_assoc, ← List.append_assoc] at hinv2
                generalize l ++ tellF t = L9 at *
                have hst2 := Lib.hid (show L0 = (L9 ++ [(⟨k3, nm3, at3, d3, sf3⟩ : Go.Proofs.YtdnbaliibiginaaGreatDoor.Tok)]) ++ rest s [] en from hinv2)
                have hneI : ((en : Int) == (i : Int)) = false := by rw [beq_eq_false_iff_ne]; omega
                have hneI2 : ¬ ((en : Int) = (i : Int)) := by omega
                clear hinv hinv2 hrl hc hd60 p1 p2 p3 hst hend h47 htd h62 hN
                have HB := hB
                have HT := hT
                go_wp2_with fail
                refine (c1.out _).mono ?_
                rintro e wm ⟨rfl, hbn⟩
                have HB2 : Below w.heap.size w wm := below_then HB HB.size hbn
                have HT2 : Toks wm w.heap.size (.slice ad l.length cp) l := HT.below hbn
                clear HB HT hbn
                have HB := HB2
                have HT := HT2
                clear HB2 HT2
                go_wp2_with fail
                refine (l1.out _).mono ?_
                rintro e wm ⟨rfl, hbn⟩
                have HB2 : Below w.heap.size w wm := below_then HB HB.size hbn
                have HT2 : Toks wm w.heap.size (.slice ad l.length cp) l := HT.below hbn
                clear HB HT hbn
                have HB := HB2
                have HT := HT2
                clear HB2 HT2
                go_wp2_with fail
                refine (c2.out _).mono ?_
                rintro e wm ⟨rfl, hbn⟩
                have HB2 : Below w.heap.size w wm := below_then HB HB.size hbn
                have HT2 : Toks wm w.heap.size (.slice ad l.length cp) l := HT.below hbn
                clear HB HT hbn
                have HB := HB2
                have HT := HT2
                clear HB2 HT2
                go_wp2_with fail
                refine (c1.out _).mono ?_
                rintro e wz ⟨rfl, hbz⟩
                have hzw := HB.size
                have hBz := below_then ((Below.refl wm.heap.size wm).alloc (Nat.le_refl _) (.cells #[.int .i64 0, .string ⟨#[]⟩, .string ⟨#[]⟩, .slice none 0 0, .bool false] 59)) (by rw [World.size_alloc]; omega) hbz
                have hnz := heap_below (new_cells wm #[.int .i64 0, .string ⟨#[]⟩, .string ⟨#[]⟩, .slice none 0 0, .bool false] 59) hbz
                go_wp2_with fail
                refine (hno.out _).mono ?_
                rintro e wt ⟨v3, rfl, hA3, hbt⟩
                obtain ⟨ad3, cp3, rfl⟩ := hA3.len
                have hnt := heap_below hnz hbt
                have hBt := below_then hBz hBz.size hbt
                obtain ⟨⟨z0, z1, z2, z3, z4⟩, z5⟩ := five_facts hnt
                go_wp2_with fail
                have hnS := put5 hnt (.int .i64 k3) (.string ⟨nm3.toArray⟩) (.string ⟨d3.toArray⟩) (.slice ad3 at3.length cp3) (.bool sf3)
                have hBS := below_set5 hBt (Nat.le_refl _) (.int .i64 k3) (.string ⟨nm3.toArray⟩) (.string ⟨d3.toArray⟩) (.slice ad3 at3.length cp3) (.bool sf3)
                have hAS : Atts (set5 wt wm.heap.size (.int .i64 k3) (.string ⟨nm3.toArray⟩) (.string ⟨d3.toArray⟩) (.slice ad3 at3.length cp3) (.bool sf3)) w.heap.size (.slice ad3 at3.length cp3) at3 := atts_set5 (atts_low hA3 (by have := hBz.size; omega)) (atts_ne hA3 hnt) (.int .i64 k3) (.string ⟨nm3.toArray⟩) (.string ⟨d3.toArray⟩) (.slice ad3 at3.length cp3) (.bool sf3)
                change Calls Tryz.prog 40 _ (set5 wt wm.heap.size (.int .i64 k3) (.string ⟨nm3.toArray⟩) (.string ⟨d3.toArray⟩) (.slice ad3 at3.length cp3) (.bool sf3)) _
                generalize set5 wt wm.heap.size (.int .i64 k3) (.string ⟨nm3.toArray⟩) (.string ⟨d3.toArray⟩) (.slice ad3 at3.length cp3) (.bool sf3) = wS at *
                have HTS := HT.below hBS
                have HBS := below_then HB hzw hBS
                clear hBS hBt hBz hnt hnz z0 z1 z2 z3 z4 z5
                refine (c3.out _).mono ?_
                rintro e w5 ⟨rfl, hb5⟩
                have HT5 := HTS.below hb5
                have HB5 := below_then HBS HBS.size hb5
                have hn5 := heap_below hnS hb5
                have hA5 := hAS.below hb5
                go_wp2_with fail
                refine (hto.out _ HT5 HB5.size).mono ?_
                rintro e w9 ⟨v9, rfl, hT9, hb9, hz9, hk9⟩
                obtain ⟨ad9, cp9, rfl⟩ := hT9.len
                have HB9 := HB5.trans hb9
                have hn9 := hk9 _ _ hn5 (fun e => by have := toks_lt HT _ e.symm; omega)
                have hA9 := atts_kept hA5 HT5 hk9
                obtain ⟨⟨z0, z1, z2, z3, z4⟩, z5⟩ := five_facts hn9
                have HBB := HB9.alloc HB9.size (.cells #[.int .i64 k3, .string ⟨nm3.toArray⟩, .string ⟨d3.toArray⟩, .slice ad3 at3.length cp3, .bool sf3] 59)
                have HTB := hT9.alloc (.cells #[.int .i64 k3, .string ⟨nm3.toArray⟩, .string ⟨d3.toArray⟩, .slice ad3 at3.length cp3, .bool sf3] 59)
                have HAB := hA9.below ((Below.refl _ _).alloc (Nat.le_refl _) (.cells #[.int .i64 k3, .string ⟨nm3.toArray⟩, .string ⟨d3.toArray⟩, .slice ad3 at3.length cp3, .bool sf3] 59))
                obtain ⟨⟨k0, k1, k2, k3', k4⟩, k5⟩ := five_facts (new_cells w9 #[.int .i64 k3, .string ⟨nm3.toArray⟩, .string ⟨d3.toArray⟩, .slice ad3 at3.length cp3, .bool sf3] 59)
                go_wp2_with (at_builtin; refine app_tok rfl (.tmp 123) (.tmp 125) rfl w.heap.size w9.heap.size (.slice ad9 L9.length cp9) (.slice ad3 at3.length cp3) L9 ⟨k3, nm3, at3, d3, sf3⟩ rfl HTB rfl k0 k1 k2 k3' k4 HAB (by omega) HBB.size ?_; intro v11 w11 hT11 hg11 hb11 hk11; obtain ⟨ad11, cp11, rfl⟩ := hT11.len; have HB11 := HBB.trans hb11)
                exact ⟨⟨ad11, cp11, en, L9 ++ [(⟨k3, nm3, at3, d3, sf3⟩ : Go.Proofs.YtdnbaliibiginaaGreatDoor.Tok)], [], by rw [List.length_append]; rfl, rfl, rfl, by omega, by simp, by rw [List.length_append]; simp; omega, hT11, HB11, hst2⟩, by simp [intOf]; omega⟩
      · have hst := Lib.hid (show L0 = l ++ rest s (t ++ [s[i]]) (i + 1) by rw [← rest_char hlt hc]; exact hinv.out)
        have c1 := Lib.hid (fun W => rat_c s [60] i false hi hs (by decide) (pre_ne hlt hc) W)
        have c2 := Lib.hid (fun W => rat_c s [60, 47] i false hi hs (by decide) (pre_ne hlt hc) W)
        have c3 := Lib.hid (fun W => rat_c s [60, 47, 62] i false hi hs (by decide) (pre_ne hlt hc) W)
        have hext : (⟨s.toArray⟩ : ByteArray).extract i (i + 1) = ⟨[s[i]].toArray⟩ := by rw [ext_take, show L ⟨s.toArray⟩ = s from rfl, drop_cons hlt]; rfl
        generalize s[i] = c at *
        have hap := app1 t c
        have h0I : (0 : Int) ≤ i := by omega
        have h1I : (i : Int) ≤ i + 1 := by omega
        have h2I : (i : Int) + 1 ≤ s.length := by omega
        clear hinv hc
        have HB := hB
        have HT := hT
        go_wp2_with (go_at_call 40; first
          | ((with_reducible refine (c1.out _).mono ?_); rintro e wm ⟨rfl, hbn⟩; have HB2 : Below w.heap.size w wm := (by first | exact below_then HB HB.size hbn | exact below_then (HB.alloc HB.size _) (by rw [World.size_alloc]; have := HB.size; omega) hbn); have HT2 : Toks wm w.heap.size (.slice ad l.length cp) l := (by first | exact HT.below hbn | exact (HT.alloc _).below hbn); clear HB HT hbn; have HB := HB2; have HT := HT2; clear HB2 HT2)
          | ((with_reducible refine (c2.out _).mono ?_); rintro e wm ⟨rfl, hbn⟩; have HB2 : Below w.heap.size w wm := (by first | exact below_then HB HB.size hbn | exact below_then (HB.alloc HB.size _) (by rw [World.size_alloc]; have := HB.size; omega) hbn); have HT2 : Toks wm w.heap.size (.slice ad l.length cp) l := (by first | exact HT.below hbn | exact (HT.alloc _).below hbn); clear HB HT hbn; have HB := HB2; have HT := HT2; clear HB2 HT2)
          | ((with_reducible refine (c3.out _).mono ?_); rintro e wm ⟨rfl, hbn⟩; have HB2 : Below w.heap.size w wm := (by first | exact below_then HB HB.size hbn | exact below_then (HB.alloc HB.size _) (by rw [World.size_alloc]; have := HB.size; omega) hbn); have HT2 : Toks wm w.heap.size (.slice ad l.length cp) l := (by first | exact HT.below hbn | exact (HT.alloc _).below hbn); clear HB HT hbn; have HB := HB2; have HT := HT2; clear HB2 HT2))
        exact ⟨⟨ad, cp, i + 1, l, t ++ [c], rfl, rfl, rfl, by omega, by simp; omega, by omega, HT, HB, hst⟩, by simp [intOf]; omega⟩
    · have hL9 := rest_end s t i (by omega)
      have hto := Lib.hid (fun W h1 h2 => told_c w.heap.size (.slice ad l.length cp) l t (by omega) (by omega) W h1 h2)
      have hinv2 := hinv.out
      rw [hL9] at hinv2
      clear hL9 hinv
      generalize l ++ tellF t = L9 at *
      subst hinv2
      go_wp2_with fail
      refine (hto.out _ hT hBz).mono ?_
      rintro e w9 ⟨v9, rfl, hT9, hb9, hz9, hk9⟩
      obtain ⟨ad9, cp9, rfl⟩ := hT9.len
      go_wp2
      go_ret
      exact ⟨_, rfl, hT9, hB.trans hb9⟩
end Go.Proofs.YtdnbaliibiginaaGreatDoorH.TI
