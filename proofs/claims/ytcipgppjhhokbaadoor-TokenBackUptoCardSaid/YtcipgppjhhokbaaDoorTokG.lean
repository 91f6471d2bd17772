/- Plain: TokenAgain, first part: what the tokens of any bytes are like. No program in sight. -/
import Derived.Test.YtcipgppjhhokbaaDoorTokW
import Derived.Test.YtcipgppjhhokbaaDoorTokT
import Derived.Test.YtcipgppjhhokbaaDoorTokS
set_option linter.unusedVariables false
namespace Go.Proofs.YtcipgppjhhokbaaDoor
open Go.Proofs

/-- A comment's text that comes back. -/
structure NoteOK (d : Txt) : Prop where
  no1 : ∀ j, Lib.occAt d [45, 45, 62] j = false
  no2 : ∀ j, Lib.occAt d [45, 45, 33, 62] j = false
  gt : Lib.hasPrefix d [62] = false
  arrow : Lib.hasPrefix d [45, 62] = false
structure DocOK (d : Txt) : Prop where
  no : (62 : UInt8) ∉ d
  trim : trimL (32 :: d) = d
structure StartOK (nm : Txt) (l : List (Txt × Txt)) : Prop where
  name : TagName nm
  attrs : ∀ a ∈ l, AttrName a.1
  once : (l.map Prod.fst).Nodup
/-- What stands in an element with text alone is followed by its end, or by nothing. -/
def Closed (nm : Txt) (r : List Tok) : Prop := r = [] ∨ ∃ q, r = ⟨2, nm, [], [], false⟩ :: q
/-- No end tag of a name stands in a text. -/
def RawOK (nm d : Txt) : Prop := ∀ j, j < d.length → closesB nm (d.drop j) = false

inductive Good : List Tok → Prop
  | nil : Good []
  | text {d : Txt} {r : List Tok} : d ≠ [] → Good r → Good (⟨0, [], [], d, false⟩ :: r)
  | start {nm : Txt} {l : List (Txt × Txt)} {b : Bool} {r : List Tok} : StartOK nm l → (rawB nm || softB nm) = false → Good r → Good (⟨1, nm, l, [], b⟩ :: r)
  | shut {nm : Txt} {l : List (Txt × Txt)} {b : Bool} {r : List Tok} : StartOK nm l → (rawB nm || softB nm) = true → Closed nm r → Good r → Good (⟨1, nm, l, [], b⟩ :: r)
  | full {nm : Txt} {l : List (Txt × Txt)} {b : Bool} {d : Txt} {r : List Tok} : StartOK nm l → (rawB nm || softB nm) = true → d ≠ [] → (rawB nm = true → RawOK nm d) → Closed nm r → Good r → Good (⟨1, nm, l, [], b⟩ :: ⟨0, [], [], d, false⟩ :: r)
  | shuts {nm : Txt} {r : List Tok} : TagName nm → Good r → Good (⟨2, nm, [], [], false⟩ :: r)
  | note {d : Txt} {r : List Tok} : NoteOK d → Good r → Good (⟨3, [], [], d, false⟩ :: r)
  | doct {d : Txt} {r : List Tok} : DocOK d → Good r → Good (⟨4, [], [], d, false⟩ :: r)

theorem occ_take {s sub : Txt} {n j : Nat} (h : Lib.occAt (s.take n) sub j = true) (hs : sub ≠ []) : Lib.occAt s sub j = true ∧ j + sub.length ≤ n := by
  have hp := List.isPrefixOf_iff_prefix.1 h
  have hl := hp.length_le
  have h0 : 0 < sub.length := List.length_pos_iff.2 hs
  rw [List.length_drop, List.length_take] at hl
  refine ⟨List.isPrefixOf_iff_prefix.2 ?_, by omega⟩
  rw [List.drop_take] at hp
  exact hp.trans (List.take_prefix _ _)
theorem occ_room {s sub : Txt} {j : Nat} (h : Lib.occAt s sub j = true) (hs : sub ≠ []) : j + sub.length ≤ s.length := by
  have hp := List.isPrefixOf_iff_prefix.1 h
  have hl := hp.length_le
  have h0 : 0 < sub.length := List.length_pos_iff.2 hs
  rw [List.length_drop] at hl
  omega
theorem occ_index {s sub : Txt} {j : Nat} (h : Lib.occAt s sub j = true) (hs : sub ≠ []) : 0 ≤ Lib.index s sub ∧ Lib.index s sub ≤ j := by
  have := occ_room h hs
  rcases Lib.index_spec s sub with ⟨h1, h2⟩ | ⟨i, h1, h2, h3, h4⟩
  · rw [h2 j (by omega)] at h
    cases h
  · rw [h1]
    refine ⟨by omega, ?_⟩
    rcases Nat.lt_or_ge j i with e | e
    · rw [h4 j e] at h
      cases h
    · omega
theorem index_lt {s sub : Txt} (h : Lib.index s sub < 0) (hs : sub ≠ []) (j : Nat) : Lib.occAt s sub j = false := by
  cases ho : Lib.occAt s sub j with
  | false => rfl
  | true =>
    have := occ_index ho hs
    omega
theorem pre_take {s p : Txt} {n : Nat} (h : Lib.hasPrefix s p = false) : Lib.hasPrefix (s.take n) p = false := by
  cases hp : Lib.hasPrefix (s.take n) p with
  | false => rfl
  | true =>
    have h1 := List.isPrefixOf_iff_prefix.1 hp
    have : Lib.hasPrefix s p = true := List.isPrefixOf_iff_prefix.2 (h1.trans (List.take_prefix _ _))
    rw [h] at this
    cases this
theorem note_no {d : Txt} (h : (62 : UInt8) ∉ d) : NoteOK d := by
  have occ : ∀ (sub : Txt) j, (62 : UInt8) ∈ sub → Lib.occAt d sub j = false := by
    intro sub j hm
    cases ho : Lib.occAt d sub j with
    | false => rfl
    | true =>
      have hp := List.isPrefixOf_iff_prefix.1 ho
      exact absurd (List.mem_of_mem_drop (hp.subset hm)) h
  refine ⟨fun j => occ _ j (by decide), fun j => occ _ j (by decide), ?_, ?_⟩
  · exact occ [62] 0 (by decide)
  · exact occ [45, 62] 0 (by decide)
theorem cut_hit {s e : Txt} {i : Nat} (h : Lib.index s e = i) : Lib.cut s e = (s.take i, s.drop (i + e.length), true) := by
  unfold Lib.cut
  rw [if_pos (by omega), h]
  simp
theorem cut_miss {s e : Txt} (h : Lib.index s e < 0) : Lib.cut s e = (s, [], false) := by
  unfold Lib.cut
  rw [if_neg (by omega)]
theorem comment_note {s : Txt} (h1 : Lib.hasPrefix s [62] = false) (h2 : Lib.hasPrefix s [45, 62] = false) : NoteOK (untilF s (if 0 ≤ Lib.index s [45, 45, 33, 62] ∧ (Lib.index s [45, 45, 62] < 0 ∨ Lib.index s [45, 45, 33, 62] < Lib.index s [45, 45, 62]) then [45, 45, 33, 62] else [45, 45, 62])).1 := by
  have key : ∀ n, (∀ j, Lib.occAt s [45, 45, 62] j = true → n < j + 3) → (∀ j, Lib.occAt s [45, 45, 33, 62] j = true → n < j + 4) → NoteOK (s.take n) := by
    intro n k1 k2
    refine ⟨?_, ?_, pre_take h1, pre_take h2⟩
    · intro j
      cases ho : Lib.occAt (s.take n) [45, 45, 62] j with
      | false => rfl
      | true =>
        have := occ_take ho (by simp)
        have h3 := k1 j this.1
        have h4 := this.2
        simp at h4
        omega
    · intro j
      cases ho : Lib.occAt (s.take n) [45, 45, 33, 62] j with
      | false => rfl
      | true =>
        have := occ_take ho (by simp)
        have h3 := k2 j this.1
        have h4 := this.2
        simp at h4
        omega
  split
  · rename_i hc
    obtain ⟨k, hk⟩ := Int.eq_ofNat_of_zero_le hc.1
    unfold untilF
    rw [cut_hit hk]
    refine key k ?_ ?_
    · intro j hj
      have := occ_index hj (by simp)
      omega
    · intro j hj
      have := occ_index hj (by simp)
      omega
  · rename_i hc
    unfold untilF
    by_cases hi : Lib.index s [45, 45, 62] < 0
    · rw [cut_miss hi]
      have hk : Lib.index s [45, 45, 33, 62] < 0 := by
        rcases Int.lt_or_le (Lib.index s [45, 45, 33, 62]) 0 with e | e
        · exact e
        · exact absurd ⟨e, .inl hi⟩ hc
      exact ⟨index_lt hi (by simp), index_lt hk (by simp), h1, h2⟩
    · obtain ⟨i, hi2⟩ := Int.eq_ofNat_of_zero_le (Int.not_lt.1 hi)
      rw [cut_hit hi2]
      refine key i ?_ ?_
      · intro j hj
        have := occ_index hj (by simp)
        omega
      · intro j hj
        have := occ_index hj (by simp)
        rcases Int.lt_or_le (Lib.index s [45, 45, 33, 62]) (Lib.index s [45, 45, 62]) with e | e
        · exact absurd ⟨this.1, .inr e⟩ hc
        · omega
theorem until_no (s : Txt) : (62 : UInt8) ∉ (untilF s [62]).1 := by
  unfold untilF
  rw [cut_eq]
  exact cut1_not 62 s
theorem dw_head {p : UInt8 → Bool} : ∀ {l : Txt} {c : UInt8} {r : Txt}, l.dropWhile p = c :: r → p c = false
  | [], _, _, h => by simp at h
  | x :: l, c, r, h => by
    rw [List.dropWhile_cons] at h
    split at h
    · exact dw_head h
    · rename_i hx
      simp only [List.cons.injEq] at h
      rw [← h.1]
      simpa using hx
theorem dw_same {p : UInt8 → Bool} {l : Txt} (h : ∀ c r, l = c :: r → p c = false) : l.dropWhile p = l := by
  cases l with
  | nil => rfl
  | cons c r => rw [List.dropWhile_cons, h c r rfl]; simp
theorem dw_mem {p : UInt8 → Bool} {x : UInt8} : ∀ {l : Txt}, x ∈ l.dropWhile p → x ∈ l
  | [], h => by simp at h
  | c :: l, h => by
    rw [List.dropWhile_cons] at h
    split at h
    · exact List.mem_cons_of_mem _ (dw_mem h)
    · exact h
theorem trim_mem {x : UInt8} {s : Txt} (h : x ∈ trimL s) : x ∈ s := by
  unfold trimL at h
  rw [List.mem_reverse] at h
  have := dw_mem h
  rw [List.mem_reverse] at this
  exact dw_mem this
theorem dw_suffix {p : UInt8 → Bool} : ∀ l : Txt, ∃ a, l = a ++ l.dropWhile p
  | [] => ⟨[], rfl⟩
  | c :: l => by
    rw [List.dropWhile_cons]
    split
    · obtain ⟨a, ha⟩ := dw_suffix (p := p) l
      exact ⟨c :: a, by rw [List.cons_append, ← ha]⟩
    · exact ⟨[], rfl⟩
theorem trim_trim (s : Txt) : trimL (32 :: trimL s) = trimL s := by
  have e : (32 :: trimL s).dropWhile spaceB = (trimL s).dropWhile spaceB := by rw [List.dropWhile_cons, if_pos (by decide)]
  have h1 : (trimL s).dropWhile spaceB = trimL s := by
    refine dw_same ?_
    intro c r hc
    unfold trimL at hc
    obtain ⟨a, ha⟩ := dw_suffix (p := spaceB) (s.dropWhile spaceB).reverse
    have h2 := congrArg List.reverse ha
    rw [List.reverse_reverse, List.reverse_append, hc] at h2
    rw [List.cons_append] at h2
    exact dw_head h2
  have h2 : (trimL s).reverse.dropWhile spaceB = (trimL s).reverse := by
    refine dw_same ?_
    intro c r hc
    unfold trimL at hc
    rw [List.reverse_reverse] at hc
    exact dw_head hc
  show ((( 32 :: trimL s).dropWhile spaceB).reverse.dropWhile spaceB).reverse = trimL s
  rw [e, h1, h2, List.reverse_reverse]
theorem doc_ok (s : Txt) : DocOK (trimL (untilF s [62]).1) := ⟨fun h => until_no s (trim_mem h), trim_trim _⟩

theorem low_low (s : Txt) : lowL (lowL s) = lowL s := by
  have h : ∀ c : UInt8, (lowB (lowB c) == lowB c) = true := all_u8 (by decide +kernel)
  unfold lowL
  rw [List.map_map]
  refine List.map_congr_left fun c _ => ?_
  exact beq_iff_eq.1 (h c)
theorem low_letter : ∀ c : UInt8, (!letterB c || letterB (lowB c)) = true := all_u8 (by decide +kernel)
theorem low_letter2 : ∀ c : UInt8, (!letterB (lowB c) || letterB c) = true := all_u8 (by decide +kernel)
theorem low_slashed : ∀ c : UInt8, (slashedB (lowB c) == slashedB c) = true := all_u8 (by decide +kernel)
theorem low_eq61 : ∀ c : UInt8, ((lowB c == 61) == (c == 61)) = true := all_u8 (by decide +kernel)
theorem low_eq60 : ∀ c : UInt8, ((lowB c == 60) == (c == 60)) = true := all_u8 (by decide +kernel)
theorem low_gap : ∀ c : UInt8, ((spaceB (lowB c) || lowB c == 47 || lowB c == 62) == (spaceB c || c == 47 || c == 62)) = true := all_u8 (by decide +kernel)
theorem attrF_attr {c : UInt8} {s : Txt} (h1 : spaceB c = false) (h3 : c ≠ 47) (h2 : c ≠ 62) : AttrName (attrF (c :: s)).1.1 := by
  have e : attrK (c :: s) = s.findIdx (fun c => slashedB c || c == 61) + 1 := by unfold attrK; simp only [List.tail_cons]; omega
  have hne := (attrF_name (s := s) h1 h2).ne
  rw [attrF_fst, e, List.take_succ_cons] at hne ⊢
  refine ⟨hne, low_low _, ?_, ?_⟩
  · intro d r hd
    simp only [lowL, List.map_cons, List.cons.injEq] at hd
    have := low_gap c
    rw [h1, show (c == 47) = false from beq_eq_false_iff_ne.2 h3, show (c == 62) = false from beq_eq_false_iff_ne.2 h2, hd.1] at this
    simp at this
    exact ⟨this.1.1, this.1.2, this.2⟩
  · intro x hx
    simp only [lowL, List.map_cons, List.tail_cons, List.mem_map] at hx
    obtain ⟨y, hy, rfl⟩ := hx
    have h4 := tk_no hy
    simp only [Bool.or_eq_false_iff] at h4
    have h5 := low_slashed y
    have h6 := low_eq61 y
    rw [h4.1] at h5
    rw [h4.2] at h6
    simp at h5 h6
    exact ⟨h5, h6⟩
theorem attrsN_name : ∀ (n : Nat) (acc : List (Txt × Txt)) (s : Txt) r, (∀ a ∈ acc, AttrName a.1) → attrsN n acc s = some r → ∀ a ∈ r.1, AttrName a.1
  | 0, _, _, _, _, h => by simp [attrsN] at h
  | n + 1, acc, s, r, ha, h => by
    unfold attrsN at h
    cases hd : s.drop (gapF s) with
    | nil => rw [hd] at h; simp at h
    | cons c s1 =>
      rw [hd] at h
      have hg := gap_head hd
      simp only at h
      split at h
      · simp at h
        subst h
        exact ha
      · rename_i hc
        split at h
        · refine attrsN_name n _ _ r ?_ h
          intro a hm
          unfold addA at hm
          split at hm
          · exact ha a hm
          · rw [List.mem_append] at hm
            rcases hm with hm | hm
            · exact ha a hm
            · simp only [List.mem_singleton] at hm
              subst hm
              exact attrF_attr hg.1 hg.2 hc
        · simp at h
theorem opened_start {s : Txt} {r : Tok × Txt} (hl : letterL s = true) (h : openedF s = some r) : StartOK r.1.name r.1.attrs ∧ r.1.data = [] ∧ r.1.name = lowL (s.take (s.findIdx slashedB)) := by
  obtain ⟨k1, k2, k3, k4, k5⟩ := opened_ok hl h
  unfold openedF at h
  cases ha : attrsF [] (s.drop (s.findIdx slashedB)) with
  | none => rw [ha] at h; simp at h
  | some q =>
    rw [ha] at h
    simp at h
    have hq := attrsN_name _ _ _ _ (by simp) ha
    subst h
    refine ⟨⟨⟨low_low _, ?_, k3⟩, hq, k5.once⟩, rfl, rfl⟩
    cases s with
    | nil => simp [letterL] at hl
    | cons c t =>
      have hc : letterB c = true := hl
      have h1 := letter_no c
      rw [hc] at h1
      have hc2 : slashedB c = false := by simpa using h1
      have h2 := low_letter c
      rw [hc] at h2
      simp only [List.findIdx_cons, hc2, cond_false, List.take_succ_cons, lowL, List.map_cons]
      simpa [letterL] using h2
theorem closes_app {nm x y : Txt} (h : closesB nm x = true) : closesB nm (x ++ y) = true := by
  unfold closesB at h
  split at h
  · rename_i r
    simp only [Bool.and_eq_true, decide_eq_true_eq, beq_iff_eq] at h
    obtain ⟨⟨h1, h2⟩, h3⟩ := h
    have e1 : (r ++ y).take nm.length = r.take nm.length := List.take_append_of_le_length (by omega)
    have e2 : (r ++ y).drop nm.length = r.drop nm.length ++ y := List.drop_append_of_le_length (by omega)
    cases hd : r.drop nm.length with
    | nil => rw [hd] at h3; simp at h3
    | cons c t =>
      rw [hd] at h3
      simp only [List.cons_append, closesB]
      rw [e1, h2, e2, hd]
      simp [h3]
      omega
  · cases h
theorem endF_le (nm : Txt) : ∀ s : Txt, endF nm s ≤ s.length
  | [] => by simp [endF]
  | c :: t => by
    have := endF_le nm t
    rw [endF]
    split
    · omega
    · simp only [List.length_cons]; omega
theorem endF_no (nm : Txt) : ∀ (s : Txt) (j : Nat), j < endF nm s → closesB nm (s.drop j) = false
  | [], j, h => by simp [endF] at h
  | c :: t, j, h => by
    rw [endF] at h
    split at h
    · omega
    · rename_i hc
      cases j with
      | zero => simpa using hc
      | succ j =>
        rw [List.drop_succ_cons]
        exact endF_no nm t j (by omega)
theorem endF_at (nm : Txt) : ∀ (s : Txt), s.drop (endF nm s) = [] ∨ closesB nm (s.drop (endF nm s)) = true
  | [] => by simp
  | c :: t => by
    rw [endF]
    split
    · rename_i hc
      exact .inr hc
    · rw [Nat.add_comm, List.drop_succ_cons]
      exact endF_at nm t
theorem raw_ok (nm s : Txt) : RawOK nm (s.take (endF nm s)) := by
  intro j hj
  have hl := endF_le nm s
  rw [List.length_take] at hj
  cases hc : closesB nm ((s.take (endF nm s)).drop j) with
  | false => rfl
  | true =>
    have h1 := closes_app (y := s.drop (endF nm s)) hc
    rw [← List.drop_append_of_le_length (by rw [List.length_take]; omega), List.take_append_drop] at h1
    rw [endF_no nm s j (by omega)] at h1
    cases h1

theorem good_tell {t : Txt} {L : List Tok} (h : Good L) : Good (tellF t ++ L) := by
  unfold tellF
  split
  · exact h
  · rename_i hn
    exact .text (dec_ne hn) h
/-- What begins with the end tag of a name is cut to it, or to nothing. -/
theorem closed_open {nm r : Txt} (hn : TagName nm) (h : closesB nm (60 :: 47 :: r) = true) : letterL r = true ∧ lowL (r.take (r.findIdx slashedB)) = nm := by
  simp only [closesB, Bool.and_eq_true, decide_eq_true_eq, beq_iff_eq] at h
  obtain ⟨⟨h1, h2⟩, h3⟩ := h
  rw [hn.low] at h2
  cases hd : r.drop nm.length with
  | nil => rw [hd] at h3; simp at h3
  | cons c q =>
    rw [hd] at h3
    have er : r = r.take nm.length ++ c :: q := by rw [← hd, List.take_append_drop]
    have ha : ∀ x ∈ r.take nm.length, slashedB x = false := by
      intro x hx
      have hm : lowB x ∈ nm := by rw [← h2]; exact List.mem_map_of_mem hx
      have h4 := hn.all _ hm
      have h5 := low_slashed x
      rw [h4] at h5
      simpa using h5
    have hf : r.findIdx slashedB = nm.length := by
      conv => lhs; rw [er]
      rw [fi_hit h3 ha, List.length_take]
      omega
    rw [hf]
    refine ⟨?_, h2⟩
    have hl := hn.letter
    rw [← h2] at hl
    rw [er]
    cases ht : r.take nm.length with
    | nil => rw [ht] at hl; simp [lowL, letterL] at hl
    | cons x y =>
      rw [ht] at hl
      simp only [lowL, List.map_cons, letterL] at hl
      have h6 := low_letter2 x
      rw [hl] at h6
      simpa [letterL] using h6
theorem tag_end {s : Txt} (hl : letterL s = true) : tagF 2 s = ([], []) ∨ ∃ q, tagF 2 s = ([⟨2, lowL (s.take (s.findIdx slashedB)), [], [], false⟩], q) ∧ TagName (lowL (s.take (s.findIdx slashedB))) := by
  unfold tagF
  cases ho : openedF s with
  | none => exact .inl rfl
  | some r =>
    obtain ⟨h1, h2, h3⟩ := opened_start hl ho
    obtain ⟨t, q⟩ := r
    simp only at *
    refine .inr ⟨q, ?_, ?_⟩
    · rw [h3]; simp
    · rw [← h3]; exact h1.name
theorem open_slash {s : Txt} (hl : letterL s = true) : openF (47 :: s) = some (tagF 2 s) := by
  unfold openF
  rw [if_neg (by simp [letterL, letterB]), if_pos (by simp [Lib.hasPrefix, hl])]
  rfl
theorem run_open {t r : Txt} {x : List Tok × Txt} (ho : openF r = some x) : runF t (60 :: r) = tellF t ++ x.1 ++ runF [] x.2 := by
  have := run_hit (t := t) (a := []) (by simp) ho
  simpa using this
theorem run_closed {nm s : Txt} (hn : TagName nm) (h : s = [] ∨ closesB nm s = true) : Closed nm (runF [] s) := by
  rcases h with rfl | h
  · left
    rw [run_nil]
    rfl
  · have h0 := h
    unfold closesB at h0
    split at h0
    · rename_i r
      obtain ⟨h1, h2⟩ := closed_open hn h
      rw [run_open (open_slash h1)]
      rcases tag_end h1 with e | ⟨q, e, _⟩
      · rw [e]
        left
        simp [tellF, run_nil]
      · rw [e, h2]
        right
        exact ⟨runF [] q, by simp [tellF]⟩
    · cases h0
theorem insideR_le (nm s : Txt) : (insideR nm s).length ≤ s.length := by simp [insideR]

theorem run_good : ∀ (n : Nat) (t s : Txt), s.length < n → Good (runF t s)
  | 0, _, _, h => absurd h (Nat.not_lt_zero _)
  | n + 1, t, s, h => by
    rw [runF_eq]
    cases hd : s.drop (textF s) with
    | nil =>
      have := good_tell (t := t ++ s.take (textF s)) .nil
      simpa using this
    | cons c s1 =>
      have h1 : s1.length < s.length := by
        have := congrArg List.length hd
        simp at this
        omega
      simp only
      cases ho : openF s1 with
      | none => exact run_good n _ _ (by omega)
      | some x =>
        have hle := openF_le ho
        obtain ⟨ts, r⟩ := x
        simp only at hle ⊢
        rw [List.append_assoc]
        refine good_tell ?_
        have ih := run_good n [] r (by omega)
        unfold openF at ho
        split at ho
        · rename_i hl
          simp only [Option.some.injEq] at ho
          unfold tagF at ho
          cases hop : openedF s1 with
          | none =>
            rw [hop] at ho
            simp only [Prod.mk.injEq] at ho
            obtain ⟨rfl, rfl⟩ := ho
            exact ih
          | some y =>
            rw [hop] at ho
            have hyl := openedF_le hop
            obtain ⟨k1, k2, k3⟩ := opened_start hl hop
            obtain ⟨y, q⟩ := y
            simp only at k1 k2 k3 ho hyl
            rw [if_neg (by decide)] at ho
            split at ho
            · rename_i hrs
              simp only [Prod.mk.injEq] at ho
              obtain ⟨rfl, rfl⟩ := ho
              rw [k2]
              have hcl : Closed y.name (runF [] (insideR y.name q)) := run_closed k1.name (endF_at y.name q)
              unfold insideT
              split
              · exact .shut k1 hrs hcl ih
              · rename_i hne
                refine .full k1 hrs ?_ ?_ hcl ih
                · split
                  · exact dec_ne hne
                  · exact hne
                · intro hr
                  have hs : softB y.name = false := by
                    unfold rawB inB at hr
                    rw [List.contains_iff_mem] at hr
                    simp only [rawsL, List.mem_cons, List.not_mem_nil, or_false] at hr
                    rcases hr with e | e | e | e | e | e <;> (rw [e]; decide)
                  rw [hs]
                  exact raw_ok y.name q
            · rename_i hrs
              simp only [Prod.mk.injEq] at ho
              obtain ⟨rfl, rfl⟩ := ho
              rw [k2]
              exact .start k1 (by simpa using hrs) ih
        · split at ho
          · rename_i hl
            rw [Bool.and_eq_true] at hl
            simp only [Option.some.injEq] at ho
            rcases tag_end hl.2 with e | ⟨q, e, hn⟩
            · rw [e] at ho
              simp only [Prod.mk.injEq] at ho
              obtain ⟨rfl, rfl⟩ := ho
              exact ih
            · rw [e] at ho
              simp only [Prod.mk.injEq] at ho
              obtain ⟨rfl, rfl⟩ := ho
              exact .shuts hn ih
          · have note : ∀ u, noteF 3 u [62] = (ts, r) → Good (ts ++ runF [] r) := by
              intro u e
              unfold noteF at e
              simp only [Prod.mk.injEq] at e
              rw [← e.1]
              exact .note (by rw [if_neg (by decide)]; exact note_no (until_no u)) ih
            split at ho
            · simp only [Option.some.injEq, Prod.mk.injEq] at ho
              obtain ⟨rfl, rfl⟩ := ho
              exact ih
            · split at ho
              · simp only [Option.some.injEq] at ho
                have n0 : NoteOK [] := note_no (by simp)
                unfold commentF at ho
                split at ho
                · simp only [Prod.mk.injEq] at ho
                  rw [← ho.1]
                  exact .note n0 ih
                · rename_i p1
                  split at ho
                  · simp only [Prod.mk.injEq] at ho
                    rw [← ho.1]
                    exact .note n0 ih
                  · rename_i p2
                    unfold noteF at ho
                    simp only [Prod.mk.injEq] at ho
                    rw [← ho.1]
                    exact .note (by rw [if_neg (by decide)]; exact comment_note (by simpa using p1) (by simpa using p2)) ih
              · split at ho
                · simp only [Option.some.injEq] at ho
                  unfold noteF at ho
                  simp only [Prod.mk.injEq] at ho
                  rw [← ho.1]
                  exact .doct (by simp only [if_true]; exact doc_ok _) ih
                · split at ho
                  · simp only [Option.some.injEq] at ho
                    exact note _ ho
                  · split at ho
                    · simp only [Option.some.injEq] at ho
                      exact note _ ho
                    · split at ho
                      · simp only [Option.some.injEq] at ho
                        exact note _ ho
                      · simp at ho
theorem cut_good (s : Txt) : Good (cutL s) := run_good (s.length + 1) [] s (Nat.lt_succ_self _)
end Go.Proofs.YtcipgppjhhokbaaDoor
