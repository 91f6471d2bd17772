/- Lemmas and walks, part 7: TokR, HasP, BackP, MoreP, TokW, TokT, TokS, TokG. -/
import Derived.Test.YtdnbaliibiginaaGreatDoorTIM3
import Derived.Test.YtdnbaliibiginaaGreatDoorTIM1
set_option linter.unusedVariables false
set_option linter.unusedSimpArgs false

/- Plain: TokenEnds, TokenRaw, TokenComments: what the cut makes of texts of these shapes. No program in sight. -/
namespace Go.Proofs.YtdnbaliibiginaaGreatDoor
open Go.Proofs

theorem fi_hit {p : UInt8 → Bool} {c : UInt8} {r : Txt} (h : p c = true) : ∀ {a : Txt}, (∀ x ∈ a, p x = false) → (a ++ c :: r).findIdx p = a.length
  | [], _ => by simp [List.findIdx_cons, h]
  | x :: a, ha => by
    rw [List.cons_append, List.findIdx_cons, ha x (by simp), fi_hit h (fun y hy => ha y (by simp [hy]))]
    simp
theorem fi_none {p : UInt8 → Bool} : ∀ {a : Txt}, (∀ x ∈ a, p x = false) → a.findIdx p = a.length
  | [], _ => rfl
  | x :: a, ha => by
    rw [List.findIdx_cons, ha x (by simp), fi_none (fun y hy => ha y (by simp [hy]))]
    simp

theorem run_hit {t a r q : Txt} {ts : List Tok} (ha : (60 : UInt8) ∉ a) (ho : openF r = some (ts, q)) : runF t (a ++ 60 :: r) = tellF (t ++ a) ++ ts ++ runF [] q := by
  have hf : textF (a ++ 60 :: r) = a.length := fi_hit (by decide) (fun x hx => beq_eq_false_iff_ne.2 (fun e => ha (by rw [← e]; exact hx)))
  rw [runF_eq, hf]
  simp [ho]
theorem run_none {t a : Txt} (ha : (60 : UInt8) ∉ a) : runF t a = tellF (t ++ a) := by
  have hf : textF a = a.length := fi_none (fun x hx => beq_eq_false_iff_ne.2 (fun e => ha (by rw [← e]; exact hx)))
  rw [runF_eq, hf]
  simp
theorem run_nil (t : Txt) : runF t [] = tellF t := by simpa using run_none (t := t) (a := []) (by simp)
theorem opened_name {nm r : Txt} {c : UInt8} (hn : ∀ x ∈ nm, slashedB x = false) (hc : slashedB c = true) : openedF (nm ++ c :: r) = (attrsF [] (c :: r)).map fun q => (⟨0, lowL nm, q.1, [], q.2.1⟩, q.2.2) := by
  unfold openedF
  rw [fi_hit hc hn]
  simp
theorem attrs_gt (acc : List (Txt × Txt)) (r : Txt) : attrsF acc (62 :: r) = some (acc, false, r) := by
  have hg : gapF (62 :: r) = 0 := by simp [gapF, List.findIdx_cons, spaceB]
  rw [attrsF_eq, slashF, hg]
  simp

theorem cut1_mem {c x : UInt8} {l : Txt} (h : x ∈ (cut1 c l).2.1) : x ∈ l := by
  cases hf : (cut1 c l).2.2 with
  | true => rw [cut1_yes hf]; simp [h]
  | false =>
    have h1 := cut1_len c l
    rw [(cut1_no hf).1] at h1
    have : (cut1 c l).2.1 = [] := List.eq_nil_of_length_eq_zero (by omega)
    rw [this] at h
    simp at h
theorem skipS_mem {x : UInt8} {s : Txt} (h : x ∈ skipS s) : x ∈ s := List.mem_of_mem_drop h
theorem valF_mem {x : UInt8} {nm s : Txt} (h : x ∈ (valF nm s).2.1) : x ∈ s := by
  unfold valF at h
  split at h
  · simp at h
  · split at h
    · exact List.mem_cons_of_mem _ (cut1_mem h)
    · exact List.mem_of_mem_drop h
theorem attrR_mem {x : UInt8} {nm s : Txt} (h : x ∈ (attrR nm s).2.1) : x ∈ s := by
  unfold attrR at h
  split at h
  · simp at h
  · rename_i c t e
    split at h
    · exact skipS_mem (by rw [e]; exact List.mem_cons_of_mem _ (skipS_mem (valF_mem h)))
    · exact h
theorem attrF_mem {x : UInt8} {s : Txt} (h : x ∈ (attrF s).2.1) : x ∈ s := List.mem_of_mem_drop (attrR_mem h)
theorem attrs_none : ∀ (n : Nat) (acc : List (Txt × Txt)) (s : Txt), (62 : UInt8) ∉ s → attrsN n acc s = none
  | 0, _, _, _ => rfl
  | n + 1, acc, s, h => by
    unfold attrsN
    cases hd : s.drop (gapF s) with
    | nil => rfl
    | cons c s1 =>
      have hm : (62 : UInt8) ∉ c :: s1 := fun hx => h (List.mem_of_mem_drop (i := gapF s) (by rw [hd]; exact hx))
      have hc : c ≠ 62 := fun e => hm (by simp [e])
      simp only
      rw [if_neg hc]
      split
      · exact attrs_none n _ _ fun hx => hm (attrF_mem hx)
      · rfl
theorem ends_start {s o : Txt} (h1 : (60 : UInt8) ∉ s) (h2 : (62 : UInt8) ∉ o) : cutL (s ++ (60 :: 97 :: 32 :: o)) = cutL s := by
  have ha : openedF (97 :: 32 :: o) = none := by
    have := opened_name (nm := [97]) (r := o) (c := 32) (by decide) (by decide)
    rw [List.singleton_append] at this
    rw [this, attrsF, attrs_none _ _ _ (by simp [h2])]
    rfl
  have ho : openF (97 :: 32 :: o) = some ([], []) := by
    unfold openF
    rw [if_pos (by rfl), tagF, ha]
  unfold cutL
  rw [run_hit h1 ho, run_none h1, run_nil]
  simp [tellF]
theorem ends_end {s o : Txt} (h1 : (60 : UInt8) ∉ s) (h2 : (62 : UInt8) ∉ o) : cutL (s ++ (60 :: 47 :: 97 :: 32 :: o)) = cutL s := by
  have ha : openedF (97 :: 32 :: o) = none := by
    have := opened_name (nm := [97]) (r := o) (c := 32) (by decide) (by decide)
    rw [List.singleton_append] at this
    rw [this, attrsF, attrs_none _ _ _ (by simp [h2])]
    rfl
  have ho : openF (47 :: 97 :: 32 :: o) = some ([], []) := by
    unfold openF
    rw [if_neg (by simp [letterL, letterB]), if_pos (by rfl)]
    simp [tagF, ha]
  unfold cutL
  rw [run_hit h1 ho, run_none h1, run_nil]
  simp [tellF]

/-- No end tag begins in a text, whatever stands behind it. -/
def quietB : Txt → Bool
  | [] => true
  | [c] => c != 60
  | c :: d :: r => !(c == 60 && d == 47) && quietB (d :: r)
theorem closes_no {name r : Txt} {c d : UInt8} (h : (c == 60 && d == 47) = false) : closesB name (c :: d :: r) = false := by
  unfold closesB
  split
  · simp_all
  · rfl
theorem endF_quiet (name X : Txt) : ∀ s, quietB s = true → endF name (s ++ X) = s.length + endF name X
  | [], _ => by simp
  | [c], h => by
    have hc : (c == 60) = false := by simpa [quietB] using h
    rw [List.singleton_append, endF]
    have : closesB name (c :: X) = false := by
      cases X with
      | nil => unfold closesB; split <;> simp_all
      | cons d r => exact closes_no (by rw [hc]; rfl)
    rw [this]
    simp
  | c :: d :: r, h => by
    simp only [quietB, Bool.and_eq_true, Bool.not_eq_true'] at h
    have ih := endF_quiet name X (d :: r) h.2
    rw [List.cons_append, endF, List.cons_append, closes_no h.1, if_neg (by simp), ← List.cons_append, ih]
    simp
    omega
theorem closes_yes {name r : Txt} {c : UInt8} (hc : slashedB c = true) : closesB name (60 :: 47 :: (name ++ c :: r)) = true := by
  simp [closesB, hc]
theorem raw_law {s rest : Txt} (h0 : s ≠ []) (hq : quietB s = true) : cutL ([60, 115, 116, 121, 108, 101, 62] ++ s ++ [60, 47, 115, 116, 121, 108, 101, 62] ++ rest) = [⟨1, [115, 116, 121, 108, 101], [], [], false⟩, ⟨0, [], [], s, false⟩, ⟨2, [115, 116, 121, 108, 101], [], [], false⟩] ++ cutL rest := by
  have e0 : [60, 115, 116, 121, 108, 101, 62] ++ s ++ [60, 47, 115, 116, 121, 108, 101, 62] ++ rest = [] ++ 60 :: ([115, 116, 121, 108, 101] ++ 62 :: (s ++ (60 :: 47 :: ([115, 116, 121, 108, 101] ++ 62 :: rest)))) := by simp
  have ho1 : ∀ r, openedF ([115, 116, 121, 108, 101] ++ 62 :: r) = some (⟨0, [115, 116, 121, 108, 101], [], [], false⟩, r) := by
    intro r
    rw [opened_name (by decide) (by decide), attrs_gt]
    rfl
  have he : endF [115, 116, 121, 108, 101] (s ++ (60 :: 47 :: ([115, 116, 121, 108, 101] ++ 62 :: rest))) = s.length := by
    rw [endF_quiet _ _ _ hq, endF, closes_yes (by decide)]
    simp
  have ht : tagF 1 ([115, 116, 121, 108, 101] ++ 62 :: (s ++ (60 :: 47 :: ([115, 116, 121, 108, 101] ++ 62 :: rest)))) = ([⟨1, [115, 116, 121, 108, 101], [], [], false⟩, ⟨0, [], [], s, false⟩], 60 :: 47 :: ([115, 116, 121, 108, 101] ++ 62 :: rest)) := by
    unfold tagF
    rw [ho1]
    simp only
    rw [if_neg (by decide), if_pos (by decide)]
    unfold insideT insideR
    rw [he]
    simp [h0, show softB [115, 116, 121, 108, 101] = false from by decide]
  have hop : openF ([115, 116, 121, 108, 101] ++ 62 :: (s ++ (60 :: 47 :: ([115, 116, 121, 108, 101] ++ 62 :: rest)))) = some (tagF 1 ([115, 116, 121, 108, 101] ++ 62 :: (s ++ (60 :: 47 :: ([115, 116, 121, 108, 101] ++ 62 :: rest))))) := by
    unfold openF
    rw [if_pos (by rfl)]
  have hop2 : openF (47 :: ([115, 116, 121, 108, 101] ++ 62 :: rest)) = some ([⟨2, [115, 116, 121, 108, 101], [], [], false⟩], rest) := by
    unfold openF
    rw [if_neg (by simp [letterL, letterB]), if_pos (by rfl), List.tail_cons]
    unfold tagF
    rw [ho1]
    simp
  unfold cutL
  rw [e0, run_hit (by simp) (hop.trans (congrArg some ht)), ← List.nil_append (60 :: 47 :: ([115, 116, 121, 108, 101] ++ 62 :: rest)), run_hit (by simp) hop2]
  simp [tellF]
end Go.Proofs.YtdnbaliibiginaaGreatDoor

/- Plain: whether a byte stands in a text. No program in sight. -/
namespace Go.Proofs.YtdnbaliibiginaaGreatDoor
open Go.Proofs

def hasL (l : List UInt8) (c : Nat) : Bool := l.any fun x => x.toNat == c

theorem has_yes {l : List UInt8} {c k : Nat} (hk : k < l.length) (h : l[k].toNat = c) : hasL l c = true := by
  unfold hasL
  rw [List.any_eq_true]
  exact ⟨l[k], List.getElem_mem hk, by simp [h]⟩
theorem has_no {l : List UInt8} {c : Nat} (h : ∀ j (hj : j < l.length), l[j].toNat ≠ c) : hasL l c = false := by
  unfold hasL
  rw [List.any_eq_false]
  intro x hx
  obtain ⟨j, hj, rfl⟩ := List.getElem_of_mem hx
  simpa using h j hj
end Go.Proofs.YtdnbaliibiginaaGreatDoor

/- Plain laws of what is written out: it is decoded to the text that was; nothing of it opens or closes a tag, or a value. No program in sight. -/
namespace Go.Proofs.YtdnbaliibiginaaGreatDoor
open Go.RowKit Go.Proofs

theorem cut1_at {c : UInt8} {a r : List UInt8} (h : c ∉ a) : cut1 c (a ++ c :: r) = (a, r, true) := by
  induction a with
  | nil => simp [cut1]
  | cons x a ih =>
    have hx : x ≠ c := fun e => h (by simp [e])
    rw [List.cons_append, cut1, if_neg hx, ih (fun e => h (by simp [e]))]
theorem decL_name {name t r : List UInt8} (h : (59 : UInt8) ∉ name) (hm : meantL name = (t, true)) : decL (38 :: (name ++ 59 :: r)) = t ++ decL r := by
  have e := cut1_at (r := r) h
  rw [decL_ref (by rw [e]) (by rw [e, hm]), e, hm]
theorem m_amp : meantL [97, 109, 112] = ([38], true) := by decide +kernel
theorem m_lt : meantL [108, 116] = ([60], true) := by decide +kernel
theorem m_gt : meantL [103, 116] = ([62], true) := by decide +kernel
theorem m_quot : meantL [113, 117, 111, 116] = ([34], true) := by decide +kernel
theorem m_nbsp : meantL [110, 98, 115, 112] = ([194, 160], true) := by decide +kernel
theorem dec_amp (r : List UInt8) : decL ([38, 97, 109, 112, 59] ++ r) = 38 :: decL r := decL_name (by decide) m_amp
theorem dec_lt (r : List UInt8) : decL ([38, 108, 116, 59] ++ r) = 60 :: decL r := decL_name (by decide) m_lt
theorem dec_gt (r : List UInt8) : decL ([38, 103, 116, 59] ++ r) = 62 :: decL r := decL_name (by decide) m_gt
theorem dec_quot (r : List UInt8) : decL ([38, 113, 117, 111, 116, 59] ++ r) = 34 :: decL r := decL_name (by decide) m_quot
theorem dec_nbsp (r : List UInt8) : decL ([38, 110, 98, 115, 112, 59] ++ r) = 194 :: 160 :: decL r := decL_name (by decide) m_nbsp
theorem dec_esc (q : Bool) (c : UInt8) (r : List UInt8) : decL (escL q c ++ r) = c :: decL r := by
  unfold escL
  split
  · rename_i h; rw [h, dec_amp]
  split
  · rename_i h; rw [h, dec_lt]
  split
  · rename_i h; rw [h, dec_gt]
  split
  · rename_i h; rw [h.1, dec_quot]
  · rename_i h _ _ _
    rw [List.singleton_append, decL_cons, if_neg h]
theorem dec_wr (q : Bool) : ∀ l, decL (wrL q l) = l
  | [] => by simp [wrL, decL_nil]
  | [c] => by
    rw [wrL]
    have := dec_esc q c []
    rwa [List.append_nil, decL_nil] at this
  | c :: d :: l => by
    rw [wrL]
    split
    · rename_i h
      rw [dec_nbsp, dec_wr q l, h.1, h.2]
    · rw [dec_esc, dec_wr q (d :: l)]

theorem hasL_append (a b : List UInt8) (c : Nat) : hasL (a ++ b) c = (hasL a c || hasL b c) := by simp [hasL]
theorem esc_no (q : Bool) (c : UInt8) (n : Nat) (hn : n = 60 ∨ n = 62 ∨ (n = 34 ∧ q = true)) : hasL (escL q c) n = false := by
  unfold escL
  split
  · rcases hn with rfl | rfl | ⟨rfl, _⟩ <;> decide
  split
  · rcases hn with rfl | rfl | ⟨rfl, _⟩ <;> decide
  split
  · rcases hn with rfl | rfl | ⟨rfl, _⟩ <;> decide
  split
  · rcases hn with rfl | rfl | ⟨rfl, _⟩ <;> decide
  · rename_i h1 h2 h3 h4
    simp only [hasL, List.any_cons, List.any_nil, Bool.or_false, beq_eq_false_iff_ne, ne_eq]
    intro e
    rcases hn with rfl | rfl | ⟨rfl, hq⟩
    · exact h2 (u8_eq (n := 60) e (by decide))
    · exact h3 (u8_eq (n := 62) e (by decide))
    · exact h4 ⟨u8_eq (n := 34) e (by decide), hq⟩
theorem wr_no (q : Bool) (n : Nat) (hn : n = 60 ∨ n = 62 ∨ (n = 34 ∧ q = true)) : ∀ l, hasL (wrL q l) n = false
  | [] => rfl
  | [c] => by rw [wrL]; exact esc_no q c n hn
  | c :: d :: l => by
    rw [wrL]
    split
    · rw [hasL_append, wr_no q n hn l]
      rcases hn with rfl | rfl | ⟨rfl, _⟩ <;> decide
    · rw [hasL_append, esc_no q c n hn, wr_no q n hn (d :: l)]
      rfl
theorem esc_len (q : Bool) (c : UInt8) : (escL q c).length ≤ 6 := by
  unfold escL
  repeat' split
  all_goals simp
theorem wr_len (q : Bool) : ∀ l, (wrL q l).length ≤ 6 * l.length
  | [] => by simp [wrL]
  | [c] => by rw [wrL]; have := esc_len q c; simp; omega
  | c :: d :: l => by
    rw [wrL]
    split
    · have := wr_len q l
      simp; omega
    · have := wr_len q (d :: l)
      have := esc_len q c
      simp at *; omega
end Go.Proofs.YtdnbaliibiginaaGreatDoor

/- Plain laws of decoding and writing out: lengths; a text without & or without ; is decoded as it stands; what is written out twice; a text behind another one. No program in sight. -/
namespace Go.Proofs.YtdnbaliibiginaaGreatDoor
open Go.RowKit Go.Proofs

theorem numberL_short {l : List UInt8} (h : l.length < 2) : numberL l = 0 := by
  unfold numberL
  repeat rw [if_neg (fun e => by rw [e] at h; simp at h)]
theorem numberL_len {l : List UInt8} (h : numberL l ≠ 0) : 2 ≤ l.length := by
  rcases Nat.lt_or_ge l.length 2 with e | e
  · exact absurd (numberL_short e) h
  · exact e
theorem digitsL_ne {b : Nat} {l : List UInt8} (h : digitsL b l = true) : 1 ≤ l.length := by
  unfold digitsL at h
  rw [Bool.and_eq_true] at h
  cases l with
  | nil => simp at h
  | cons c l => simp
theorem meantL_two {l : List UInt8} (h : (meantL l).2 = true) : 2 ≤ l.length := by
  unfold meantL at h
  split at h
  · unfold codedL at h
    split at h
    · rename_i hd
      have := digitsL_ne hd
      simp at this
      omega
    · cases h
  · split at h
    · unfold codedL at h
      split at h
      · rename_i hd
        have := digitsL_ne hd
        have := List.length_tail (l := l)
        omega
      · cases h
    · unfold namedL at h
      split at h
      · cases h
      · rename_i hn
        exact numberL_len hn
theorem decL_len : ∀ (n : Nat) (l : List UInt8), l.length ≤ n → (decL l).length ≤ l.length
  | 0, l, h => by
    have : l = [] := List.eq_nil_of_length_eq_zero (by omega)
    rw [this, decL_nil]
    exact Nat.le_refl _
  | n + 1, [], h => by rw [decL_nil]; exact Nat.le_refl _
  | n + 1, c :: l, h => by
    simp only [List.length_cons] at h
    rw [decL_cons]
    split
    · split
      · rename_i hm
        rw [Bool.and_eq_true] at hm
        have h1 := cut1_len 59 l
        rw [if_pos hm.1] at h1
        have h2 := meantL_two hm.2
        have h3 := meantL_len (cut1 59 l).1
        have h4 := decL_len n (cut1 59 l).2.1 (by omega)
        simp only [List.length_append, List.length_cons]
        omega
      · have := decL_len n l (by omega)
        simp only [List.length_cons]
        omega
    · have := decL_len n l (by omega)
      simp only [List.length_cons]
      omega
theorem hasL_mem {l : List UInt8} {c : UInt8} (h : hasL l c.toNat = false) : c ∉ l := by
  intro hm
  unfold hasL at h
  rw [List.any_eq_false] at h
  exact h c hm (by simp)
theorem decL_amp0 {l : List UInt8} (h : hasL l 38 = false) : decL l = l := decL_none (hasL_mem (c := 38) h)
theorem decL_semi0 : ∀ (l : List UInt8), (59 : UInt8) ∉ l → decL l = l
  | [], _ => decL_nil
  | c :: l, h => by
    have hl : (59 : UInt8) ∉ l := fun e => h (by simp [e])
    rw [decL_cons, decL_semi0 l hl]
    split
    · rename_i e
      have hf : (cut1 59 l).2.2 = false := by
        cases hx : (cut1 59 l).2.2 with
        | false => rfl
        | true => exact absurd (by rw [cut1_yes hx]; simp) hl
      rw [hf, e]
      rfl
    · rfl
theorem decL_semi {l : List UInt8} (h : hasL l 59 = false) : decL l = l := decL_semi0 l (hasL_mem (c := 59) h)

theorem wr_inj {q : Bool} {a b : List UInt8} (h : wrL q a = wrL q b) : a = b := by
  rw [← dec_wr q a, h, dec_wr]
theorem wr_twice (l : List UInt8) : (wrL false (wrL false l) = wrL false l) ↔ wrL false l = l := ⟨fun h => wr_inj h, fun h => by rw [h]; exact h⟩
theorem esc_len1 (q : Bool) (c : UInt8) : 1 ≤ (escL q c).length := by
  unfold escL
  repeat' split
  all_goals simp
theorem esc_len2 (c : UInt8) : (escL false c).length ≤ (escL true c).length := by
  by_cases h : c = 34
  · rw [h]; decide
  · unfold escL
    simp [h]
theorem wr_ge (q : Bool) : ∀ l, l.length ≤ (wrL q l).length
  | [] => by simp
  | [c] => by rw [wrL]; exact esc_len1 q c
  | c :: d :: l => by
    rw [wrL]
    split
    · have := wr_ge q l
      simp; omega
    · have := wr_ge q (d :: l)
      have := esc_len1 q c
      simp at *; omega
theorem wr_ge2 : ∀ l, (wrL false l).length ≤ (wrL true l).length
  | [] => by simp [wrL]
  | [c] => by rw [wrL, wrL]; exact esc_len2 c
  | c :: d :: l => by
    rw [wrL, wrL]
    split
    · have := wr_ge2 l
      simp; omega
    · have := wr_ge2 (d :: l)
      have := esc_len2 c
      simp only [List.length_append]; omega
theorem wr_quote : ∀ l, (34 : UInt8) ∉ l → wrL false l = wrL true l
  | [], _ => by simp [wrL]
  | [c], h => by
    have : c ≠ 34 := fun e => h (by simp [e])
    rw [wrL, wrL]; simp [escL, this]
  | c :: d :: l, h => by
    have hc : c ≠ 34 := fun e => h (by simp [e])
    have e1 := wr_quote l (fun e => h (by simp [e]))
    have e2 := wr_quote (d :: l) (fun e => h (by simp at e ⊢; rcases e with e | e <;> simp [e]))
    rw [wrL, wrL, e1, e2]
    simp [escL, hc]
theorem wr_app (q : Bool) (b : List UInt8) : ∀ a, (194 : UInt8) ∉ a → wrL q (a ++ b) = wrL q a ++ wrL q b
  | [], _ => by simp [wrL]
  | [c], h => by
    have hc : c ≠ 194 := fun e => h (by simp [e])
    cases b with
    | nil => simp [wrL]
    | cons d b =>
      simp [wrL, hc]
  | c :: d :: l, h => by
    have hc : c ≠ 194 := fun e => h (by simp [e])
    have e2 := wr_app q b (d :: l) (fun e => h (by simp at e ⊢; rcases e with e | e <;> simp [e]))
    rw [List.cons_append, List.cons_append, wrL, if_neg (fun e => hc e.1), wrL, if_neg (fun e => hc e.1)]
    rw [List.cons_append] at e2
    rw [e2, List.append_assoc]
end Go.Proofs.YtdnbaliibiginaaGreatDoor

/- Plain: tokens, written; TokenBack: a start tag whose names may be, written, is cut as it was. No program in sight. -/
namespace Go.Proofs.YtdnbaliibiginaaGreatDoor
open Go.Proofs

/-- Attributes, written. -/
def attrsW (l : List (Txt × Txt)) : Txt := l.flatMap fun a => 32 :: (a.1 ++ 61 :: 34 :: (wrL true a.2 ++ [34]))
def selfW (b : Bool) : Txt := if b then [32, 47] else []
def taggedW (o : Txt) (t : Tok) : Txt := o ++ t.name ++ attrsW t.attrs ++ selfW t.self ++ [62]
/-- A token, written; raw: it stands behind the start of an element with text as it stands. -/
def tokW (raw : Bool) (t : Tok) : Txt :=
  if t.kind = 0 then (if raw then t.data else wrL false t.data)
  else if t.kind = 1 then taggedW [60] t
  else if t.kind = 2 then taggedW [60, 47] ⟨0, t.name, [], [], false⟩
  else if t.kind = 3 then [60, 33, 45, 45] ++ t.data ++ [45, 45, 62]
  else if t.kind = 4 then [60, 33, 100, 111, 99, 116, 121, 112, 101, 32] ++ t.data ++ [62]
  else []
def rawT (t : Tok) : Bool := t.kind == 1 && rawB t.name
def writeN (raw : Bool) : List Tok → Txt
  | [] => []
  | t :: r => tokW raw t ++ writeN (rawT t) r
def writeL (l : List Tok) : Txt := writeN false l

/-- A name that may be an attribute's: no byte of it ends it. -/
structure AttrName (s : Txt) : Prop where
  ne : s ≠ []
  low : lowL s = s
  first : ∀ c r, s = c :: r → spaceB c = false ∧ c ≠ 47 ∧ c ≠ 62
  rest : ∀ x ∈ s.tail, slashedB x = false ∧ x ≠ 61
structure TagName (s : Txt) : Prop where
  low : lowL s = s
  letter : letterL s = true
  all : ∀ x ∈ s, slashedB x = false

theorem fi_zero {p : UInt8 → Bool} {c : UInt8} {r : Txt} (h : p c = true) : (c :: r).findIdx p = 0 := by simp [List.findIdx_cons, h]
theorem skip_no {c : UInt8} {r : Txt} (h : spaceB c = false) : skipS (c :: r) = c :: r := by
  unfold skipS
  rw [fi_zero (by simp [h])]
  rfl
theorem hasL_not {l : Txt} {n : Nat} {c : UInt8} (e : c.toNat = n) (h : hasL l n = false) : c ∉ l := by
  subst e
  exact hasL_mem h
/-- An attribute, written, is cut as it was. -/
theorem attr_back {nm v r : Txt} (hn : AttrName nm) : attrF (nm ++ 61 :: 34 :: (wrL true v ++ 34 :: r)) = ((nm, v), r, true) := by
  obtain ⟨c, t, rfl⟩ := List.exists_cons_of_ne_nil hn.ne
  have hk : attrK (c :: t ++ 61 :: 34 :: (wrL true v ++ 34 :: r)) = (c :: t).length := by
    unfold attrK
    rw [List.cons_append, List.tail_cons, fi_hit (by decide) (fun x hx => by
      have := hn.rest x hx
      simp [this.1, this.2])]
    simp
    omega
  have e1 : (c :: t ++ 61 :: 34 :: (wrL true v ++ 34 :: r)).take (c :: t).length = c :: t := List.take_left
  have e2 : (c :: t ++ 61 :: 34 :: (wrL true v ++ 34 :: r)).drop (c :: t).length = 61 :: 34 :: (wrL true v ++ 34 :: r) := List.drop_left
  have e3 : cut1 34 (wrL true v ++ 34 :: r) = (wrL true v, r, true) := cut1_at (hasL_not (by decide) (wr_no true 34 (by simp) v))
  unfold attrF
  rw [hk, e1, e2, hn.low]
  unfold attrR
  rw [skip_no (by decide)]
  simp only [if_true]
  rw [skip_no (by decide)]
  simp [valF, e3, dec_wr]
theorem attrs_self (acc : List (Txt × Txt)) (b : Bool) (r : Txt) : attrsF acc (selfW b ++ 62 :: r) = some (acc, b, r) := by
  cases b with
  | false => exact attrs_gt acc r
  | true =>
    have hg : gapF (32 :: 47 :: 62 :: r) = 2 := by simp [gapF, List.findIdx_cons, spaceB]
    show attrsF acc (32 :: 47 :: 62 :: r) = _
    rw [attrsF_eq, slashF, hg]
    simp
theorem addA_new {acc : List (Txt × Txt)} {a : Txt × Txt} (h : ∀ b ∈ acc, b.1 ≠ a.1) : addA acc a = acc ++ [a] := by
  unfold addA
  rw [if_neg]
  rw [List.any_eq_true]
  rintro ⟨b, hb, e⟩
  exact h b hb (by simpa using e)
theorem attrs_back (b : Bool) (r : Txt) : ∀ (l acc : List (Txt × Txt)), (∀ a ∈ l, AttrName a.1) → ((acc ++ l).map Prod.fst).Nodup → attrsF acc (attrsW l ++ (selfW b ++ 62 :: r)) = some (acc ++ l, b, r)
  | [], acc, _, _ => by simpa [attrsW] using attrs_self acc b r
  | a :: l, acc, h1, h2 => by
    have ha := h1 a (by simp)
    obtain ⟨nm, v⟩ := a
    simp only at ha
    have e0 : attrsW ((nm, v) :: l) ++ (selfW b ++ 62 :: r) = 32 :: (nm ++ 61 :: 34 :: (wrL true v ++ 34 :: (attrsW l ++ (selfW b ++ 62 :: r)))) := by simp [attrsW]
    have hb := attr_back (v := v) (r := attrsW l ++ (selfW b ++ 62 :: r)) ha
    obtain ⟨c, t, rfl⟩ := List.exists_cons_of_ne_nil ha.ne
    obtain ⟨f1, f2, f3⟩ := ha.first c t rfl
    have hg : gapF (32 :: (c :: t ++ 61 :: 34 :: (wrL true v ++ 34 :: (attrsW l ++ (selfW b ++ 62 :: r))))) = 1 := by
      unfold gapF
      rw [List.findIdx_cons, show (!spaceB 32 && (32 : UInt8) != 47) = false from by decide, List.cons_append, fi_zero (by simp [f1, f2])]
      simp
    have hne : ∀ b ∈ acc, b.1 ≠ (c :: t) := by
      intro x hx e
      rw [List.map_append, List.nodup_append] at h2
      exact h2.2.2 x.1 (List.mem_map_of_mem hx) (c :: t) (by simp) e
    rw [e0, attrsF_eq, hg]
    rw [List.cons_append] at hb ⊢
    simp only [List.drop_succ_cons, List.drop_zero]
    rw [if_neg f3, hb]
    simp only [if_true]
    rw [addA_new hne, attrs_back b r l _ (fun a ha => h1 a (by simp [ha])) (by simpa using h2)]
    simp
theorem attrsW_first (l : List (Txt × Txt)) (b : Bool) (r : Txt) : ∃ c q, attrsW l ++ (selfW b ++ 62 :: r) = c :: q ∧ slashedB c = true := by
  cases l with
  | nil =>
    cases b with
    | false => exact ⟨62, r, rfl, by decide⟩
    | true => exact ⟨32, 47 :: 62 :: r, rfl, by decide⟩
  | cons a l => exact ⟨32, _, rfl, by decide⟩
/-- A start tag, written, is opened as it was. -/
theorem opened_back {nm r : Txt} {l : List (Txt × Txt)} {b : Bool} (hn : TagName nm) (h1 : ∀ a ∈ l, AttrName a.1) (h2 : (l.map Prod.fst).Nodup) :
    openedF (nm ++ (attrsW l ++ (selfW b ++ 62 :: r))) = some (⟨0, nm, l, [], b⟩, r) := by
  obtain ⟨c, q, e, hc⟩ := attrsW_first l b r
  have h3 := attrs_back b r l [] h1 (by simpa using h2)
  rw [e] at h3 ⊢
  rw [opened_name hn.all hc, h3, hn.low]
  rfl
theorem letter_app {s r : Txt} (h : letterL s = true) : letterL (s ++ r) = true := by
  cases s with
  | nil => simp [letterL] at h
  | cons c t => exact h
theorem open_start {nm r : Txt} {l : List (Txt × Txt)} {b : Bool} (hn : TagName nm) (h1 : ∀ a ∈ l, AttrName a.1) (h2 : (l.map Prod.fst).Nodup) :
    openF (nm ++ (attrsW l ++ (selfW b ++ 62 :: r))) = some (if rawB nm || softB nm then (⟨1, nm, l, [], b⟩ :: insideT nm r, insideR nm r) else ([⟨1, nm, l, [], b⟩], r)) := by
  unfold openF
  rw [if_pos (letter_app hn.letter), tagF, opened_back hn h1 h2]
  simp
theorem open_end {nm r : Txt} (hn : TagName nm) : openF (47 :: (nm ++ 62 :: r)) = some ([⟨2, nm, [], [], false⟩], r) := by
  have h := opened_back (r := r) (l := []) (b := false) hn (by simp) (by simp)
  simp only [attrsW, selfW, List.flatMap_nil, List.nil_append, Bool.false_eq_true, if_false] at h
  unfold openF
  rw [if_neg (by simp [letterL, letterB]), if_pos (by simp [Lib.hasPrefix, letter_app hn.letter]), List.tail_cons, tagF, h]
  simp
theorem endF_here {nm r : Txt} : endF nm (60 :: 47 :: (nm ++ 62 :: r)) = 0 := by
  rw [endF, closes_yes (by decide)]
  rfl
theorem tag_back {nm : Txt} {l : List (Txt × Txt)} {b : Bool} (hn : TagName nm) (h1 : ∀ a ∈ l, AttrName a.1) (h2 : (l.map Prod.fst).Nodup) :
    cutL (writeL [⟨1, nm, l, [], b⟩, ⟨2, nm, [], [], false⟩]) = [⟨1, nm, l, [], b⟩, ⟨2, nm, [], [], false⟩] := by
  have e : writeL [⟨1, nm, l, [], b⟩, ⟨2, nm, [], [], false⟩] = [] ++ 60 :: (nm ++ (attrsW l ++ (selfW b ++ 62 :: (60 :: 47 :: (nm ++ 62 :: []))))) := by
    simp [writeL, writeN, tokW, taggedW, attrsW, selfW]
  have ho : openF (nm ++ (attrsW l ++ (selfW b ++ 62 :: (60 :: 47 :: (nm ++ 62 :: []))))) = some ([⟨1, nm, l, [], b⟩], 60 :: 47 :: (nm ++ 62 :: [])) := by
    rw [open_start hn h1 h2]
    split
    · unfold insideT insideR
      rw [endF_here]
      rfl
    · rfl
  unfold cutL
  rw [e, run_hit (by simp) ho, ← List.nil_append (60 :: 47 :: (nm ++ 62 :: [])), run_hit (by simp) (open_end hn), run_nil]
  simp [tellF]
theorem text_not (x : Txt) : (60 : UInt8) ∉ wrL false x := hasL_not (by decide) (wr_no false 60 (by simp) x)
theorem wr_nil {q : Bool} {x : Txt} (h : x ≠ []) : wrL q x ≠ [] := by
  intro e
  have h1 := wr_ge q x
  rw [e] at h1
  exact h (List.eq_nil_of_length_eq_zero (by simpa using h1))
theorem tell_wr {x : Txt} (h : x ≠ []) : tellF (wrL false x) = [⟨0, [], [], x, false⟩] := by
  unfold tellF
  rw [if_neg (wr_nil h), dec_wr]
theorem text_back {x : Txt} (h : x ≠ []) : cutL (writeL [⟨0, [], [], x, false⟩, ⟨1, [98], [], [], false⟩, ⟨0, [], [], x, false⟩]) = [⟨0, [], [], x, false⟩, ⟨1, [98], [], [], false⟩, ⟨0, [], [], x, false⟩] := by
  have e : writeL [⟨0, [], [], x, false⟩, ⟨1, [98], [], [], false⟩, ⟨0, [], [], x, false⟩] = wrL false x ++ 60 :: ([98] ++ (attrsW [] ++ (selfW false ++ 62 :: wrL false x))) := by
    simp [writeL, writeN, tokW, taggedW, attrsW, selfW, rawT, show rawB [98] = false from by decide]
  have hb : TagName [98] := ⟨by decide, by decide, by decide⟩
  have ho : openF ([98] ++ (attrsW [] ++ (selfW false ++ 62 :: wrL false x))) = some ([⟨1, [98], [], [], false⟩], wrL false x) := by
    rw [open_start hb (by simp) (by simp), if_neg (by decide)]
  unfold cutL
  rw [e, run_hit (text_not x) ho, run_none (text_not x)]
  simp [tell_wr h]

/-- names.plain: bytes, none of which is a space, a great letter, 0 or one of some. -/
def plainB (s but : Txt) : Bool := s.all (fun c => !(spaceB c || (decide (65 ≤ c.toNat) && decide (c.toNat ≤ 90)) || c == 0 || but.contains c)) && !s.isEmpty
def rightB (s : Txt) : Bool := plainB s [47, 62] && letterL s
def attrB (s : Txt) : Bool := plainB s [47, 62, 34, 39, 60, 61]
theorem plain_each {s but : Txt} (h : plainB s but = true) : ∀ c ∈ s, spaceB c = false ∧ ¬ (65 ≤ c.toNat ∧ c.toNat ≤ 90) ∧ c ∉ but := by
  unfold plainB at h
  rw [Bool.and_eq_true, List.all_eq_true] at h
  intro c hc
  have := h.1 c hc
  simp only [Bool.not_eq_true', Bool.or_eq_false_iff, Bool.and_eq_false_iff, decide_eq_false_iff_not] at this
  obtain ⟨⟨⟨a1, a2⟩, a3⟩, a4⟩ := this
  refine ⟨a1, by omega, ?_⟩
  intro hm
  rw [← List.contains_iff_mem] at hm
  rw [hm] at a4
  cases a4
theorem low_same : ∀ {s : Txt}, (∀ c ∈ s, ¬ (65 ≤ c.toNat ∧ c.toNat ≤ 90)) → lowL s = s
  | [], _ => rfl
  | c :: s, h => by
    have ih := low_same (s := s) (fun x hx => h x (by simp [hx]))
    unfold lowL at *
    rw [List.map_cons, ih, lowB, if_neg (h c (by simp))]
theorem right_name {s : Txt} (h : rightB s = true) : TagName s := by
  unfold rightB at h
  rw [Bool.and_eq_true] at h
  have hp := plain_each h.1
  refine ⟨low_same fun c hc => (hp c hc).2.1, h.2, fun x hx => ?_⟩
  obtain ⟨a1, a2, a3⟩ := hp x hx
  simp only [List.mem_cons, List.not_mem_nil, or_false, not_or] at a3
  simp [slashedB, a1, a3.1, a3.2]
theorem attr_name {s : Txt} (h : attrB s = true) : AttrName s := by
  have h' : plainB s [47, 62, 34, 39, 60, 61] = true := h
  have hp := plain_each h'
  refine ⟨?_, low_same fun c hc => (hp c hc).2.1, ?_, ?_⟩
  · rintro rfl
    simp [plainB] at h'
  · rintro c r rfl
    obtain ⟨a1, a2, a3⟩ := hp c (by simp)
    simp only [List.mem_cons, List.not_mem_nil, or_false, not_or] at a3
    exact ⟨a1, a3.1, a3.2.1⟩
  · intro x hx
    obtain ⟨a1, a2, a3⟩ := hp x (List.mem_of_mem_tail hx)
    simp only [List.mem_cons, List.not_mem_nil, or_false, not_or] at a3
    exact ⟨by simp [slashedB, a1, a3.1, a3.2.1], a3.2.2.2.2.2⟩
end Go.Proofs.YtdnbaliibiginaaGreatDoor

/- Plain: TokenShapes: each token of any bytes has what its kind has, and nothing else. No program in sight. -/
namespace Go.Proofs.YtdnbaliibiginaaGreatDoor
open Go.Proofs

def okB (c : UInt8) : Bool := !((decide (65 ≤ c.toNat) && decide (c.toNat ≤ 90)) || c == 32 || c == 9 || c == 10 || c == 12 || c == 13 || c == 62)
def lowerOK (s : Txt) : Bool := s.all okB
structure NameOK (s : Txt) : Prop where
  ne : s ≠ []
  ok : lowerOK s = true
structure AttrsOK (l : List (Txt × Txt)) : Prop where
  each : ∀ a ∈ l, NameOK a.1
  once : (l.map Prod.fst).Nodup
structure ShapeOK (t : Tok) : Prop where
  ge : 0 ≤ t.kind
  le : t.kind ≤ 4
  tag : t.kind = 1 ∨ t.kind = 2 → NameOK t.name ∧ t.data = []
  other : t.kind ≠ 1 → t.kind ≠ 2 → t.name = []
  start : t.kind ≠ 1 → t.attrs = [] ∧ t.self = false
  text : t.kind = 0 → t.data ≠ []
  attrs : AttrsOK t.attrs

theorem encode_ne (i : Int) : (Utf8.encode i).data.toList ≠ [] := by
  unfold Utf8.encode
  simp only
  repeat' split
  all_goals simp
theorem meantL_ne {l : Txt} (h : (meantL l).2 = true) : (meantL l).1 ≠ [] := by
  unfold meantL codedL namedL codeL at *
  repeat' split
  all_goals first | exact encode_ne _ | simp_all
theorem dec_ne : ∀ {l : Txt}, l ≠ [] → decL l ≠ []
  | [], h => absurd rfl h
  | c :: l, _ => by
    rw [decL_cons]
    split
    · split
      · rename_i h
        rw [Bool.and_eq_true] at h
        have := meantL_ne h.2
        simp [this]
      · simp
    · simp

theorem tk_no {p : UInt8 → Bool} : ∀ {s : Txt} {x : UInt8}, x ∈ s.take (s.findIdx p) → p x = false
  | [], _, h => by simp at h
  | c :: s, x, h => by
    rw [List.findIdx_cons] at h
    cases hc : p c with
    | true => rw [hc] at h; simp at h
    | false =>
      rw [hc] at h
      simp at h
      rcases h with rfl | h
      · exact hc
      · exact tk_no h
theorem dr_yes {p : UInt8 → Bool} : ∀ {s r : Txt} {c : UInt8}, s.drop (s.findIdx p) = c :: r → p c = true
  | [], _, _, h => by simp at h
  | x :: s, r, c, h => by
    rw [List.findIdx_cons] at h
    cases hx : p x with
    | true =>
      rw [hx] at h
      simp at h
      rw [← h.1]
      exact hx
    | false =>
      rw [hx] at h
      simp at h
      exact dr_yes h
theorem low_ok : ∀ c : UInt8, (slashedB c || okB (lowB c)) = true := all_u8 (by decide +kernel)
theorem low_first : ∀ c : UInt8, (spaceB c || c == 62 || okB (lowB c)) = true := all_u8 (by decide +kernel)
theorem letter_no : ∀ c : UInt8, (!letterB c || !slashedB c) = true := all_u8 (by decide +kernel)
theorem lowL_ok {s : Txt} (h : ∀ x ∈ s, slashedB x = false) : lowerOK (lowL s) = true := by
  unfold lowerOK lowL
  rw [List.all_eq_true]
  intro x hx
  obtain ⟨y, hy, rfl⟩ := List.mem_map.1 hx
  have := low_ok y
  rw [h y hy] at this
  simpa using this
theorem attrF_fst (s : Txt) : (attrF s).1.1 = lowL (s.take (attrK s)) := by
  unfold attrF attrR valF
  repeat' split
  all_goals rfl
theorem attrF_name {c : UInt8} {s : Txt} (h1 : spaceB c = false) (h2 : c ≠ 62) : NameOK (attrF (c :: s)).1.1 := by
  have e : attrK (c :: s) = s.findIdx (fun c => slashedB c || c == 61) + 1 := by unfold attrK; simp only [List.tail_cons]; omega
  rw [attrF_fst, e, List.take_succ_cons]
  refine ⟨by simp [lowL], ?_⟩
  have h3 := low_first c
  rw [h1, show (c == 62) = false from beq_eq_false_iff_ne.2 h2] at h3
  have h4 := lowL_ok (s := s.take (s.findIdx (fun c => slashedB c || c == 61))) (fun x hx => by
    have := tk_no hx
    simp only [Bool.or_eq_false_iff] at this
    exact this.1)
  unfold lowerOK lowL at *
  rw [List.map_cons, List.all_cons, h4]
  simpa using h3
theorem addA_ok {acc : List (Txt × Txt)} {a : Txt × Txt} (h : AttrsOK acc) (ha : NameOK a.1) : AttrsOK (addA acc a) := by
  unfold addA
  split
  · exact h
  · rename_i hn
    refine ⟨?_, ?_⟩
    · intro b hb
      rw [List.mem_append] at hb
      rcases hb with hb | hb
      · exact h.each b hb
      · simp at hb
        subst hb
        exact ha
    · rw [List.map_append, List.nodup_append]
      refine ⟨h.once, by simp, ?_⟩
      intro x hx y hy
      simp at hy
      subst hy
      intro e
      subst e
      obtain ⟨b, hb, hb2⟩ := List.mem_map.1 hx
      exact hn (List.any_eq_true.2 ⟨b, hb, by simp [hb2]⟩)
theorem gap_head {s r : Txt} {c : UInt8} (h : s.drop (gapF s) = c :: r) : spaceB c = false ∧ c ≠ 47 := by
  have := dr_yes h
  simpa using this
theorem attrsN_ok : ∀ (n : Nat) (acc : List (Txt × Txt)) (s : Txt) r, AttrsOK acc → attrsN n acc s = some r → AttrsOK r.1
  | 0, _, _, _, _, h => by simp [attrsN] at h
  | n + 1, acc, s, r, ha, h => by
    unfold attrsN at h
    cases hd : s.drop (gapF s) with
    | nil => rw [hd] at h; simp at h
    | cons c s1 =>
      rw [hd] at h
      have hg := gap_head hd
      simp only at h
      split at h
      · simp at h
        subst h
        exact ha
      · rename_i hc
        split at h
        · exact attrsN_ok n _ _ r (addA_ok ha (attrF_name hg.1 hc)) h
        · simp at h
theorem attrs0 : AttrsOK [] := ⟨by simp, by simp⟩
theorem opened_ok {s : Txt} {r : Tok × Txt} (hl : letterL s = true) (h : openedF s = some r) : r.1.kind = 0 ∧ NameOK r.1.name ∧ (∀ x ∈ r.1.name, slashedB x = false) ∧ r.1.data = [] ∧ AttrsOK r.1.attrs := by
  unfold openedF at h
  cases ha : attrsF [] (s.drop (s.findIdx slashedB)) with
  | none => rw [ha] at h; simp at h
  | some q =>
    rw [ha] at h
    simp at h
    have hq := attrsN_ok _ _ _ _ attrs0 ha
    have hl2 : ∀ c : UInt8, (slashedB c || !slashedB (lowB c)) = true := all_u8 (by decide +kernel)
    subst h
    refine ⟨rfl, ⟨?_, lowL_ok fun x hx => tk_no hx⟩, ?_, rfl, hq⟩
    · cases s with
      | nil => simp [letterL] at hl
      | cons c t =>
        have := letter_no c
        have hc : letterB c = true := hl
        rw [hc] at this
        have hc2 : slashedB c = false := by simpa using this
        simp [lowL, List.findIdx_cons, hc2]
    · intro x hx
      unfold lowL at hx
      obtain ⟨y, hy, rfl⟩ := List.mem_map.1 hx
      have := hl2 y
      rw [tk_no hy] at this
      simpa using this

theorem text_ok {d : Txt} (h : d ≠ []) : ShapeOK ⟨0, [], [], d, false⟩ := ⟨by simp, by simp, by simp, by simp, by simp, fun _ => h, attrs0⟩
theorem inside_ok (nm s : Txt) : ∀ t ∈ insideT nm s, ShapeOK t := by
  unfold insideT
  split
  · simp
  · rename_i h
    intro t ht
    simp only [List.mem_singleton] at ht
    subst ht
    refine text_ok ?_
    split
    · exact dec_ne h
    · exact h
theorem tag_ok {k : Int} {s : Txt} (hk : k = 1 ∨ k = 2) (hl : letterL s = true) : ∀ t ∈ (tagF k s).1, ShapeOK t := by
  unfold tagF
  cases ho : openedF s with
  | none => simp
  | some r =>
    obtain ⟨h1, h2, h3, h4, h5⟩ := opened_ok hl ho
    obtain ⟨t, q⟩ := r
    simp only at *
    split
    · intro x hx
      simp only [List.mem_singleton] at hx
      subst hx
      exact ⟨by simp, by simp, fun _ => ⟨h2, rfl⟩, by simp, by simp, by simp, attrs0⟩
    · rename_i hk2
      have hk1 : k = 1 := by omega
      subst hk1
      have h0 : ShapeOK ⟨1, t.name, t.attrs, t.data, t.self⟩ := ⟨by simp, by simp, fun _ => ⟨h2, h4⟩, by simp, by simp, by simp, h5⟩
      split
      · intro x hx
        rw [List.mem_cons] at hx
        rcases hx with rfl | hx
        · exact h0
        · exact inside_ok _ _ x hx
      · intro x hx
        simp only [List.mem_singleton] at hx
        subst hx
        exact h0
theorem note_ok {k : Int} {d : Txt} (hk : k = 3 ∨ k = 4) : ShapeOK ⟨k, [], [], d, false⟩ := by
  rcases hk with rfl | rfl <;> exact ⟨by simp, by simp, by simp, by simp, by simp, by simp, attrs0⟩
theorem noteF_ok {k : Int} (s e : Txt) (hk : k = 3 ∨ k = 4) : ∀ t ∈ (noteF k s e).1, ShapeOK t := by
  intro t ht
  unfold noteF at ht
  simp only [List.mem_singleton] at ht
  subst ht
  exact note_ok hk
theorem comment_ok (s : Txt) : ∀ t ∈ (commentF s).1, ShapeOK t := by
  have h3 : ShapeOK ⟨3, [], [], [], false⟩ := note_ok (.inl rfl)
  unfold commentF
  split
  · simpa using h3
  · split
    · simpa using h3
    · exact noteF_ok _ _ (.inl rfl)
theorem open_ok {s : Txt} {r : List Tok × Txt} (h : openF s = some r) : ∀ t ∈ r.1, ShapeOK t := by
  unfold openF at h
  split at h
  · rename_i hl
    simp at h; subst h; exact tag_ok (.inl rfl) hl
  · split at h
    · rename_i hl
      rw [Bool.and_eq_true] at hl
      simp at h; subst h; exact tag_ok (.inr rfl) hl.2
    · split at h
      · simp at h; subst h; simp
      · split at h
        · simp at h; subst h; exact comment_ok _
        · split at h
          · simp at h; subst h; exact noteF_ok _ _ (.inr rfl)
          · split at h
            · simp at h; subst h; exact noteF_ok _ _ (.inl rfl)
            · split at h
              · simp at h; subst h; exact noteF_ok _ _ (.inl rfl)
              · split at h
                · simp at h; subst h; exact noteF_ok _ _ (.inl rfl)
                · simp at h
theorem tell_ok (t : Txt) : ∀ x ∈ tellF t, ShapeOK x := by
  unfold tellF
  split
  · simp
  · rename_i h
    intro x hx
    simp only [List.mem_singleton] at hx
    subst hx
    exact text_ok (dec_ne h)
theorem runN_ok : ∀ (n : Nat) (t s : Txt), ∀ x ∈ runN n t s, ShapeOK x
  | 0, t, s, x, h => tell_ok t x h
  | n + 1, t, s, x, h => by
    unfold runN at h
    cases hd : s.drop (textF s) with
    | nil => rw [hd] at h; exact tell_ok _ x h
    | cons c s1 =>
      rw [hd] at h
      simp only at h
      cases ho : openF s1 with
      | none => rw [ho] at h; exact runN_ok n _ _ x h
      | some r =>
        rw [ho] at h
        obtain ⟨ts, q⟩ := r
        simp only [List.mem_append] at h
        rcases h with (h | h) | h
        · exact tell_ok _ x h
        · exact open_ok ho x h
        · exact runN_ok n _ _ x h
theorem cut_ok (s : Txt) : ∀ x ∈ cutL s, ShapeOK x := runN_ok _ _ _
end Go.Proofs.YtdnbaliibiginaaGreatDoor

/- Plain: TokenComments: a comment's text without > comes back; a doctype's is no longer than it was. No program in sight. -/
namespace Go.Proofs.YtdnbaliibiginaaGreatDoor
open Go.Proofs

theorem cut1_gt {c : UInt8} {r : Txt} : ∀ {a : Txt}, c ∉ a → cut1 c (a ++ c :: r) = (a, r, true)
  | [], _ => by simp [cut1]
  | x :: a, h => by
    simp only [List.mem_cons, not_or] at h
    rw [List.cons_append, cut1, if_neg (fun e => h.1 e.symm), cut1_gt h.2]
theorem occ_get {X sub : Txt} {i : Nat} (h : Lib.occAt X sub i = true) (k : Nat) (hk : k < sub.length) : X[i + k]? = sub[k]? := by
  obtain ⟨t, ht⟩ := List.isPrefixOf_iff_prefix.1 h
  rw [← List.getElem?_drop, ← ht, List.getElem?_append_left hk]
theorem gt_get {Y : Txt} (h : (62 : UInt8) ∉ Y) {j : Nat} (hj : (Y ++ [62])[j]? = some 62) : j = Y.length := by
  rcases Nat.lt_trichotomy j Y.length with h1 | h1 | h1
  · rw [List.getElem?_append_left h1] at hj
    exact absurd (List.mem_of_getElem? hj) h
  · exact h1
  · rw [List.getElem?_eq_none (by simp; omega)] at hj
    simp at hj
theorem comment_law {s : Txt} (h : (62 : UInt8) ∉ s) : commentF (s ++ [45, 45, 62]) = ([⟨3, [], [], s, false⟩], []) := by
  have hY : (62 : UInt8) ∉ s ++ [45, 45] := by simp [h]
  have eX : s ++ [45, 45, 62] = (s ++ [45, 45]) ++ [62] := by simp
  have hl : (s ++ [45, 45]).length = s.length + 2 := by simp
  have n1 : Lib.hasPrefix (s ++ [45, 45, 62]) [62] = false := by
    cases hp : Lib.hasPrefix (s ++ [45, 45, 62]) [62] with
    | false => rfl
    | true =>
      have := occ_get (X := s ++ [45, 45, 62]) (sub := [62]) (i := 0) (hp) 0 (by simp)
      rw [eX] at this
      have := gt_get hY (this.trans rfl)
      omega
  have n2 : Lib.hasPrefix (s ++ [45, 45, 62]) [45, 62] = false := by
    cases hp : Lib.hasPrefix (s ++ [45, 45, 62]) [45, 62] with
    | false => rfl
    | true =>
      have := occ_get (X := s ++ [45, 45, 62]) (sub := [45, 62]) (i := 0) (hp) 1 (by simp)
      rw [eX] at this
      have := gt_get hY (this.trans rfl)
      omega
  have i1 : Lib.index (s ++ [45, 45, 62]) [45, 45, 62] = s.length := by
    refine Lib.index_hit (i := s.length) ?_ (by simp) (by simp [Lib.occAt])
    intro j hj
    cases hp : Lib.occAt (s ++ [45, 45, 62]) [45, 45, 62] j with
    | false => rfl
    | true =>
      have := occ_get hp 2 (by simp)
      rw [eX] at this
      have := gt_get hY (this.trans rfl)
      omega
  have i2 : Lib.index (s ++ [45, 45, 62]) [45, 45, 33, 62] = -1 := by
    refine Lib.index_past (i := s.length) (by simp) ?_ (by simp)
    intro j hj
    cases hp : Lib.occAt (s ++ [45, 45, 62]) [45, 45, 33, 62] j with
    | false => rfl
    | true =>
      have h3 := occ_get hp 3 (by simp)
      have h2 := occ_get hp 2 (by simp)
      rw [eX] at h3 h2
      have h3 := gt_get hY (h3.trans rfl)
      have : j + 2 = s.length + 1 := by omega
      rw [this] at h2
      simp at h2
  unfold commentF
  rw [n1, n2, i1, i2]
  simp only [Bool.false_eq_true, if_false]
  rw [if_neg (by omega)]
  simp [noteF, untilF, Lib.cut, i1]
theorem comments_cut {s : Txt} (h : (62 : UInt8) ∉ s) : cutL ([60, 33, 45, 45] ++ s ++ [45, 45, 62]) = [⟨3, [], [], s, false⟩] := by
  have ho : openF (33 :: 45 :: 45 :: (s ++ [45, 45, 62])) = some ([⟨3, [], [], s, false⟩], []) := by
    unfold openF
    rw [if_neg (by simp [letterL, letterB]), if_neg (by simp [Lib.hasPrefix]), if_neg (by simp [Lib.hasPrefix]), if_pos (by simp [Lib.hasPrefix])]
    simp [comment_law h]
  have e0 : [60, 33, 45, 45] ++ s ++ [45, 45, 62] = [] ++ 60 :: (33 :: 45 :: 45 :: (s ++ [45, 45, 62])) := by simp
  unfold cutL
  rw [e0, run_hit (by simp) ho, run_nil]
  simp [tellF]
theorem dropWhile_le {p : UInt8 → Bool} : ∀ l : Txt, (l.dropWhile p).length ≤ l.length
  | [] => by simp
  | c :: l => by
    have := dropWhile_le (p := p) l
    rw [List.dropWhile_cons]
    split
    · simp only [List.length_cons]; omega
    · exact Nat.le_refl _
theorem trim_le (s : Txt) : (trimL (32 :: s)).length ≤ s.length := by
  unfold trimL
  rw [List.dropWhile_cons, if_pos (by decide), List.length_reverse]
  have h1 := dropWhile_le (p := spaceB) (s.dropWhile spaceB).reverse
  have h2 := dropWhile_le (p := spaceB) s
  rw [List.length_reverse] at h1
  omega
theorem doctype_cut {s : Txt} (h : (62 : UInt8) ∉ s) : cutL ([60, 33, 100, 111, 99, 116, 121, 112, 101, 32] ++ s ++ [120, 62]) = [⟨4, [], [], trimL (32 :: (s ++ [120])), false⟩] := by
  have hc : Lib.cut (32 :: (s ++ [120, 62])) [62] = (32 :: (s ++ [120]), [], true) := by
    rw [cut_eq, show 32 :: (s ++ [120, 62]) = (32 :: (s ++ [120])) ++ 62 :: [] from by simp]
    exact cut1_gt (by simp [h])
  have ho : openF (33 :: 100 :: 111 :: 99 :: 116 :: 121 :: 112 :: 101 :: 32 :: (s ++ [120, 62])) = some ([⟨4, [], [], trimL (32 :: (s ++ [120])), false⟩], []) := by
    unfold openF
    rw [if_neg (by simp [letterL, letterB]), if_neg (by simp [Lib.hasPrefix]), if_neg (by simp [Lib.hasPrefix]), if_neg (by simp [Lib.hasPrefix]), if_pos (by simp [isDoctypeB, lowL, lowB, letterL, letterB])]
    simp [noteF, untilF, hc]
  have e0 : [60, 33, 100, 111, 99, 116, 121, 112, 101, 32] ++ s ++ [120, 62] = [] ++ 60 :: (33 :: 100 :: 111 :: 99 :: 116 :: 121 :: 112 :: 101 :: 32 :: (s ++ [120, 62])) := by simp
  unfold cutL
  rw [e0, run_hit (by simp) ho, run_nil]
  simp [tellF]
end Go.Proofs.YtdnbaliibiginaaGreatDoor

/- Plain: TokenAgain, first part: what the tokens of any bytes are like. No program in sight. -/
namespace Go.Proofs.YtdnbaliibiginaaGreatDoor
open Go.Proofs

/-- A comment's text that comes back. -/
structure NoteOK (d : Txt) : Prop where
  no1 : ∀ j, Lib.occAt d [45, 45, 62] j = false
  no2 : ∀ j, Lib.occAt d [45, 45, 33, 62] j = false
  gt : Lib.hasPrefix d [62] = false
  arrow : Lib.hasPrefix d [45, 62] = false
structure DocOK (d : Txt) : Prop where
  no : (62 : UInt8) ∉ d
  trim : trimL (32 :: d) = d
structure StartOK (nm : Txt) (l : List (Txt × Txt)) : Prop where
  name : TagName nm
  attrs : ∀ a ∈ l, AttrName a.1
  once : (l.map Prod.fst).Nodup
/-- What stands in an element with text alone is followed by its end, or by nothing. -/
def Closed (nm : Txt) (r : List Tok) : Prop := r = [] ∨ ∃ q, r = ⟨2, nm, [], [], false⟩ :: q
/-- No end tag of a name stands in a text. -/
def RawOK (nm d : Txt) : Prop := ∀ j, j < d.length → closesB nm (d.drop j) = false

inductive Good : List Tok → Prop
  | nil : Good []
  | text {d : Txt} {r : List Tok} : d ≠ [] → Good r → Good (⟨0, [], [], d, false⟩ :: r)
  | start {nm : Txt} {l : List (Txt × Txt)} {b : Bool} {r : List Tok} : StartOK nm l → (rawB nm || softB nm) = false → Good r → Good (⟨1, nm, l, [], b⟩ :: r)
  | shut {nm : Txt} {l : List (Txt × Txt)} {b : Bool} {r : List Tok} : StartOK nm l → (rawB nm || softB nm) = true → Closed nm r → Good r → Good (⟨1, nm, l, [], b⟩ :: r)
  | full {nm : Txt} {l : List (Txt × Txt)} {b : Bool} {d : Txt} {r : List Tok} : StartOK nm l → (rawB nm || softB nm) = true → d ≠ [] → (rawB nm = true → RawOK nm d) → Closed nm r → Good r → Good (⟨1, nm, l, [], b⟩ :: ⟨0, [], [], d, false⟩ :: r)
  | shuts {nm : Txt} {r : List Tok} : TagName nm → Good r → Good (⟨2, nm, [], [], false⟩ :: r)
  | note {d : Txt} {r : List Tok} : NoteOK d → Good r → Good (⟨3, [], [], d, false⟩ :: r)
  | doct {d : Txt} {r : List Tok} : DocOK d → Good r → Good (⟨4, [], [], d, false⟩ :: r)

theorem occ_take {s sub : Txt} {n j : Nat} (h : Lib.occAt (s.take n) sub j = true) (hs : sub ≠ []) : Lib.occAt s sub j = true ∧ j + sub.length ≤ n := by
  have hp := List.isPrefixOf_iff_prefix.1 h
  have hl := hp.length_le
  have h0 : 0 < sub.length := List.length_pos_iff.2 hs
  rw [List.length_drop, List.length_take] at hl
  refine ⟨List.isPrefixOf_iff_prefix.2 ?_, by omega⟩
  rw [List.drop_take] at hp
  exact hp.trans (List.take_prefix _ _)
theorem occ_room {s sub : Txt} {j : Nat} (h : Lib.occAt s sub j = true) (hs : sub ≠ []) : j + sub.length ≤ s.length := by
  have hp := List.isPrefixOf_iff_prefix.1 h
  have hl := hp.length_le
  have h0 : 0 < sub.length := List.length_pos_iff.2 hs
  rw [List.length_drop] at hl
  omega
theorem occ_index {s sub : Txt} {j : Nat} (h : Lib.occAt s sub j = true) (hs : sub ≠ []) : 0 ≤ Lib.index s sub ∧ Lib.index s sub ≤ j := by
  have := occ_room h hs
  rcases Lib.index_spec s sub with ⟨h1, h2⟩ | ⟨i, h1, h2, h3, h4⟩
  · rw [h2 j (by omega)] at h
    cases h
  · rw [h1]
    refine ⟨by omega, ?_⟩
    rcases Nat.lt_or_ge j i with e | e
    · rw [h4 j e] at h
      cases h
    · omega
theorem index_lt {s sub : Txt} (h : Lib.index s sub < 0) (hs : sub ≠ []) (j : Nat) : Lib.occAt s sub j = false := by
  cases ho : Lib.occAt s sub j with
  | false => rfl
  | true =>
    have := occ_index ho hs
    omega
theorem pre_take {s p : Txt} {n : Nat} (h : Lib.hasPrefix s p = false) : Lib.hasPrefix (s.take n) p = false := by
  cases hp : Lib.hasPrefix (s.take n) p with
  | false => rfl
  | true =>
    have h1 := List.isPrefixOf_iff_prefix.1 hp
    have : Lib.hasPrefix s p = true := List.isPrefixOf_iff_prefix.2 (h1.trans (List.take_prefix _ _))
    rw [h] at this
    cases this
theorem note_no {d : Txt} (h : (62 : UInt8) ∉ d) : NoteOK d := by
  have occ : ∀ (sub : Txt) j, (62 : UInt8) ∈ sub → Lib.occAt d sub j = false := by
    intro sub j hm
    cases ho : Lib.occAt d sub j with
    | false => rfl
    | true =>
      have hp := List.isPrefixOf_iff_prefix.1 ho
      exact absurd (List.mem_of_mem_drop (hp.subset hm)) h
  refine ⟨fun j => occ _ j (by decide), fun j => occ _ j (by decide), ?_, ?_⟩
  · exact occ [62] 0 (by decide)
  · exact occ [45, 62] 0 (by decide)
theorem cut_hit {s e : Txt} {i : Nat} (h : Lib.index s e = i) : Lib.cut s e = (s.take i, s.drop (i + e.length), true) := by
  unfold Lib.cut
  rw [if_pos (by omega), h]
  simp
theorem cut_miss {s e : Txt} (h : Lib.index s e < 0) : Lib.cut s e = (s, [], false) := by
  unfold Lib.cut
  rw [if_neg (by omega)]
theorem comment_note {s : Txt} (h1 : Lib.hasPrefix s [62] = false) (h2 : Lib.hasPrefix s [45, 62] = false) : NoteOK (untilF s (if 0 ≤ Lib.index s [45, 45, 33, 62] ∧ (Lib.index s [45, 45, 62] < 0 ∨ Lib.index s [45, 45, 33, 62] < Lib.index s [45, 45, 62]) then [45, 45, 33, 62] else [45, 45, 62])).1 := by
  have key : ∀ n, (∀ j, Lib.occAt s [45, 45, 62] j = true → n < j + 3) → (∀ j, Lib.occAt s [45, 45, 33, 62] j = true → n < j + 4) → NoteOK (s.take n) := by
    intro n k1 k2
    refine ⟨?_, ?_, pre_take h1, pre_take h2⟩
    · intro j
      cases ho : Lib.occAt (s.take n) [45, 45, 62] j with
      | false => rfl
      | true =>
        have := occ_take ho (by simp)
        have h3 := k1 j this.1
        have h4 := this.2
        simp at h4
        omega
    · intro j
      cases ho : Lib.occAt (s.take n) [45, 45, 33, 62] j with
      | false => rfl
      | true =>
        have := occ_take ho (by simp)
        have h3 := k2 j this.1
        have h4 := this.2
        simp at h4
        omega
  split
  · rename_i hc
    obtain ⟨k, hk⟩ := Int.eq_ofNat_of_zero_le hc.1
    unfold untilF
    rw [cut_hit hk]
    refine key k ?_ ?_
    · intro j hj
      have := occ_index hj (by simp)
      omega
    · intro j hj
      have := occ_index hj (by simp)
      omega
  · rename_i hc
    unfold untilF
    by_cases hi : Lib.index s [45, 45, 62] < 0
    · rw [cut_miss hi]
      have hk : Lib.index s [45, 45, 33, 62] < 0 := by
        rcases Int.lt_or_le (Lib.index s [45, 45, 33, 62]) 0 with e | e
        · exact e
        · exact absurd ⟨e, .inl hi⟩ hc
      exact ⟨index_lt hi (by simp), index_lt hk (by simp), h1, h2⟩
    · obtain ⟨i, hi2⟩ := Int.eq_ofNat_of_zero_le (Int.not_lt.1 hi)
      rw [cut_hit hi2]
      refine key i ?_ ?_
      · intro j hj
        have := occ_index hj (by simp)
        omega
      · intro j hj
        have := occ_index hj (by simp)
        rcases Int.lt_or_le (Lib.index s [45, 45, 33, 62]) (Lib.index s [45, 45, 62]) with e | e
        · exact absurd ⟨this.1, .inr e⟩ hc
        · omega
theorem until_no (s : Txt) : (62 : UInt8) ∉ (untilF s [62]).1 := by
  unfold untilF
  rw [cut_eq]
  exact cut1_not 62 s
theorem dw_head {p : UInt8 → Bool} : ∀ {l : Txt} {c : UInt8} {r : Txt}, l.dropWhile p = c :: r → p c = false
  | [], _, _, h => by simp at h
  | x :: l, c, r, h => by
    rw [List.dropWhile_cons] at h
    split at h
    · exact dw_head h
    · rename_i hx
      simp only [List.cons.injEq] at h
      rw [← h.1]
      simpa using hx
theorem dw_same {p : UInt8 → Bool} {l : Txt} (h : ∀ c r, l = c :: r → p c = false) : l.dropWhile p = l := by
  cases l with
  | nil => rfl
  | cons c r => rw [List.dropWhile_cons, h c r rfl]; simp
theorem dw_mem {p : UInt8 → Bool} {x : UInt8} : ∀ {l : Txt}, x ∈ l.dropWhile p → x ∈ l
  | [], h => by simp at h
  | c :: l, h => by
    rw [List.dropWhile_cons] at h
    split at h
    · exact List.mem_cons_of_mem _ (dw_mem h)
    · exact h
theorem trim_mem {x : UInt8} {s : Txt} (h : x ∈ trimL s) : x ∈ s := by
  unfold trimL at h
  rw [List.mem_reverse] at h
  have := dw_mem h
  rw [List.mem_reverse] at this
  exact dw_mem this
theorem dw_suffix {p : UInt8 → Bool} : ∀ l : Txt, ∃ a, l = a ++ l.dropWhile p
  | [] => ⟨[], rfl⟩
  | c :: l => by
    rw [List.dropWhile_cons]
    split
    · obtain ⟨a, ha⟩ := dw_suffix (p := p) l
      exact ⟨c :: a, by rw [List.cons_append, ← ha]⟩
    · exact ⟨[], rfl⟩
theorem trim_trim (s : Txt) : trimL (32 :: trimL s) = trimL s := by
  have e : (32 :: trimL s).dropWhile spaceB = (trimL s).dropWhile spaceB := by rw [List.dropWhile_cons, if_pos (by decide)]
  have h1 : (trimL s).dropWhile spaceB = trimL s := by
    refine dw_same ?_
    intro c r hc
    unfold trimL at hc
    obtain ⟨a, ha⟩ := dw_suffix (p := spaceB) (s.dropWhile spaceB).reverse
    have h2 := congrArg List.reverse ha
    rw [List.reverse_reverse, List.reverse_append, hc] at h2
    rw [List.cons_append] at h2
    exact dw_head h2
  have h2 : (trimL s).reverse.dropWhile spaceB = (trimL s).reverse := by
    refine dw_same ?_
    intro c r hc
    unfold trimL at hc
    rw [List.reverse_reverse] at hc
    exact dw_head hc
  show ((( 32 :: trimL s).dropWhile spaceB).reverse.dropWhile spaceB).reverse = trimL s
  rw [e, h1, h2, List.reverse_reverse]
theorem doc_ok (s : Txt) : DocOK (trimL (untilF s [62]).1) := ⟨fun h => until_no s (trim_mem h), trim_trim _⟩

theorem low_low (s : Txt) : lowL (lowL s) = lowL s := by
  have h : ∀ c : UInt8, (lowB (lowB c) == lowB c) = true := all_u8 (by decide +kernel)
  unfold lowL
  rw [List.map_map]
  refine List.map_congr_left fun c _ => ?_
  exact beq_iff_eq.1 (h c)
theorem low_letter : ∀ c : UInt8, (!letterB c || letterB (lowB c)) = true := all_u8 (by decide +kernel)
theorem low_letter2 : ∀ c : UInt8, (!letterB (lowB c) || letterB c) = true := all_u8 (by decide +kernel)
theorem low_slashed : ∀ c : UInt8, (slashedB (lowB c) == slashedB c) = true := all_u8 (by decide +kernel)
theorem low_eq61 : ∀ c : UInt8, ((lowB c == 61) == (c == 61)) = true := all_u8 (by decide +kernel)
theorem low_eq60 : ∀ c : UInt8, ((lowB c == 60) == (c == 60)) = true := all_u8 (by decide +kernel)
theorem low_gap : ∀ c : UInt8, ((spaceB (lowB c) || lowB c == 47 || lowB c == 62) == (spaceB c || c == 47 || c == 62)) = true := all_u8 (by decide +kernel)
theorem attrF_attr {c : UInt8} {s : Txt} (h1 : spaceB c = false) (h3 : c ≠ 47) (h2 : c ≠ 62) : AttrName (attrF (c :: s)).1.1 := by
  have e : attrK (c :: s) = s.findIdx (fun c => slashedB c || c == 61) + 1 := by unfold attrK; simp only [List.tail_cons]; omega
  have hne := (attrF_name (s := s) h1 h2).ne
  rw [attrF_fst, e, List.take_succ_cons] at hne ⊢
  refine ⟨hne, low_low _, ?_, ?_⟩
  · intro d r hd
    simp only [lowL, List.map_cons, List.cons.injEq] at hd
    have := low_gap c
    rw [h1, show (c == 47) = false from beq_eq_false_iff_ne.2 h3, show (c == 62) = false from beq_eq_false_iff_ne.2 h2, hd.1] at this
    simp at this
    exact ⟨this.1.1, this.1.2, this.2⟩
  · intro x hx
    simp only [lowL, List.map_cons, List.tail_cons, List.mem_map] at hx
    obtain ⟨y, hy, rfl⟩ := hx
    have h4 := tk_no hy
    simp only [Bool.or_eq_false_iff] at h4
    have h5 := low_slashed y
    have h6 := low_eq61 y
    rw [h4.1] at h5
    rw [h4.2] at h6
    simp at h5 h6
    exact ⟨h5, h6⟩
theorem attrsN_name : ∀ (n : Nat) (acc : List (Txt × Txt)) (s : Txt) r, (∀ a ∈ acc, AttrName a.1) → attrsN n acc s = some r → ∀ a ∈ r.1, AttrName a.1
  | 0, _, _, _, _, h => by simp [attrsN] at h
  | n + 1, acc, s, r, ha, h => by
    unfold attrsN at h
    cases hd : s.drop (gapF s) with
    | nil => rw [hd] at h; simp at h
    | cons c s1 =>
      rw [hd] at h
      have hg := gap_head hd
      simp only at h
      split at h
      · simp at h
        subst h
        exact ha
      · rename_i hc
        split at h
        · refine attrsN_name n _ _ r ?_ h
          intro a hm
          unfold addA at hm
          split at hm
          · exact ha a hm
          · rw [List.mem_append] at hm
            rcases hm with hm | hm
            · exact ha a hm
            · simp only [List.mem_singleton] at hm
              subst hm
              exact attrF_attr hg.1 hg.2 hc
        · simp at h
theorem opened_start {s : Txt} {r : Tok × Txt} (hl : letterL s = true) (h : openedF s = some r) : StartOK r.1.name r.1.attrs ∧ r.1.data = [] ∧ r.1.name = lowL (s.take (s.findIdx slashedB)) := by
  obtain ⟨k1, k2, k3, k4, k5⟩ := opened_ok hl h
  unfold openedF at h
  cases ha : attrsF [] (s.drop (s.findIdx slashedB)) with
  | none => rw [ha] at h; simp at h
  | some q =>
    rw [ha] at h
    simp at h
    have hq := attrsN_name _ _ _ _ (by simp) ha
    subst h
    refine ⟨⟨⟨low_low _, ?_, k3⟩, hq, k5.once⟩, rfl, rfl⟩
    cases s with
    | nil => simp [letterL] at hl
    | cons c t =>
      have hc : letterB c = true := hl
      have h1 := letter_no c
      rw [hc] at h1
      have hc2 : slashedB c = false := by simpa using h1
      have h2 := low_letter c
      rw [hc] at h2
      simp only [List.findIdx_cons, hc2, cond_false, List.take_succ_cons, lowL, List.map_cons]
      simpa [letterL] using h2
theorem closes_app {nm x y : Txt} (h : closesB nm x = true) : closesB nm (x ++ y) = true := by
  unfold closesB at h
  split at h
  · rename_i r
    simp only [Bool.and_eq_true, decide_eq_true_eq, beq_iff_eq] at h
    obtain ⟨⟨h1, h2⟩, h3⟩ := h
    have e1 : (r ++ y).take nm.length = r.take nm.length := List.take_append_of_le_length (by omega)
    have e2 : (r ++ y).drop nm.length = r.drop nm.length ++ y := List.drop_append_of_le_length (by omega)
    cases hd : r.drop nm.length with
    | nil => rw [hd] at h3; simp at h3
    | cons c t =>
      rw [hd] at h3
      simp only [List.cons_append, closesB]
      rw [e1, h2, e2, hd]
      simp [h3]
      omega
  · cases h
theorem endF_le (nm : Txt) : ∀ s : Txt, endF nm s ≤ s.length
  | [] => by simp [endF]
  | c :: t => by
    have := endF_le nm t
    rw [endF]
    split
    · omega
    · simp only [List.length_cons]; omega
theorem endF_no (nm : Txt) : ∀ (s : Txt) (j : Nat), j < endF nm s → closesB nm (s.drop j) = false
  | [], j, h => by simp [endF] at h
  | c :: t, j, h => by
    rw [endF] at h
    split at h
    · omega
    · rename_i hc
      cases j with
      | zero => simpa using hc
      | succ j =>
        rw [List.drop_succ_cons]
        exact endF_no nm t j (by omega)
theorem endF_at (nm : Txt) : ∀ (s : Txt), s.drop (endF nm s) = [] ∨ closesB nm (s.drop (endF nm s)) = true
  | [] => by simp
  | c :: t => by
    rw [endF]
    split
    · rename_i hc
      exact .inr hc
    · rw [Nat.add_comm, List.drop_succ_cons]
      exact endF_at nm t
theorem raw_ok (nm s : Txt) : RawOK nm (s.take (endF nm s)) := by
  intro j hj
  have hl := endF_le nm s
  rw [List.length_take] at hj
  cases hc : closesB nm ((s.take (endF nm s)).drop j) with
  | false => rfl
  | true =>
    have h1 := closes_app (y := s.drop (endF nm s)) hc
    rw [← List.drop_append_of_le_length (by rw [List.length_take]; omega), List.take_append_drop] at h1
    rw [endF_no nm s j (by omega)] at h1
    cases h1

theorem good_tell {t : Txt} {L : List Tok} (h : Good L) : Good (tellF t ++ L) := by
  unfold tellF
  split
  · exact h
  · rename_i hn
    exact .text (dec_ne hn) h
/-- What begins with the end tag of a name is cut to it, or to nothing. -/
theorem closed_open {nm r : Txt} (hn : TagName nm) (h : closesB nm (60 :: 47 :: r) = true) : letterL r = true ∧ lowL (r.take (r.findIdx slashedB)) = nm := by
  simp only [closesB, Bool.and_eq_true, decide_eq_true_eq, beq_iff_eq] at h
  obtain ⟨⟨h1, h2⟩, h3⟩ := h
  rw [hn.low] at h2
  cases hd : r.drop nm.length with
  | nil => rw [hd] at h3; simp at h3
  | cons c q =>
    rw [hd] at h3
    have er : r = r.take nm.length ++ c :: q := by rw [← hd, List.take_append_drop]
    have ha : ∀ x ∈ r.take nm.length, slashedB x = false := by
      intro x hx
      have hm : lowB x ∈ nm := by rw [← h2]; exact List.mem_map_of_mem hx
      have h4 := hn.all _ hm
      have h5 := low_slashed x
      rw [h4] at h5
      simpa using h5
    have hf : r.findIdx slashedB = nm.length := by
      conv => lhs; rw [er]
      rw [fi_hit h3 ha, List.length_take]
      omega
    rw [hf]
    refine ⟨?_, h2⟩
    have hl := hn.letter
    rw [← h2] at hl
    rw [er]
    cases ht : r.take nm.length with
    | nil => rw [ht] at hl; simp [lowL, letterL] at hl
    | cons x y =>
      rw [ht] at hl
      simp only [lowL, List.map_cons, letterL] at hl
      have h6 := low_letter2 x
      rw [hl] at h6
      simpa [letterL] using h6
theorem tag_end {s : Txt} (hl : letterL s = true) : tagF 2 s = ([], []) ∨ ∃ q, tagF 2 s = ([⟨2, lowL (s.take (s.findIdx slashedB)), [], [], false⟩], q) ∧ TagName (lowL (s.take (s.findIdx slashedB))) := by
  unfold tagF
  cases ho : openedF s with
  | none => exact .inl rfl
  | some r =>
    obtain ⟨h1, h2, h3⟩ := opened_start hl ho
    obtain ⟨t, q⟩ := r
    simp only at *
    refine .inr ⟨q, ?_, ?_⟩
    · rw [h3]; simp
    · rw [← h3]; exact h1.name
theorem open_slash {s : Txt} (hl : letterL s = true) : openF (47 :: s) = some (tagF 2 s) := by
  unfold openF
  rw [if_neg (by simp [letterL, letterB]), if_pos (by simp [Lib.hasPrefix, hl])]
  rfl
theorem run_open {t r : Txt} {x : List Tok × Txt} (ho : openF r = some x) : runF t (60 :: r) = tellF t ++ x.1 ++ runF [] x.2 := by
  have := run_hit (t := t) (a := []) (by simp) ho
  simpa using this
theorem run_closed {nm s : Txt} (hn : TagName nm) (h : s = [] ∨ closesB nm s = true) : Closed nm (runF [] s) := by
  rcases h with rfl | h
  · left
    rw [run_nil]
    rfl
  · have h0 := h
    unfold closesB at h0
    split at h0
    · rename_i r
      obtain ⟨h1, h2⟩ := closed_open hn h
      rw [run_open (open_slash h1)]
      rcases tag_end h1 with e | ⟨q, e, _⟩
      · rw [e]
        left
        simp [tellF, run_nil]
      · rw [e, h2]
        right
        exact ⟨runF [] q, by simp [tellF]⟩
    · cases h0
theorem insideR_le (nm s : Txt) : (insideR nm s).length ≤ s.length := by simp [insideR]

theorem run_good : ∀ (n : Nat) (t s : Txt), s.length < n → Good (runF t s)
  | 0, _, _, h => absurd h (Nat.not_lt_zero _)
  | n + 1, t, s, h => by
    rw [runF_eq]
    cases hd : s.drop (textF s) with
    | nil =>
      have := good_tell (t := t ++ s.take (textF s)) .nil
      simpa using this
    | cons c s1 =>
      have h1 : s1.length < s.length := by
        have := congrArg List.length hd
        simp at this
        omega
      simp only
      cases ho : openF s1 with
      | none => exact run_good n _ _ (by omega)
      | some x =>
        have hle := openF_le ho
        obtain ⟨ts, r⟩ := x
        simp only at hle ⊢
        rw [List.append_assoc]
        refine good_tell ?_
        have ih := run_good n [] r (by omega)
        unfold openF at ho
        split at ho
        · rename_i hl
          simp only [Option.some.injEq] at ho
          unfold tagF at ho
          cases hop : openedF s1 with
          | none =>
            rw [hop] at ho
            simp only [Prod.mk.injEq] at ho
            obtain ⟨rfl, rfl⟩ := ho
            exact ih
          | some y =>
            rw [hop] at ho
            have hyl := openedF_le hop
            obtain ⟨k1, k2, k3⟩ := opened_start hl hop
            obtain ⟨y, q⟩ := y
            simp only at k1 k2 k3 ho hyl
            rw [if_neg (by decide)] at ho
            split at ho
            · rename_i hrs
              simp only [Prod.mk.injEq] at ho
              obtain ⟨rfl, rfl⟩ := ho
              rw [k2]
              have hcl : Closed y.name (runF [] (insideR y.name q)) := run_closed k1.name (endF_at y.name q)
              unfold insideT
              split
              · exact .shut k1 hrs hcl ih
              · rename_i hne
                refine .full k1 hrs ?_ ?_ hcl ih
                · split
                  · exact dec_ne hne
                  · exact hne
                · intro hr
                  have hs : softB y.name = false := by
                    unfold rawB inB at hr
                    rw [List.contains_iff_mem] at hr
                    simp only [rawsL, List.mem_cons, List.not_mem_nil, or_false] at hr
                    rcases hr with e | e | e | e | e | e <;> (rw [e]; decide)
                  rw [hs]
                  exact raw_ok y.name q
            · rename_i hrs
              simp only [Prod.mk.injEq] at ho
              obtain ⟨rfl, rfl⟩ := ho
              rw [k2]
              exact .start k1 (by simpa using hrs) ih
        · split at ho
          · rename_i hl
            rw [Bool.and_eq_true] at hl
            simp only [Option.some.injEq] at ho
            rcases tag_end hl.2 with e | ⟨q, e, hn⟩
            · rw [e] at ho
              simp only [Prod.mk.injEq] at ho
              obtain ⟨rfl, rfl⟩ := ho
              exact ih
            · rw [e] at ho
              simp only [Prod.mk.injEq] at ho
              obtain ⟨rfl, rfl⟩ := ho
              exact .shuts hn ih
          · have note : ∀ u, noteF 3 u [62] = (ts, r) → Good (ts ++ runF [] r) := by
              intro u e
              unfold noteF at e
              simp only [Prod.mk.injEq] at e
              rw [← e.1]
              exact .note (by rw [if_neg (by decide)]; exact note_no (until_no u)) ih
            split at ho
            · simp only [Option.some.injEq, Prod.mk.injEq] at ho
              obtain ⟨rfl, rfl⟩ := ho
              exact ih
            · split at ho
              · simp only [Option.some.injEq] at ho
                have n0 : NoteOK [] := note_no (by simp)
                unfold commentF at ho
                split at ho
                · simp only [Prod.mk.injEq] at ho
                  rw [← ho.1]
                  exact .note n0 ih
                · rename_i p1
                  split at ho
                  · simp only [Prod.mk.injEq] at ho
                    rw [← ho.1]
                    exact .note n0 ih
                  · rename_i p2
                    unfold noteF at ho
                    simp only [Prod.mk.injEq] at ho
                    rw [← ho.1]
                    exact .note (by rw [if_neg (by decide)]; exact comment_note (by simpa using p1) (by simpa using p2)) ih
              · split at ho
                · simp only [Option.some.injEq] at ho
                  unfold noteF at ho
                  simp only [Prod.mk.injEq] at ho
                  rw [← ho.1]
                  exact .doct (by simp only [if_true]; exact doc_ok _) ih
                · split at ho
                  · simp only [Option.some.injEq] at ho
                    exact note _ ho
                  · split at ho
                    · simp only [Option.some.injEq] at ho
                      exact note _ ho
                    · split at ho
                      · simp only [Option.some.injEq] at ho
                        exact note _ ho
                      · simp at ho
theorem cut_good (s : Txt) : Good (cutL s) := run_good (s.length + 1) [] s (Nat.lt_succ_self _)
end Go.Proofs.YtdnbaliibiginaaGreatDoor
