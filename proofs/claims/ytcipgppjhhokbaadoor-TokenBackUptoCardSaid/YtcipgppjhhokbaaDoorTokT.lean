/- Plain: TokenShapes: each token of any bytes has what its kind has, and nothing else. No program in sight. -/
import Derived.Test.YtcipgppjhhokbaaDoorTokR
set_option linter.unusedVariables false
namespace Go.Proofs.YtcipgppjhhokbaaDoor
open Go.Proofs

def okB (c : UInt8) : Bool := !((decide (65 ≤ c.toNat) && decide (c.toNat ≤ 90)) || c == 32 || c == 9 || c == 10 || c == 12 || c == 13 || c == 62)
def lowerOK (s : Txt) : Bool := s.all okB
structure NameOK (s : Txt) : Prop where
  ne : s ≠ []
  ok : lowerOK s = true
structure AttrsOK (l : List (Txt × Txt)) : Prop where
  each : ∀ a ∈ l, NameOK a.1
  once : (l.map Prod.fst).Nodup
structure ShapeOK (t : Tok) : Prop where
  ge : 0 ≤ t.kind
  le : t.kind ≤ 4
  tag : t.kind = 1 ∨ t.kind = 2 → NameOK t.name ∧ t.data = []
  other : t.kind ≠ 1 → t.kind ≠ 2 → t.name = []
  start : t.kind ≠ 1 → t.attrs = [] ∧ t.self = false
  text : t.kind = 0 → t.data ≠ []
  attrs : AttrsOK t.attrs

theorem encode_ne (i : Int) : (Utf8.encode i).data.toList ≠ [] := by
  unfold Utf8.encode
  simp only
  repeat' split
  all_goals simp
theorem meantL_ne {l : Txt} (h : (meantL l).2 = true) : (meantL l).1 ≠ [] := by
  unfold meantL codedL namedL codeL at *
  repeat' split
  all_goals first | exact encode_ne _ | simp_all
theorem dec_ne : ∀ {l : Txt}, l ≠ [] → decL l ≠ []
  | [], h => absurd rfl h
  | c :: l, _ => by
    rw [decL_cons]
    split
    · split
      · rename_i h
        rw [Bool.and_eq_true] at h
        have := meantL_ne h.2
        simp [this]
      · simp
    · simp

theorem tk_no {p : UInt8 → Bool} : ∀ {s : Txt} {x : UInt8}, x ∈ s.take (s.findIdx p) → p x = false
  | [], _, h => by simp at h
  | c :: s, x, h => by
    rw [List.findIdx_cons] at h
    cases hc : p c with
    | true => rw [hc] at h; simp at h
    | false =>
      rw [hc] at h
      simp at h
      rcases h with rfl | h
      · exact hc
      · exact tk_no h
theorem dr_yes {p : UInt8 → Bool} : ∀ {s r : Txt} {c : UInt8}, s.drop (s.findIdx p) = c :: r → p c = true
  | [], _, _, h => by simp at h
  | x :: s, r, c, h => by
    rw [List.findIdx_cons] at h
    cases hx : p x with
    | true =>
      rw [hx] at h
      simp at h
      rw [← h.1]
      exact hx
    | false =>
      rw [hx] at h
      simp at h
      exact dr_yes h
theorem low_ok : ∀ c : UInt8, (slashedB c || okB (lowB c)) = true := all_u8 (by decide +kernel)
theorem low_first : ∀ c : UInt8, (spaceB c || c == 62 || okB (lowB c)) = true := all_u8 (by decide +kernel)
theorem letter_no : ∀ c : UInt8, (!letterB c || !slashedB c) = true := all_u8 (by decide +kernel)
theorem lowL_ok {s : Txt} (h : ∀ x ∈ s, slashedB x = false) : lowerOK (lowL s) = true := by
  unfold lowerOK lowL
  rw [List.all_eq_true]
  intro x hx
  obtain ⟨y, hy, rfl⟩ := List.mem_map.1 hx
  have := low_ok y
  rw [h y hy] at this
  simpa using this
theorem attrF_fst (s : Txt) : (attrF s).1.1 = lowL (s.take (attrK s)) := by
  unfold attrF attrR valF
  repeat' split
  all_goals rfl
theorem attrF_name {c : UInt8} {s : Txt} (h1 : spaceB c = false) (h2 : c ≠ 62) : NameOK (attrF (c :: s)).1.1 := by
  have e : attrK (c :: s) = s.findIdx (fun c => slashedB c || c == 61) + 1 := by unfold attrK; simp only [List.tail_cons]; omega
  rw [attrF_fst, e, List.take_succ_cons]
  refine ⟨by simp [lowL], ?_⟩
  have h3 := low_first c
  rw [h1, show (c == 62) = false from beq_eq_false_iff_ne.2 h2] at h3
  have h4 := lowL_ok (s := s.take (s.findIdx (fun c => slashedB c || c == 61))) (fun x hx => by
    have := tk_no hx
    simp only [Bool.or_eq_false_iff] at this
    exact this.1)
  unfold lowerOK lowL at *
  rw [List.map_cons, List.all_cons, h4]
  simpa using h3
theorem addA_ok {acc : List (Txt × Txt)} {a : Txt × Txt} (h : AttrsOK acc) (ha : NameOK a.1) : AttrsOK (addA acc a) := by
  unfold addA
  split
  · exact h
  · rename_i hn
    refine ⟨?_, ?_⟩
    · intro b hb
      rw [List.mem_append] at hb
      rcases hb with hb | hb
      · exact h.each b hb
      · simp at hb
        subst hb
        exact ha
    · rw [List.map_append, List.nodup_append]
      refine ⟨h.once, by simp, ?_⟩
      intro x hx y hy
      simp at hy
      subst hy
      intro e
      subst e
      obtain ⟨b, hb, hb2⟩ := List.mem_map.1 hx
      exact hn (List.any_eq_true.2 ⟨b, hb, by simp [hb2]⟩)
theorem gap_head {s r : Txt} {c : UInt8} (h : s.drop (gapF s) = c :: r) : spaceB c = false ∧ c ≠ 47 := by
  have := dr_yes h
  simpa using this
theorem attrsN_ok : ∀ (n : Nat) (acc : List (Txt × Txt)) (s : Txt) r, AttrsOK acc → attrsN n acc s = some r → AttrsOK r.1
  | 0, _, _, _, _, h => by simp [attrsN] at h
  | n + 1, acc, s, r, ha, h => by
    unfold attrsN at h
    cases hd : s.drop (gapF s) with
    | nil => rw [hd] at h; simp at h
    | cons c s1 =>
      rw [hd] at h
      have hg := gap_head hd
      simp only at h
      split at h
      · simp at h
        subst h
        exact ha
      · rename_i hc
        split at h
        · exact attrsN_ok n _ _ r (addA_ok ha (attrF_name hg.1 hc)) h
        · simp at h
theorem attrs0 : AttrsOK [] := ⟨by simp, by simp⟩
theorem opened_ok {s : Txt} {r : Tok × Txt} (hl : letterL s = true) (h : openedF s = some r) : r.1.kind = 0 ∧ NameOK r.1.name ∧ (∀ x ∈ r.1.name, slashedB x = false) ∧ r.1.data = [] ∧ AttrsOK r.1.attrs := by
  unfold openedF at h
  cases ha : attrsF [] (s.drop (s.findIdx slashedB)) with
  | none => rw [ha] at h; simp at h
  | some q =>
    rw [ha] at h
    simp at h
    have hq := attrsN_ok _ _ _ _ attrs0 ha
    have hl2 : ∀ c : UInt8, (slashedB c || !slashedB (lowB c)) = true := all_u8 (by decide +kernel)
    subst h
    refine ⟨rfl, ⟨?_, lowL_ok fun x hx => tk_no hx⟩, ?_, rfl, hq⟩
    · cases s with
      | nil => simp [letterL] at hl
      | cons c t =>
        have := letter_no c
        have hc : letterB c = true := hl
        rw [hc] at this
        have hc2 : slashedB c = false := by simpa using this
        simp [lowL, List.findIdx_cons, hc2]
    · intro x hx
      unfold lowL at hx
      obtain ⟨y, hy, rfl⟩ := List.mem_map.1 hx
      have := hl2 y
      rw [tk_no hy] at this
      simpa using this

theorem text_ok {d : Txt} (h : d ≠ []) : ShapeOK ⟨0, [], [], d, false⟩ := ⟨by simp, by simp, by simp, by simp, by simp, fun _ => h, attrs0⟩
theorem inside_ok (nm s : Txt) : ∀ t ∈ insideT nm s, ShapeOK t := by
  unfold insideT
  split
  · simp
  · rename_i h
    intro t ht
    simp only [List.mem_singleton] at ht
    subst ht
    refine text_ok ?_
    split
    · exact dec_ne h
    · exact h
theorem tag_ok {k : Int} {s : Txt} (hk : k = 1 ∨ k = 2) (hl : letterL s = true) : ∀ t ∈ (tagF k s).1, ShapeOK t := by
  unfold tagF
  cases ho : openedF s with
  | none => simp
  | some r =>
    obtain ⟨h1, h2, h3, h4, h5⟩ := opened_ok hl ho
    obtain ⟨t, q⟩ := r
    simp only at *
    split
    · intro x hx
      simp only [List.mem_singleton] at hx
      subst hx
      exact ⟨by simp, by simp, fun _ => ⟨h2, rfl⟩, by simp, by simp, by simp, attrs0⟩
    · rename_i hk2
      have hk1 : k = 1 := by omega
      subst hk1
      have h0 : ShapeOK ⟨1, t.name, t.attrs, t.data, t.self⟩ := ⟨by simp, by simp, fun _ => ⟨h2, h4⟩, by simp, by simp, by simp, h5⟩
      split
      · intro x hx
        rw [List.mem_cons] at hx
        rcases hx with rfl | hx
        · exact h0
        · exact inside_ok _ _ x hx
      · intro x hx
        simp only [List.mem_singleton] at hx
        subst hx
        exact h0
theorem note_ok {k : Int} {d : Txt} (hk : k = 3 ∨ k = 4) : ShapeOK ⟨k, [], [], d, false⟩ := by
  rcases hk with rfl | rfl <;> exact ⟨by simp, by simp, by simp, by simp, by simp, by simp, attrs0⟩
theorem noteF_ok {k : Int} (s e : Txt) (hk : k = 3 ∨ k = 4) : ∀ t ∈ (noteF k s e).1, ShapeOK t := by
  intro t ht
  unfold noteF at ht
  simp only [List.mem_singleton] at ht
  subst ht
  exact note_ok hk
theorem comment_ok (s : Txt) : ∀ t ∈ (commentF s).1, ShapeOK t := by
  have h3 : ShapeOK ⟨3, [], [], [], false⟩ := note_ok (.inl rfl)
  unfold commentF
  split
  · simpa using h3
  · split
    · simpa using h3
    · exact noteF_ok _ _ (.inl rfl)
theorem open_ok {s : Txt} {r : List Tok × Txt} (h : openF s = some r) : ∀ t ∈ r.1, ShapeOK t := by
  unfold openF at h
  split at h
  · rename_i hl
    simp at h; subst h; exact tag_ok (.inl rfl) hl
  · split at h
    · rename_i hl
      rw [Bool.and_eq_true] at hl
      simp at h; subst h; exact tag_ok (.inr rfl) hl.2
    · split at h
      · simp at h; subst h; simp
      · split at h
        · simp at h; subst h; exact comment_ok _
        · split at h
          · simp at h; subst h; exact noteF_ok _ _ (.inr rfl)
          · split at h
            · simp at h; subst h; exact noteF_ok _ _ (.inl rfl)
            · split at h
              · simp at h; subst h; exact noteF_ok _ _ (.inl rfl)
              · split at h
                · simp at h; subst h; exact noteF_ok _ _ (.inl rfl)
                · simp at h
theorem tell_ok (t : Txt) : ∀ x ∈ tellF t, ShapeOK x := by
  unfold tellF
  split
  · simp
  · rename_i h
    intro x hx
    simp only [List.mem_singleton] at hx
    subst hx
    exact text_ok (dec_ne h)
theorem runN_ok : ∀ (n : Nat) (t s : Txt), ∀ x ∈ runN n t s, ShapeOK x
  | 0, t, s, x, h => tell_ok t x h
  | n + 1, t, s, x, h => by
    unfold runN at h
    cases hd : s.drop (textF s) with
    | nil => rw [hd] at h; exact tell_ok _ x h
    | cons c s1 =>
      rw [hd] at h
      simp only at h
      cases ho : openF s1 with
      | none => rw [ho] at h; exact runN_ok n _ _ x h
      | some r =>
        rw [ho] at h
        obtain ⟨ts, q⟩ := r
        simp only [List.mem_append] at h
        rcases h with (h | h) | h
        · exact tell_ok _ x h
        · exact open_ok ho x h
        · exact runN_ok n _ _ x h
theorem cut_ok (s : Txt) : ∀ x ∈ cutL s, ShapeOK x := runN_ok _ _ _
end Go.Proofs.YtcipgppjhhokbaaDoor
