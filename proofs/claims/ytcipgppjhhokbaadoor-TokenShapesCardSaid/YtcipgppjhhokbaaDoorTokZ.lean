/- Plain: how long what is written of the tokens of some bytes can be. No program in sight. -/
import Derived.Test.YtcipgppjhhokbaaDoorTokA
set_option linter.unusedVariables false
namespace Go.Proofs.YtcipgppjhhokbaaDoor
open Go.Proofs

def wt (t : Tok) : Nat := if t.kind = 0 then 6 * t.data.length else (tokW false t).length
def wts (l : List Tok) : Nat := (l.map wt).sum
theorem wts_app (a b : List Tok) : wts (a ++ b) = wts a + wts b := by simp [wts]
theorem wts_nil : wts [] = 0 := rfl
theorem wts_one (t : Tok) : wts [t] = wt t := by simp [wts]
theorem wts_cons (t : Tok) (l : List Tok) : wts (t :: l) = wt t + wts l := by simp [wts]
theorem tokW_le (raw : Bool) (t : Tok) : (tokW raw t).length ≤ wt t := by
  unfold wt
  by_cases h : t.kind = 0
  · rw [if_pos h]
    have := wr_len false t.data
    cases raw with
    | true =>
      rw [show tokW true t = t.data from by simp [tokW, h]]
      omega
    | false =>
      rw [show tokW false t = wrL false t.data from by simp [tokW, h]]
      exact this
  · rw [if_neg h, show tokW raw t = tokW false t from by simp [tokW, h]]
    exact Nat.le_refl _
theorem writeN_le : ∀ (l : List Tok) (raw : Bool), (writeN raw l).length ≤ wts l
  | [], _ => by simp [writeN]
  | t :: r, raw => by
    have h1 := tokW_le raw t
    have h2 := writeN_le r (rawT t)
    rw [writeN, wts_cons, List.length_append]
    omega

theorem decL_le (l : Txt) : (decL l).length ≤ l.length := decL_len _ l (Nat.le_refl _)
theorem valF_len (nm s : Txt) : (valF nm s).1.1 = nm ∧ (valF nm s).1.2.length + (valF nm s).2.1.length ≤ s.length := by
  unfold valF
  split
  · simp
  · rename_i q t
    split
    · have h1 := cut1_len q t
      have h2 := decL_le (cut1 q t).1
      refine ⟨rfl, ?_⟩
      simp only [List.length_cons]
      omega
    · have h2 := decL_le ((q :: t).take (wordK (q :: t)))
      refine ⟨rfl, ?_⟩
      simp only [List.length_take, List.length_drop] at *
      omega
theorem attrR_len (nm s : Txt) : (attrR nm s).1.1 = nm ∧ (attrR nm s).1.2.length + (attrR nm s).2.1.length ≤ s.length := by
  have h1 := skipS_le s
  unfold attrR
  split
  · simp
  · rename_i c t h
    rw [h] at h1
    simp only [List.length_cons] at h1
    split
    · have h2 := valF_len nm (skipS t)
      have h3 := skipS_le t
      refine ⟨h2.1, ?_⟩
      omega
    · simp
theorem attrF_len (s : Txt) : (attrF s).1.1.length + (attrF s).1.2.length + (attrF s).2.1.length ≤ s.length := by
  have h := attrR_len (lowL (s.take (attrK s))) (s.drop (attrK s))
  unfold attrF
  rw [h.1]
  have h2 := h.2
  simp only [lowL, List.length_map, List.length_take, List.length_drop] at *
  omega
theorem addA_len (acc : List (Txt × Txt)) (a : Txt × Txt) : (attrsW (addA acc a)).length ≤ (attrsW acc).length + 4 + a.1.length + 6 * a.2.length := by
  unfold addA
  split
  · omega
  · have e : attrsW (acc ++ [a]) = attrsW acc ++ attrsW [a] := by simp only [attrsW, List.flatMap_append]
    have h := wr_len true a.2
    rw [e, List.length_append]
    simp only [attrsW, List.flatMap_cons, List.flatMap_nil, List.append_nil, List.length_cons, List.length_append, List.length_nil]
    omega
theorem attrsN_len : ∀ (n : Nat) (acc : List (Txt × Txt)) (s : Txt) r, attrsN n acc s = some r → (attrsW r.1).length + 20 * (r.2.2.length + 1) ≤ (attrsW acc).length + 20 * s.length
  | 0, _, _, _, h => by simp [attrsN] at h
  | n + 1, acc, s, r, h => by
    unfold attrsN at h
    cases hd : s.drop (gapF s) with
    | nil => rw [hd] at h; simp at h
    | cons c s1 =>
      rw [hd] at h
      have hg := gap_head hd
      have h1 : s1.length + 1 ≤ s.length := by
        have := congrArg List.length hd
        simp at this
        omega
      simp only at h
      split at h
      · simp at h
        subst h
        simp only
        omega
      · rename_i hc
        split at h
        · have ih := attrsN_len n _ _ r h
          have h2 := addA_len acc (attrF (c :: s1)).1
          have h3 := attrF_len (c :: s1)
          have h4 := (attrF_name (s := s1) hg.1 hc).ne
          have h5 := List.length_pos_iff.2 h4
          simp only [List.length_cons] at h3
          omega
        · simp at h
theorem opened_len {s r : Txt} {t : Tok} (h : openedF s = some (t, r)) : t.name.length + (attrsW t.attrs).length + 20 * r.length + 20 ≤ 20 * s.length ∧ t.data = [] := by
  unfold openedF at h
  cases ha : attrsF [] (s.drop (s.findIdx slashedB)) with
  | none => rw [ha] at h; simp at h
  | some q =>
    rw [ha] at h
    simp at h
    have h2 := attrsN_len _ _ _ _ ha
    obtain ⟨rfl, rfl⟩ := h
    have hk : s.findIdx slashedB ≤ s.length := List.findIdx_le_length
    refine ⟨?_, rfl⟩
    simp only [lowL, List.length_map, List.length_take, List.length_drop, attrsW, List.flatMap_nil, List.length_nil] at *
    omega
theorem inside_len (nm s : Txt) : wts (insideT nm s) + 20 * (insideR nm s).length ≤ 20 * s.length := by
  have hl := endF_le nm s
  unfold insideT insideR
  rw [List.length_drop]
  split
  · rw [wts_nil]; omega
  · rw [wts_one, wt, if_pos rfl]
    have h2 := decL_le (s.take (endF nm s))
    rw [List.length_take] at h2
    split
    · simp only; omega
    · simp only [List.length_take]; omega
theorem wt_k1 (nm : Txt) (l : List (Txt × Txt)) (d : Txt) (b : Bool) : wt ⟨1, nm, l, d, b⟩ = (taggedW [60] ⟨1, nm, l, d, b⟩).length := rfl
theorem wt_k2 (nm : Txt) : wt ⟨2, nm, [], [], false⟩ = (taggedW [60, 47] ⟨0, nm, [], [], false⟩).length := rfl
theorem wt_k3 (d : Txt) : wt ⟨3, [], [], d, false⟩ = ([60, 33, 45, 45] ++ d ++ [45, 45, 62]).length := rfl
theorem wt_k4 (d : Txt) : wt ⟨4, [], [], d, false⟩ = ([60, 33, 100, 111, 99, 116, 121, 112, 101, 32] ++ d ++ [62]).length := rfl
theorem tag_len {k : Int} (hk : k = 1 ∨ k = 2) (s : Txt) : wts (tagF k s).1 + 20 * (tagF k s).2.length ≤ 20 * (s.length + 1) := by
  unfold tagF
  cases ho : openedF s with
  | none => simp [wts]
  | some x =>
    obtain ⟨t, r⟩ := x
    obtain ⟨h1, hd⟩ := opened_len ho
    have hs : (selfW t.self).length ≤ 2 := by unfold selfW; split <;> simp
    have w1 : wt ⟨1, t.name, t.attrs, t.data, t.self⟩ ≤ t.name.length + (attrsW t.attrs).length + 4 := by
      rw [wt_k1]
      simp only [taggedW, List.length_append, List.length_cons, List.length_nil]
      omega
    have w2 : wt ⟨2, t.name, [], [], false⟩ ≤ t.name.length + 4 := by
      rw [wt_k2]
      simp only [taggedW, attrsW, selfW, List.flatMap_nil, List.length_append, List.length_cons, List.length_nil, Bool.false_eq_true, if_false]
      omega
    simp only
    rcases hk with rfl | rfl
    · rw [if_neg (by decide)]
      split
      · have h2 := inside_len t.name r
        simp only [wts_cons]
        omega
      · rw [wts_one]
        simp only
        omega
    · rw [if_pos rfl, wts_one]
      simp only
      omega
theorem cut_sum (s e : Txt) : (Lib.cut s e).1.length + (Lib.cut s e).2.1.length ≤ s.length := by
  unfold Lib.cut
  split
  · simp
    omega
  · simp
theorem trim_len (s : Txt) : (trimL s).length ≤ s.length := by
  unfold trimL
  rw [List.length_reverse]
  have h1 := dropWhile_le (p := spaceB) (s.dropWhile spaceB).reverse
  have h2 := dropWhile_le (p := spaceB) s
  rw [List.length_reverse] at h1
  omega
theorem note_len {k : Int} (hk : k = 3 ∨ k = 4) (s e : Txt) : wts (noteF k s e).1 + 20 * (noteF k s e).2.length ≤ 20 * s.length + 11 := by
  have h := cut_sum s e
  have h2 := trim_len (Lib.cut s e).1
  unfold noteF untilF
  rw [wts_one]
  rcases hk with rfl | rfl
  · rw [wt_k3, if_neg (by decide)]
    simp only [List.length_append, List.length_cons, List.length_nil]
    omega
  · rw [wt_k4]
    simp only [if_true, List.length_append, List.length_cons, List.length_nil]
    omega
theorem comment_len (s : Txt) : wts (commentF s).1 + 20 * (commentF s).2.length ≤ 20 * s.length + 11 := by
  have w3 : wt ⟨3, [], [], [], false⟩ = 7 := by decide
  unfold commentF
  split
  · rw [wts_one, w3]; simp; omega
  · split
    · rw [wts_one, w3]; simp; omega
    · exact note_len (.inl rfl) _ _
theorem open_len {s r : Txt} {ts : List Tok} (h : openF s = some (ts, r)) : wts ts + 20 * r.length ≤ 20 * (s.length + 1) := by
  have hx : ∀ {x : List Tok × Txt} {n : Nat}, some x = some (ts, r) → wts x.1 + 20 * x.2.length ≤ n → wts ts + 20 * r.length ≤ n := by
    intro x n e hn
    simp only [Option.some.injEq] at e
    rw [e] at hn
    exact hn
  unfold openF at h
  split at h
  · exact hx h (tag_len (.inl rfl) s)
  · split at h
    · have := tag_len (.inr rfl) s.tail
      rw [List.length_tail] at this
      exact hx h (by omega)
    · split at h
      · exact hx h (by simp [wts]; omega)
      · split at h
        · have := comment_len (s.drop 3)
          rw [List.length_drop] at this
          exact hx h (by omega)
        · split at h
          · have := note_len (.inr rfl) (s.drop 8) [62]
            rw [List.length_drop] at this
            exact hx h (by omega)
          · split at h
            · have := note_len (.inl rfl) s.tail [62]
              rw [List.length_tail] at this
              exact hx h (by omega)
            · split at h
              · have := note_len (.inl rfl) s [62]
                exact hx h (by omega)
              · split at h
                · have := note_len (.inl rfl) s.tail [62]
                  rw [List.length_tail] at this
                  exact hx h (by omega)
                · simp at h
theorem tell_len (t : Txt) : wts (tellF t) ≤ 20 * t.length := by
  unfold tellF
  split
  · simp [wts]
  · have := decL_le t
    rw [wts_one, wt, if_pos rfl]
    simp only
    omega
theorem runN_len : ∀ (n : Nat) (t s : Txt), wts (runN n t s) ≤ 20 * (t.length + s.length)
  | 0, t, s => by
    have := tell_len t
    rw [runN]
    omega
  | n + 1, t, s => by
    have ht := tell_len (t ++ s.take (textF s))
    have hf : textF s ≤ s.length := List.findIdx_le_length
    rw [List.length_append, List.length_take] at ht
    unfold runN
    cases hd : s.drop (textF s) with
    | nil =>
      simp only
      omega
    | cons c s1 =>
      have h1 : textF s + (s1.length + 1) = s.length := by
        have := congrArg List.length hd
        simp at this
        omega
      simp only
      cases ho : openF s1 with
      | none =>
        have := runN_len n (t ++ s.take (textF s) ++ [60]) s1
        simp only [List.length_append, List.length_take, List.length_cons, List.length_nil] at this
        simp only
        omega
      | some x =>
        obtain ⟨ts, r⟩ := x
        have h2 := open_len ho
        have h3 := runN_len n [] r
        simp only [List.length_nil] at h3
        simp only
        rw [wts_app, wts_app]
        omega
theorem write_cut_len (s : Txt) : (writeL (cutL s)).length ≤ 20 * s.length := by
  have h1 := writeN_le (cutL s) false
  have h2 := runN_len (s.length + 1) [] s
  unfold writeL
  unfold cutL runF at *
  simp only [List.length_nil] at h2
  omega
end Go.Proofs.YtcipgppjhhokbaaDoor
