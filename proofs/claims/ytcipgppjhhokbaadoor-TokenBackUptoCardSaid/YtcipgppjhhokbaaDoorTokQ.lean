/- Plain: the cutting of bytes to tokens ends: the fuel does not count; the rest is no longer than what was. No program in sight. -/
import Derived.Test.YtcipgppjhhokbaaDoorTokP
set_option linter.unusedVariables false
namespace Go.Proofs.YtcipgppjhhokbaaDoor
open Go.Proofs

theorem cut1_le (c : UInt8) (l : Txt) : (cut1 c l).2.1.length ≤ l.length := by
  have := cut1_len c l
  omega
theorem skipS_le (s : Txt) : (skipS s).length ≤ s.length := by
  unfold skipS
  simp
theorem valF_le (nm s : Txt) : (valF nm s).2.1.length ≤ s.length := by
  unfold valF
  split
  · simp
  · rename_i q t
    split
    · have := cut1_le q t
      simp only [List.length_cons]
      omega
    · simp only [List.length_drop]
      omega
theorem attrR_le (nm s : Txt) : (attrR nm s).2.1.length ≤ s.length := by
  have h1 := skipS_le s
  unfold attrR
  split
  · simp
  · rename_i c t h
    rw [h] at h1
    simp only [List.length_cons] at h1
    split
    · have h2 := valF_le nm (skipS t)
      have h3 := skipS_le t
      omega
    · simp
theorem attrF_lt (c : UInt8) (s : Txt) : (attrF (c :: s)).2.1.length ≤ s.length := by
  have h := attrR_le (lowL ((c :: s).take (attrK (c :: s)))) ((c :: s).drop (attrK (c :: s)))
  have : 1 ≤ attrK (c :: s) := by unfold attrK; omega
  unfold attrF
  simp only [List.length_drop, List.length_cons] at h
  omega

theorem attrsN_fuel : ∀ (n m : Nat) (acc : List (Txt × Txt)) (s : Txt), s.length < n → s.length < m → attrsN n acc s = attrsN m acc s
  | 0, _, _, _, h, _ => absurd h (Nat.not_lt_zero _)
  | _, 0, _, _, _, h => absurd h (Nat.not_lt_zero _)
  | n + 1, m + 1, acc, s, hn, hm => by
    unfold attrsN
    cases h : s.drop (gapF s) with
    | nil => rfl
    | cons c s1 =>
      have h1 : s1.length < s.length := by
        have := congrArg List.length h
        simp at this
        omega
      have h2 := attrF_lt c s1
      simp only
      split
      · rfl
      · split
        · exact attrsN_fuel n m _ _ (by omega) (by omega)
        · rfl
theorem attrsF_eq (acc : List (Txt × Txt)) (s : Txt) : attrsF acc s = match s.drop (gapF s) with
    | [] => none
    | c :: s1 => if c = 62 then some (acc, slashF s, s1) else if (attrF (c :: s1)).2.2 then attrsF (addA acc (attrF (c :: s1)).1) (attrF (c :: s1)).2.1 else none := by
  unfold attrsF
  rw [attrsN]
  cases h : s.drop (gapF s) with
  | nil => rfl
  | cons c s1 =>
    have h1 : s1.length < s.length := by
      have := congrArg List.length h
      simp at this
      omega
    have h2 := attrF_lt c s1
    simp only
    split
    · rfl
    · split
      · exact attrsN_fuel _ _ _ _ (by omega) (by omega)
      · rfl
theorem attrsN_le : ∀ (n : Nat) (acc : List (Txt × Txt)) (s : Txt) r, attrsN n acc s = some r → r.2.2.length ≤ s.length
  | 0, _, _, _, h => by simp [attrsN] at h
  | n + 1, acc, s, r, h => by
    unfold attrsN at h
    cases hd : s.drop (gapF s) with
    | nil => rw [hd] at h; simp at h
    | cons c s1 =>
      rw [hd] at h
      have h1 : s1.length < s.length := by
        have := congrArg List.length hd
        simp at this
        omega
      have h2 := attrF_lt c s1
      simp only at h
      split at h
      · simp at h
        subst h
        simp only
        omega
      · split at h
        · have := attrsN_le n _ _ r h
          omega
        · simp at h
theorem openedF_le {s : Txt} {r : Tok × Txt} (h : openedF s = some r) : r.2.length ≤ s.length := by
  unfold openedF at h
  cases ha : attrsF [] (s.drop (s.findIdx slashedB)) with
  | none => rw [ha] at h; simp at h
  | some q =>
    rw [ha] at h
    simp at h
    have := attrsN_le _ _ _ _ ha
    subst h
    simp only [List.length_drop] at *
    omega
theorem tagF_le (k : Int) (s : Txt) : (tagF k s).2.length ≤ s.length := by
  unfold tagF
  cases ho : openedF s with
  | none => simp
  | some r =>
    have := openedF_le ho
    simp only
    split
    · simpa using this
    · split
      · simp only [insideR, List.length_drop]
        omega
      · simpa using this
theorem cut_le (s e : Txt) : (Lib.cut s e).2.1.length ≤ s.length := by
  unfold Lib.cut
  split
  · simp
  · simp
theorem noteF_le (k : Int) (s e : Txt) : (noteF k s e).2.length ≤ s.length := cut_le s e
theorem commentF_le (s : Txt) : (commentF s).2.length ≤ s.length := by
  unfold commentF
  split
  · simp
  · split
    · simp
    · exact noteF_le _ _ _
theorem openF_le {s : Txt} {r : List Tok × Txt} (h : openF s = some r) : r.2.length ≤ s.length := by
  unfold openF at h
  have hd : ∀ n, (s.drop n).length ≤ s.length := by simp
  have ht : s.tail.length ≤ s.length := by simp
  split at h
  · simp at h; subst h; exact tagF_le _ _
  · split at h
    · simp at h; subst h; exact Nat.le_trans (tagF_le _ _) ht
    · split at h
      · simp at h; subst h; exact hd 2
      · split at h
        · simp at h; subst h; exact Nat.le_trans (commentF_le _) (hd 3)
        · split at h
          · simp at h; subst h; exact Nat.le_trans (noteF_le _ _ _) (hd 8)
          · split at h
            · simp at h; subst h; exact Nat.le_trans (noteF_le _ _ _) ht
            · split at h
              · simp at h; subst h; exact noteF_le _ _ _
              · split at h
                · simp at h; subst h; exact Nat.le_trans (noteF_le _ _ _) ht
                · simp at h
theorem runN_fuel : ∀ (n m : Nat) (t s : Txt), s.length < n → s.length < m → runN n t s = runN m t s
  | 0, _, _, _, h, _ => absurd h (Nat.not_lt_zero _)
  | _, 0, _, _, _, h => absurd h (Nat.not_lt_zero _)
  | n + 1, m + 1, t, s, hn, hm => by
    unfold runN
    cases h : s.drop (textF s) with
    | nil => rfl
    | cons c s1 =>
      have h1 : s1.length < s.length := by
        have := congrArg List.length h
        simp at this
        omega
      simp only
      cases ho : openF s1 with
      | none => exact runN_fuel n m _ _ (by omega) (by omega)
      | some r =>
        have := openF_le ho
        obtain ⟨ts, r⟩ := r
        simp only at *
        rw [runN_fuel n m _ _ (by omega) (by omega)]
theorem runF_eq (t s : Txt) : runF t s = match s.drop (textF s) with
    | [] => tellF (t ++ s.take (textF s))
    | _ :: s1 =>
      match openF s1 with
      | none => runF (t ++ s.take (textF s) ++ [60]) s1
      | some (ts, r) => tellF (t ++ s.take (textF s)) ++ ts ++ runF [] r := by
  unfold runF
  rw [runN]
  cases h : s.drop (textF s) with
  | nil => rfl
  | cons c s1 =>
    have h1 : s1.length < s.length := by
      have := congrArg List.length h
      simp at this
      omega
    simp only
    cases ho : openF s1 with
    | none => exact runN_fuel _ _ _ _ (by omega) (by omega)
    | some r =>
      have := openF_le ho
      obtain ⟨ts, r⟩ := r
      simp only at *
      rw [runN_fuel s.length (r.length + 1) [] r (by omega) (by omega)]
end Go.Proofs.YtcipgppjhhokbaaDoor
