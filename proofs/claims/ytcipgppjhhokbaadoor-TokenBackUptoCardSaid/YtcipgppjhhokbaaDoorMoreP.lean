/- Plain laws of decoding and writing out: lengths; a text without & or without ; is decoded as it stands; what is written out twice; a text behind another one. No program in sight. -/
import Derived.Test.YtcipgppjhhokbaaDoorBackP
set_option linter.unusedVariables false
namespace Go.Proofs.YtcipgppjhhokbaaDoor
open Go.RowKit Go.Proofs

theorem numberL_short {l : List UInt8} (h : l.length < 2) : numberL l = 0 := by
  unfold numberL
  repeat rw [if_neg (fun e => by rw [e] at h; simp at h)]
theorem numberL_len {l : List UInt8} (h : numberL l ≠ 0) : 2 ≤ l.length := by
  rcases Nat.lt_or_ge l.length 2 with e | e
  · exact absurd (numberL_short e) h
  · exact e
theorem digitsL_ne {b : Nat} {l : List UInt8} (h : digitsL b l = true) : 1 ≤ l.length := by
  unfold digitsL at h
  rw [Bool.and_eq_true] at h
  cases l with
  | nil => simp at h
  | cons c l => simp
theorem meantL_two {l : List UInt8} (h : (meantL l).2 = true) : 2 ≤ l.length := by
  unfold meantL at h
  split at h
  · unfold codedL at h
    split at h
    · rename_i hd
      have := digitsL_ne hd
      simp at this
      omega
    · cases h
  · split at h
    · unfold codedL at h
      split at h
      · rename_i hd
        have := digitsL_ne hd
        have := List.length_tail (l := l)
        omega
      · cases h
    · unfold namedL at h
      split at h
      · cases h
      · rename_i hn
        exact numberL_len hn
theorem decL_len : ∀ (n : Nat) (l : List UInt8), l.length ≤ n → (decL l).length ≤ l.length
  | 0, l, h => by
    have : l = [] := List.eq_nil_of_length_eq_zero (by omega)
    rw [this, decL_nil]
    exact Nat.le_refl _
  | n + 1, [], h => by rw [decL_nil]; exact Nat.le_refl _
  | n + 1, c :: l, h => by
    simp only [List.length_cons] at h
    rw [decL_cons]
    split
    · split
      · rename_i hm
        rw [Bool.and_eq_true] at hm
        have h1 := cut1_len 59 l
        rw [if_pos hm.1] at h1
        have h2 := meantL_two hm.2
        have h3 := meantL_len (cut1 59 l).1
        have h4 := decL_len n (cut1 59 l).2.1 (by omega)
        simp only [List.length_append, List.length_cons]
        omega
      · have := decL_len n l (by omega)
        simp only [List.length_cons]
        omega
    · have := decL_len n l (by omega)
      simp only [List.length_cons]
      omega
theorem hasL_mem {l : List UInt8} {c : UInt8} (h : hasL l c.toNat = false) : c ∉ l := by
  intro hm
  unfold hasL at h
  rw [List.any_eq_false] at h
  exact h c hm (by simp)
theorem decL_amp0 {l : List UInt8} (h : hasL l 38 = false) : decL l = l := decL_none (hasL_mem (c := 38) h)
theorem decL_semi0 : ∀ (l : List UInt8), (59 : UInt8) ∉ l → decL l = l
  | [], _ => decL_nil
  | c :: l, h => by
    have hl : (59 : UInt8) ∉ l := fun e => h (by simp [e])
    rw [decL_cons, decL_semi0 l hl]
    split
    · rename_i e
      have hf : (cut1 59 l).2.2 = false := by
        cases hx : (cut1 59 l).2.2 with
        | false => rfl
        | true => exact absurd (by rw [cut1_yes hx]; simp) hl
      rw [hf, e]
      rfl
    · rfl
theorem decL_semi {l : List UInt8} (h : hasL l 59 = false) : decL l = l := decL_semi0 l (hasL_mem (c := 59) h)

theorem wr_inj {q : Bool} {a b : List UInt8} (h : wrL q a = wrL q b) : a = b := by
  rw [← dec_wr q a, h, dec_wr]
theorem wr_twice (l : List UInt8) : (wrL false (wrL false l) = wrL false l) ↔ wrL false l = l := ⟨fun h => wr_inj h, fun h => by rw [h]; exact h⟩
theorem esc_len1 (q : Bool) (c : UInt8) : 1 ≤ (escL q c).length := by
  unfold escL
  repeat' split
  all_goals simp
theorem esc_len2 (c : UInt8) : (escL false c).length ≤ (escL true c).length := by
  by_cases h : c = 34
  · rw [h]; decide
  · unfold escL
    simp [h]
theorem wr_ge (q : Bool) : ∀ l, l.length ≤ (wrL q l).length
  | [] => by simp
  | [c] => by rw [wrL]; exact esc_len1 q c
  | c :: d :: l => by
    rw [wrL]
    split
    · have := wr_ge q l
      simp; omega
    · have := wr_ge q (d :: l)
      have := esc_len1 q c
      simp at *; omega
theorem wr_ge2 : ∀ l, (wrL false l).length ≤ (wrL true l).length
  | [] => by simp [wrL]
  | [c] => by rw [wrL, wrL]; exact esc_len2 c
  | c :: d :: l => by
    rw [wrL, wrL]
    split
    · have := wr_ge2 l
      simp; omega
    · have := wr_ge2 (d :: l)
      have := esc_len2 c
      simp only [List.length_append]; omega
theorem wr_quote : ∀ l, (34 : UInt8) ∉ l → wrL false l = wrL true l
  | [], _ => by simp [wrL]
  | [c], h => by
    have : c ≠ 34 := fun e => h (by simp [e])
    rw [wrL, wrL]; simp [escL, this]
  | c :: d :: l, h => by
    have hc : c ≠ 34 := fun e => h (by simp [e])
    have e1 := wr_quote l (fun e => h (by simp [e]))
    have e2 := wr_quote (d :: l) (fun e => h (by simp at e ⊢; rcases e with e | e <;> simp [e]))
    rw [wrL, wrL, e1, e2]
    simp [escL, hc]
theorem wr_app (q : Bool) (b : List UInt8) : ∀ a, (194 : UInt8) ∉ a → wrL q (a ++ b) = wrL q a ++ wrL q b
  | [], _ => by simp [wrL]
  | [c], h => by
    have hc : c ≠ 194 := fun e => h (by simp [e])
    cases b with
    | nil => simp [wrL]
    | cons d b =>
      simp [wrL, hc]
  | c :: d :: l, h => by
    have hc : c ≠ 194 := fun e => h (by simp [e])
    have e2 := wr_app q b (d :: l) (fun e => h (by simp at e ⊢; rcases e with e | e <;> simp [e]))
    rw [List.cons_append, List.cons_append, wrL, if_neg (fun e => hc e.1), wrL, if_neg (fun e => hc e.1)]
    rw [List.cons_append] at e2
    rw [e2, List.append_assoc]
end Go.Proofs.YtcipgppjhhokbaaDoor
