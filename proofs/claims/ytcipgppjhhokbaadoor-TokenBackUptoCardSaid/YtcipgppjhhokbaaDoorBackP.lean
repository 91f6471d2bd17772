/- Plain laws of what is written out: it is decoded to the text that was; nothing of it opens or closes a tag, or a value. No program in sight. -/
import Derived.Test.YtcipgppjhhokbaaDoorHasP
import Derived.Test.YtcipgppjhhokbaaDoorWrite
set_option linter.unusedVariables false
namespace Go.Proofs.YtcipgppjhhokbaaDoor
open Go.RowKit Go.Proofs

theorem cut1_at {c : UInt8} {a r : List UInt8} (h : c ∉ a) : cut1 c (a ++ c :: r) = (a, r, true) := by
  induction a with
  | nil => simp [cut1]
  | cons x a ih =>
    have hx : x ≠ c := fun e => h (by simp [e])
    rw [List.cons_append, cut1, if_neg hx, ih (fun e => h (by simp [e]))]
theorem decL_name {name t r : List UInt8} (h : (59 : UInt8) ∉ name) (hm : meantL name = (t, true)) : decL (38 :: (name ++ 59 :: r)) = t ++ decL r := by
  have e := cut1_at (r := r) h
  rw [decL_ref (by rw [e]) (by rw [e, hm]), e, hm]
theorem m_amp : meantL [97, 109, 112] = ([38], true) := by decide +kernel
theorem m_lt : meantL [108, 116] = ([60], true) := by decide +kernel
theorem m_gt : meantL [103, 116] = ([62], true) := by decide +kernel
theorem m_quot : meantL [113, 117, 111, 116] = ([34], true) := by decide +kernel
theorem m_nbsp : meantL [110, 98, 115, 112] = ([194, 160], true) := by decide +kernel
theorem dec_amp (r : List UInt8) : decL ([38, 97, 109, 112, 59] ++ r) = 38 :: decL r := decL_name (by decide) m_amp
theorem dec_lt (r : List UInt8) : decL ([38, 108, 116, 59] ++ r) = 60 :: decL r := decL_name (by decide) m_lt
theorem dec_gt (r : List UInt8) : decL ([38, 103, 116, 59] ++ r) = 62 :: decL r := decL_name (by decide) m_gt
theorem dec_quot (r : List UInt8) : decL ([38, 113, 117, 111, 116, 59] ++ r) = 34 :: decL r := decL_name (by decide) m_quot
theorem dec_nbsp (r : List UInt8) : decL ([38, 110, 98, 115, 112, 59] ++ r) = 194 :: 160 :: decL r := decL_name (by decide) m_nbsp
theorem dec_esc (q : Bool) (c : UInt8) (r : List UInt8) : decL (escL q c ++ r) = c :: decL r := by
  unfold escL
  split
  · rename_i h; rw [h, dec_amp]
  split
  · rename_i h; rw [h, dec_lt]
  split
  · rename_i h; rw [h, dec_gt]
  split
  · rename_i h; rw [h.1, dec_quot]
  · rename_i h _ _ _
    rw [List.singleton_append, decL_cons, if_neg h]
theorem dec_wr (q : Bool) : ∀ l, decL (wrL q l) = l
  | [] => by simp [wrL, decL_nil]
  | [c] => by
    rw [wrL]
    have := dec_esc q c []
    rwa [List.append_nil, decL_nil] at this
  | c :: d :: l => by
    rw [wrL]
    split
    · rename_i h
      rw [dec_nbsp, dec_wr q l, h.1, h.2]
    · rw [dec_esc, dec_wr q (d :: l)]

theorem hasL_append (a b : List UInt8) (c : Nat) : hasL (a ++ b) c = (hasL a c || hasL b c) := by simp [hasL]
theorem esc_no (q : Bool) (c : UInt8) (n : Nat) (hn : n = 60 ∨ n = 62 ∨ (n = 34 ∧ q = true)) : hasL (escL q c) n = false := by
  unfold escL
  split
  · rcases hn with rfl | rfl | ⟨rfl, _⟩ <;> decide
  split
  · rcases hn with rfl | rfl | ⟨rfl, _⟩ <;> decide
  split
  · rcases hn with rfl | rfl | ⟨rfl, _⟩ <;> decide
  split
  · rcases hn with rfl | rfl | ⟨rfl, _⟩ <;> decide
  · rename_i h1 h2 h3 h4
    simp only [hasL, List.any_cons, List.any_nil, Bool.or_false, beq_eq_false_iff_ne, ne_eq]
    intro e
    rcases hn with rfl | rfl | ⟨rfl, hq⟩
    · exact h2 (u8_eq (n := 60) e (by decide))
    · exact h3 (u8_eq (n := 62) e (by decide))
    · exact h4 ⟨u8_eq (n := 34) e (by decide), hq⟩
theorem wr_no (q : Bool) (n : Nat) (hn : n = 60 ∨ n = 62 ∨ (n = 34 ∧ q = true)) : ∀ l, hasL (wrL q l) n = false
  | [] => rfl
  | [c] => by rw [wrL]; exact esc_no q c n hn
  | c :: d :: l => by
    rw [wrL]
    split
    · rw [hasL_append, wr_no q n hn l]
      rcases hn with rfl | rfl | ⟨rfl, _⟩ <;> decide
    · rw [hasL_append, esc_no q c n hn, wr_no q n hn (d :: l)]
      rfl
theorem esc_len (q : Bool) (c : UInt8) : (escL q c).length ≤ 6 := by
  unfold escL
  repeat' split
  all_goals simp
theorem wr_len (q : Bool) : ∀ l, (wrL q l).length ≤ 6 * l.length
  | [] => by simp [wrL]
  | [c] => by rw [wrL]; have := esc_len q c; simp; omega
  | c :: d :: l => by
    rw [wrL]
    split
    · have := wr_len q l
      simp; omega
    · have := wr_len q (d :: l)
      have := esc_len q c
      simp at *; omega
end Go.Proofs.YtcipgppjhhokbaaDoor
