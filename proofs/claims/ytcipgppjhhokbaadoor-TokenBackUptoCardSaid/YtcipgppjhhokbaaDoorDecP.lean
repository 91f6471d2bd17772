/- Plain functions: a text cut at a byte; what stands between & and ;; a text with characters in the place of their references. No program in sight. -/
import Derived.Test.YtcipgppjhhokbaaDoorCoded
import Derived.Lib.IndexMore
import Derived.Laws.Cover4
set_option linter.unusedVariables false
namespace Go.Proofs.YtcipgppjhhokbaaDoor
open Go.RowKit Go.Proofs

def cut1 (c : UInt8) : List UInt8 → List UInt8 × List UInt8 × Bool
  | [] => ([], [], false)
  | x :: l => if x = c then ([], l, true) else (x :: (cut1 c l).1, (cut1 c l).2.1, (cut1 c l).2.2)
theorem cut_eq (c : UInt8) (l : List UInt8) : Lib.cut l [c] = cut1 c l := by
  induction l with
  | nil => rfl
  | cons x l ih =>
    unfold Lib.cut at ih ⊢
    unfold cut1 Lib.index
    by_cases h : x = c
    · subst h
      simp
    · have hp : List.isPrefixOf [c] (x :: l) = false := by simp [List.isPrefixOf, Ne.symm h]
      rw [hp, if_neg h, ← ih]
      have hge := Lib.index_ge l [c]
      by_cases h1 : Lib.index l [c] = -1
      · simp [h1]
      · have h2 : 0 ≤ Lib.index l [c] := by omega
        have h3 : (Lib.index l [c] + 1).toNat = (Lib.index l [c]).toNat + 1 := by omega
        have h4 : 0 ≤ Lib.index l [c] + 1 := by omega
        simp [h1, h2, h3, h4]
theorem cut1_len (c : UInt8) (l : List UInt8) : (cut1 c l).1.length + (cut1 c l).2.1.length + (if (cut1 c l).2.2 then 1 else 0) = l.length := by
  induction l with
  | nil => rfl
  | cons x l ih =>
    unfold cut1
    by_cases h : x = c
    · simp [h]
    · simp only [if_neg h, List.length_cons]
      omega
theorem cut1_yes {c : UInt8} {l : List UInt8} (h : (cut1 c l).2.2 = true) : l = (cut1 c l).1 ++ c :: (cut1 c l).2.1 := by
  induction l with
  | nil => cases h
  | cons x l ih =>
    unfold cut1 at h ⊢
    by_cases e : x = c
    · simp [e]
    · simp only [if_neg e] at h ⊢
      rw [List.cons_append, ← ih h]
theorem cut1_no {c : UInt8} {l : List UInt8} (h : (cut1 c l).2.2 = false) : (cut1 c l).1 = l ∧ c ∉ l := by
  induction l with
  | nil => exact ⟨rfl, by simp⟩
  | cons x l ih =>
    unfold cut1 at h ⊢
    by_cases e : x = c
    · simp [e] at h
    · simp only [if_neg e] at h ⊢
      exact ⟨by rw [(ih h).1], by simp [(ih h).2, Ne.symm e]⟩
theorem cut1_not (c : UInt8) (l : List UInt8) : c ∉ (cut1 c l).1 := by
  induction l with
  | nil => simp [cut1]
  | cons x l ih =>
    unfold cut1
    by_cases e : x = c
    · simp [e]
    · simp [if_neg e, ih, Ne.symm e]

def kindL (l : List UInt8) : Int := if Lib.hasPrefix l [35, 120] || Lib.hasPrefix l [35, 88] then 2 else if Lib.hasPrefix l [35] then 1 else 0
def meantL (l : List UInt8) : List UInt8 × Bool := if kindL l = 2 then codedL 16 (l.drop 2) else if kindL l = 1 then codedL 10 l.tail else namedL l
theorem enc_len (n : Int) : (Utf8.encode n).data.toList.length ≤ 4 := by
  have := encode_size_le n
  rwa [Lib.size_eq] at this
theorem meantL_len (l : List UInt8) : (meantL l).1.length ≤ 4 := by
  unfold meantL codedL namedL codeL
  repeat' split
  all_goals first | exact enc_len _ | simp

def decL : List UInt8 → List UInt8
  | [] => []
  | c :: l => if c = 38 then (if (cut1 59 l).2.2 && (meantL (cut1 59 l).1).2 then (meantL (cut1 59 l).1).1 ++ decL (cut1 59 l).2.1 else 38 :: decL l) else c :: decL l
termination_by l => l.length
decreasing_by
  all_goals simp only [List.length_cons]
  all_goals have := cut1_len 59 l
  all_goals omega
theorem decL_nil : decL [] = [] := by rw [decL]
theorem decL_cons (c : UInt8) (l : List UInt8) : decL (c :: l) = if c = 38 then (if (cut1 59 l).2.2 && (meantL (cut1 59 l).1).2 then (meantL (cut1 59 l).1).1 ++ decL (cut1 59 l).2.1 else 38 :: decL l) else c :: decL l := by rw [decL]
theorem decL_plain (a l : List UInt8) (h : (38 : UInt8) ∉ a) : decL (a ++ l) = a ++ decL l := by
  induction a with
  | nil => rfl
  | cons x a ih =>
    rw [List.cons_append, decL_cons, if_neg (fun e => h (by simp [e])), ih (fun e => h (by simp [e])), List.cons_append]
theorem decL_none {l : List UInt8} (h : (38 : UInt8) ∉ l) : decL l = l := by
  have := decL_plain l [] h
  simpa [decL_nil] using this
theorem decL_miss {l : List UInt8} (h : (cut1 38 l).2.2 = false) : decL l = (cut1 38 l).1 := by
  rw [(cut1_no h).1]
  exact decL_none (cut1_no h).2
theorem decL_hit {l : List UInt8} (h : (cut1 38 l).2.2 = true) : decL l = (cut1 38 l).1 ++ decL (38 :: (cut1 38 l).2.1) := by
  conv => lhs; rw [cut1_yes h]
  exact decL_plain _ _ (cut1_not 38 l)
theorem decL_ref {l : List UInt8} (h1 : (cut1 59 l).2.2 = true) (h2 : (meantL (cut1 59 l).1).2 = true) : decL (38 :: l) = (meantL (cut1 59 l).1).1 ++ decL (cut1 59 l).2.1 := by
  rw [decL_cons, if_pos rfl, h1, h2]; rfl
theorem decL_amp {l : List UInt8} (h : ((cut1 59 l).2.2 && (meantL (cut1 59 l).1).2) = false) : decL (38 :: l) = 38 :: decL l := by
  rw [decL_cons, if_pos rfl, h]; rfl
end Go.Proofs.YtcipgppjhhokbaaDoor
