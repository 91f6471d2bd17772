/- Plain: TokenComments: a comment's text without > comes back; a doctype's is no longer than it was. No program in sight. -/
import Derived.Test.YtcipgppjhhokbaaDoorTokR
set_option linter.unusedVariables false
namespace Go.Proofs.YtcipgppjhhokbaaDoor
open Go.Proofs

theorem cut1_gt {c : UInt8} {r : Txt} : ∀ {a : Txt}, c ∉ a → cut1 c (a ++ c :: r) = (a, r, true)
  | [], _ => by simp [cut1]
  | x :: a, h => by
    simp only [List.mem_cons, not_or] at h
    rw [List.cons_append, cut1, if_neg (fun e => h.1 e.symm), cut1_gt h.2]
theorem occ_get {X sub : Txt} {i : Nat} (h : Lib.occAt X sub i = true) (k : Nat) (hk : k < sub.length) : X[i + k]? = sub[k]? := by
  obtain ⟨t, ht⟩ := List.isPrefixOf_iff_prefix.1 h
  rw [← List.getElem?_drop, ← ht, List.getElem?_append_left hk]
theorem gt_get {Y : Txt} (h : (62 : UInt8) ∉ Y) {j : Nat} (hj : (Y ++ [62])[j]? = some 62) : j = Y.length := by
  rcases Nat.lt_trichotomy j Y.length with h1 | h1 | h1
  · rw [List.getElem?_append_left h1] at hj
    exact absurd (List.mem_of_getElem? hj) h
  · exact h1
  · rw [List.getElem?_eq_none (by simp; omega)] at hj
    simp at hj
theorem comment_law {s : Txt} (h : (62 : UInt8) ∉ s) : commentF (s ++ [45, 45, 62]) = ([⟨3, [], [], s, false⟩], []) := by
  have hY : (62 : UInt8) ∉ s ++ [45, 45] := by simp [h]
  have eX : s ++ [45, 45, 62] = (s ++ [45, 45]) ++ [62] := by simp
  have hl : (s ++ [45, 45]).length = s.length + 2 := by simp
  have n1 : Lib.hasPrefix (s ++ [45, 45, 62]) [62] = false := by
    cases hp : Lib.hasPrefix (s ++ [45, 45, 62]) [62] with
    | false => rfl
    | true =>
      have := occ_get (X := s ++ [45, 45, 62]) (sub := [62]) (i := 0) (hp) 0 (by simp)
      rw [eX] at this
      have := gt_get hY (this.trans rfl)
      omega
  have n2 : Lib.hasPrefix (s ++ [45, 45, 62]) [45, 62] = false := by
    cases hp : Lib.hasPrefix (s ++ [45, 45, 62]) [45, 62] with
    | false => rfl
    | true =>
      have := occ_get (X := s ++ [45, 45, 62]) (sub := [45, 62]) (i := 0) (hp) 1 (by simp)
      rw [eX] at this
      have := gt_get hY (this.trans rfl)
      omega
  have i1 : Lib.index (s ++ [45, 45, 62]) [45, 45, 62] = s.length := by
    refine Lib.index_hit (i := s.length) ?_ (by simp) (by simp [Lib.occAt])
    intro j hj
    cases hp : Lib.occAt (s ++ [45, 45, 62]) [45, 45, 62] j with
    | false => rfl
    | true =>
      have := occ_get hp 2 (by simp)
      rw [eX] at this
      have := gt_get hY (this.trans rfl)
      omega
  have i2 : Lib.index (s ++ [45, 45, 62]) [45, 45, 33, 62] = -1 := by
    refine Lib.index_past (i := s.length) (by simp) ?_ (by simp)
    intro j hj
    cases hp : Lib.occAt (s ++ [45, 45, 62]) [45, 45, 33, 62] j with
    | false => rfl
    | true =>
      have h3 := occ_get hp 3 (by simp)
      have h2 := occ_get hp 2 (by simp)
      rw [eX] at h3 h2
      have h3 := gt_get hY (h3.trans rfl)
      have : j + 2 = s.length + 1 := by omega
      rw [this] at h2
      simp at h2
  unfold commentF
  rw [n1, n2, i1, i2]
  simp only [Bool.false_eq_true, if_false]
  rw [if_neg (by omega)]
  simp [noteF, untilF, Lib.cut, i1]
theorem comments_cut {s : Txt} (h : (62 : UInt8) ∉ s) : cutL ([60, 33, 45, 45] ++ s ++ [45, 45, 62]) = [⟨3, [], [], s, false⟩] := by
  have ho : openF (33 :: 45 :: 45 :: (s ++ [45, 45, 62])) = some ([⟨3, [], [], s, false⟩], []) := by
    unfold openF
    rw [if_neg (by simp [letterL, letterB]), if_neg (by simp [Lib.hasPrefix]), if_neg (by simp [Lib.hasPrefix]), if_pos (by simp [Lib.hasPrefix])]
    simp [comment_law h]
  have e0 : [60, 33, 45, 45] ++ s ++ [45, 45, 62] = [] ++ 60 :: (33 :: 45 :: 45 :: (s ++ [45, 45, 62])) := by simp
  unfold cutL
  rw [e0, run_hit (by simp) ho, run_nil]
  simp [tellF]
theorem dropWhile_le {p : UInt8 → Bool} : ∀ l : Txt, (l.dropWhile p).length ≤ l.length
  | [] => by simp
  | c :: l => by
    have := dropWhile_le (p := p) l
    rw [List.dropWhile_cons]
    split
    · simp only [List.length_cons]; omega
    · exact Nat.le_refl _
theorem trim_le (s : Txt) : (trimL (32 :: s)).length ≤ s.length := by
  unfold trimL
  rw [List.dropWhile_cons, if_pos (by decide), List.length_reverse]
  have h1 := dropWhile_le (p := spaceB) (s.dropWhile spaceB).reverse
  have h2 := dropWhile_le (p := spaceB) s
  rw [List.length_reverse] at h1
  omega
theorem doctype_cut {s : Txt} (h : (62 : UInt8) ∉ s) : cutL ([60, 33, 100, 111, 99, 116, 121, 112, 101, 32] ++ s ++ [120, 62]) = [⟨4, [], [], trimL (32 :: (s ++ [120])), false⟩] := by
  have hc : Lib.cut (32 :: (s ++ [120, 62])) [62] = (32 :: (s ++ [120]), [], true) := by
    rw [cut_eq, show 32 :: (s ++ [120, 62]) = (32 :: (s ++ [120])) ++ 62 :: [] from by simp]
    exact cut1_gt (by simp [h])
  have ho : openF (33 :: 100 :: 111 :: 99 :: 116 :: 121 :: 112 :: 101 :: 32 :: (s ++ [120, 62])) = some ([⟨4, [], [], trimL (32 :: (s ++ [120])), false⟩], []) := by
    unfold openF
    rw [if_neg (by simp [letterL, letterB]), if_neg (by simp [Lib.hasPrefix]), if_neg (by simp [Lib.hasPrefix]), if_neg (by simp [Lib.hasPrefix]), if_pos (by simp [isDoctypeB, lowL, lowB, letterL, letterB])]
    simp [noteF, untilF, hc]
  have e0 : [60, 33, 100, 111, 99, 116, 121, 112, 101, 32] ++ s ++ [120, 62] = [] ++ 60 :: (33 :: 100 :: 111 :: 99 :: 116 :: 121 :: 112 :: 101 :: 32 :: (s ++ [120, 62])) := by simp
  unfold cutL
  rw [e0, run_hit (by simp) ho, run_nil]
  simp [tellF]
end Go.Proofs.YtcipgppjhhokbaaDoor
