/- Lemmas and walks, part 19: InD, RTold, RHas, RSoft, RAlone, InE. -/
import Derived.Test.YtdnbaliibiginaaGreatDoorTIM17
import Derived.Test.YtdnbaliibiginaaGreatDoorTIM18
import Derived.Test.YtdnbaliibiginaaGreatDoorTIM12
import Derived.Test.YtdnbaliibiginaaGreatDoorTIM13
import Derived.Test.YtdnbaliibiginaaGreatDoorTIM5
import Derived.Deep.RegionHeld3
import Derived.Laws.Runes
import Derived.Deep.QuietTactic
import Derived.BigQuiet
set_option linter.unusedVariables false
set_option linter.unusedSimpArgs false

/- Plain: what the document's note and tag come to, in lists of bytes. No program in sight. -/
namespace Go.Proofs.YtdnbaliibiginaaGreatDoorH.TI
open Go.RowKit Go.Proofs Go.Proofs.YtdnbaliibiginaaGreatDoorH Go.Proofs.YtdnbaliibiginaaGreatDoor Go.Proofs.YtdnbaliibiginaaGreatDoorW.PrintWords Go.Proofs.YtdnbaliibiginaaGreatDoorW.PrintMore

def noteP (s : Txt) : Option (List Go.Proofs.YtdnbaliibiginaaGreatDoor.Tok × Txt) :=
  if Lib.hasPrefix s [33, 45, 45] then some (commentF (s.drop 3))
  else if isDoctypeB s then some (noteF 4 (s.drop 8) [62])
  else if Lib.hasPrefix s [33] then some (noteF 3 s.tail [62])
  else if decide (1 < s.length) && Lib.hasPrefix s [47] then some (noteF 3 s.tail [62])
  else if Lib.hasPrefix s [63] then some (noteF 3 s [62])
  else none
/-- What note comes to. -/
def NoteR (a : ByteArray) (i : Nat) (x : Option (Int × ByteArray × ByteArray × (List S40) × Bool × Int)) : Prop :=
  ∃ r1 r2 r3 r4 r5 r6, x = some (r1, r2, r3, r4, r5, r6) ∧
    ((noteP ((L a).drop (i + 1)) = none ∧ r6 = i) ∨ ∃ (en : Nat), r6 = en ∧ en ≤ (L a).length ∧ i < en ∧ noteP ((L a).drop (i + 1)) = some ([tokS ⟨r1, r2, r3, r4, r5⟩], (L a).drop en))
theorem pre_len {s t : Txt} (h : Lib.hasPrefix s t = true) : t.length ≤ s.length := (List.isPrefixOf_iff_prefix.1 h).length_le
theorem pre_cons (c : UInt8) (s t : Txt) : Lib.hasPrefix (c :: s) (c :: t) = Lib.hasPrefix s t := by simp [Lib.hasPrefix, List.isPrefixOf]
theorem note_j1 (a : ByteArray) (ha : (L a).length ≤ 1000000000) (i : Nat) (hi : i < (L a).length) (h60 : (L a)[i] = 60) (b : Bool) (k : Nat) (hk : (L a).length + 7 ≤ k)
    (hb : b = true → i + 2 ≤ (L a).length ∧ noteP ((L a).drop (i + 1)) = some (noteF 3 ((L a).drop (i + 2)) [62]))
    (hn : b = false → noteP ((L a).drop (i + 1)) = if Lib.hasPrefix ((L a).drop (i + 1)) [63] then some (noteF 3 ((L a).drop (i + 1)) [62]) else none) :
    NoteR a i (boltingref06_note.j1 k a i i b 3 (⟨#[]⟩ : ByteArray) (⟨#[]⟩ : ByteArray) false) := by
  have hl := L_len a
  obtain ⟨k, rfl⟩ : ∃ m, k = m + 1 := ⟨k - 1, by omega⟩
  have hat := at_f a (⟨#[60, 63]⟩ : ByteArray) i (by omega) ha (by decide)
  rw [show L (⟨#[60, 63]⟩ : ByteArray) = [60, 63] from rfl, drop_cons hi, h60, pre_cons] at hat
  simp only [boltingref06_note.j1]
  cases b with
  | true =>
    obtain ⟨h2, hP⟩ := hb rfl
    obtain ⟨en, g1, g2, g3, g4⟩ := other_f a ha (i + 2) h2 k (by omega)
    rw [if_pos rfl, w2 i (by omega), if_neg (by omega), g1, Option.bind_some]
    refine ⟨_, _, _, _, _, _, rfl, .inr ⟨en, rfl, g2, by omega, ?_⟩⟩
    rw [hP]
    unfold noteF
    rw [if_neg (by decide), g4]
    rfl
  | false =>
    have hP := hn rfl
    rw [if_neg (by simp), hat, Option.bind_some]
    cases h63 : Lib.hasPrefix ((L a).drop (i + 1)) [63] with
    | true =>
      rw [h63] at hP
      simp only [if_true] at hP
      obtain ⟨en, g1, g2, g3, g4⟩ := other_f a ha (i + 1) (by omega) k (by omega)
      rw [if_pos rfl, w1 i (by omega), if_neg (by omega), g1, Option.bind_some]
      refine ⟨_, _, _, _, _, _, rfl, .inr ⟨en, rfl, g2, by omega, ?_⟩⟩
      rw [hP]
      unfold noteF
      rw [if_neg (by decide), g4]
      rfl
    | false =>
      rw [h63] at hP
      simp only [Bool.false_eq_true, if_false] at hP
      rw [if_neg (by simp), if_pos trivial]
      exact ⟨_, _, _, _, _, _, rfl, .inl ⟨hP, rfl⟩⟩
theorem tail_drop1 (l : Txt) (i : Nat) : (l.drop (i + 1)).tail = l.drop (i + 2) := by rw [List.tail_drop]
theorem note_j0 (a : ByteArray) (ha : (L a).length ≤ 1000000000) (i : Nat) (hi : i < (L a).length) (h60 : (L a)[i] = 60) (k : Nat) (hk : 3 * (L a).length + 9 ≤ k)
    (h3 : Lib.hasPrefix ((L a).drop (i + 1)) [33, 45, 45] = false) :
    NoteR a i (boltingref06_note.j0 k a i (isDoctypeB ((L a).drop (i + 1))) 3 (⟨#[]⟩ : ByteArray) (⟨#[]⟩ : ByteArray) false) := by
  have hl := L_len a
  obtain ⟨k, rfl⟩ : ∃ m, k = m + 1 := ⟨k - 1, by omega⟩
  simp only [boltingref06_note.j0]
  have hP0 : noteP ((L a).drop (i + 1)) = if isDoctypeB ((L a).drop (i + 1)) then some (noteF 4 (((L a).drop (i + 1)).drop 8) [62])
      else if Lib.hasPrefix ((L a).drop (i + 1)) [33] then some (noteF 3 ((L a).drop (i + 1)).tail [62])
      else if decide (1 < ((L a).drop (i + 1)).length) && Lib.hasPrefix ((L a).drop (i + 1)) [47] then some (noteF 3 ((L a).drop (i + 1)).tail [62])
      else if Lib.hasPrefix ((L a).drop (i + 1)) [63] then some (noteF 3 ((L a).drop (i + 1)) [62]) else none := by
    unfold noteP
    rw [if_neg (by rw [h3]; simp)]
  cases hd : isDoctypeB ((L a).drop (i + 1)) with
  | true =>
    rw [hd] at hP0
    simp only [if_true] at hP0
    have h8 : i + 9 ≤ (L a).length := by
      unfold isDoctypeB at hd
      simp only [Bool.and_eq_true, decide_eq_true_eq, List.length_drop] at hd
      omega
    obtain ⟨en, g1, g2, g3, g4⟩ := other_f a ha (i + 9) h8 k (by omega)
    rw [if_pos rfl, w9 i (by omega), g1, Option.bind_some]
    have htl := L_mk (untilF ((L a).drop (i + 9)) [62]).1
    have hul : (untilF ((L a).drop (i + 9)) [62]).1.length ≤ (L a).length := by rw [until1]; simp; omega
    rw [trim_f _ (by rw [htl]; omega) k (by rw [htl]; omega), Option.bind_some]
    refine ⟨_, _, _, _, _, _, rfl, .inr ⟨en, rfl, g2, by omega, ?_⟩⟩
    rw [hP0]
    unfold noteF
    rw [if_pos rfl, List.drop_drop, g4]
    rfl
  | false =>
    rw [hd] at hP0
    simp only [Bool.false_eq_true, if_false] at hP0
    rw [if_neg (by simp)]
    have at1 := at_f a (⟨#[60, 33]⟩ : ByteArray) i (by omega) ha (by decide)
    rw [show L (⟨#[60, 33]⟩ : ByteArray) = [60, 33] from rfl, drop_cons hi, h60, pre_cons] at at1
    have at2 := at_f a (⟨#[60, 47]⟩ : ByteArray) i (by omega) ha (by decide)
    rw [show L (⟨#[60, 47]⟩ : ByteArray) = [60, 47] from rfl, drop_cons hi, h60, pre_cons] at at2
    rw [at1, Option.bind_some]
    cases h33 : Lib.hasPrefix ((L a).drop (i + 1)) [33] with
    | true =>
      rw [h33] at hP0
      simp only [if_true] at hP0
      rw [if_pos rfl]
      have := pre_len h33
      simp only [List.length_drop, List.length_cons, List.length_nil] at this
      exact note_j1 a ha i hi h60 true k (by omega) (fun _ => ⟨by omega, by rw [hP0, tail_drop1]⟩) (fun h => by cases h)
    | false =>
      rw [h33] at hP0
      simp only [Bool.false_eq_true, if_false] at hP0
      rw [if_neg (by simp), at2, Option.bind_some]
      cases h47 : Lib.hasPrefix ((L a).drop (i + 1)) [47] with
      | true =>
        have hlen := pre_len h47
        simp only [List.length_drop, List.length_cons, List.length_nil] at hlen
        have h63 : Lib.hasPrefix ((L a).drop (i + 1)) [63] = false := by
          rw [pre1] at *
          cases hh : ((L a).drop (i + 1)).head? with
          | none => rfl
          | some c =>
            rw [hh] at h47
            have : c = 47 := by simpa using h47
            subst this
            rfl
        rw [h47, h63] at hP0
        rw [if_pos rfl, w2 i (by omega)]
        simp only [Bool.and_true, List.length_drop] at hP0
        by_cases h2 : i + 2 < (L a).length
        · rw [if_pos (by rw [decide_eq_true_eq]; omega)] at hP0
          rw [decide_eq_true (by omega : ((i + 2 : Nat) : Int) < (a.size : Int))]
          exact note_j1 a ha i hi h60 true k (by omega) (fun _ => ⟨by omega, by rw [hP0, tail_drop1]⟩) (fun h => by cases h)
        · rw [if_neg (by rw [decide_eq_true_eq]; omega)] at hP0
          rw [decide_eq_false (by omega : ¬ ((i + 2 : Nat) : Int) < (a.size : Int))]
          exact note_j1 a ha i hi h60 false k (by omega) (fun h => by cases h) (fun _ => by rw [hP0, h63])
      | false =>
        rw [h47] at hP0
        simp only [Bool.and_false, Bool.false_eq_true, if_false] at hP0
        rw [if_neg (by simp)]
        exact note_j1 a ha i hi h60 false k (by omega) (fun h => by cases h) (fun _ => hP0)
theorem note_f (a : ByteArray) (ha : (L a).length ≤ 1000000000) (i : Nat) (hi : i < (L a).length) (h60 : (L a)[i] = 60) (k : Nat) (hk : 3 * (L a).length + 10 ≤ k) :
    NoteR a i (boltingref06_note.f k a i) := by
  have hl := L_len a
  have at1 := at_f a (⟨#[60, 33, 45, 45]⟩ : ByteArray) i (by omega) ha (by decide)
  rw [show L (⟨#[60, 33, 45, 45]⟩ : ByteArray) = [60, 33, 45, 45] from rfl, drop_cons hi, h60, pre_cons] at at1
  unfold boltingref06_note.f
  rw [at1, Option.bind_some]
  cases h3 : Lib.hasPrefix ((L a).drop (i + 1)) [33, 45, 45] with
  | true =>
    have hlen := pre_len h3
    simp only [List.length_drop, List.length_cons, List.length_nil] at hlen
    obtain ⟨d, en, g1, g2, g3, g4⟩ := comment_f a ha (i + 4) (by omega) k (by omega)
    rw [if_pos rfl, w4 i (by omega), g1, Option.bind_some]
    refine ⟨_, _, _, _, _, _, rfl, .inr ⟨en, rfl, g2, by omega, ?_⟩⟩
    unfold noteP
    rw [if_pos h3, List.drop_drop, g4]
    rfl
  | false =>
    rw [if_neg (by simp), w9 i (by omega)]
    have hj0 := note_j0 a ha i hi h60 k (by omega) h3
    by_cases h9 : i + 9 ≤ (L a).length
    · rw [if_pos (by omega), if_pos (by omega), if_pos (by omega)]
      simp only [Int.toNat_natCast]
      rw [lower_f _ (by rw [L_ext]; simp; omega), Option.bind_some, toList_L, L_mk, L_ext]
      have hlow : lowL (((L a).drop i).take (i + 9 - i)) = 60 :: lowL (((L a).drop (i + 1)).take 8) := by
        rw [Nat.add_sub_cancel_left, drop_cons hi, h60]
        rfl
      have hdt : isDoctypeB ((L a).drop (i + 1)) = ((lowL (((L a).drop (i + 1)).take 8) == [33, 100, 111, 99, 116, 121, 112, 101]) && !letterL ((L a).drop (i + 9))) := by
        unfold isDoctypeB
        rw [List.drop_drop]
        have : decide (8 ≤ ((L a).drop (i + 1)).length) = true := by rw [List.length_drop, decide_eq_true_eq]; omega
        rw [this, Bool.true_and]
      rw [hlow, letter_f a (i + 9) (by omega)]
      by_cases hq : lowL (((L a).drop (i + 1)).take 8) = [33, 100, 111, 99, 116, 121, 112, 101]
      · rw [hq, if_pos rfl, Option.bind_some]
        rw [hq] at hdt
        rw [hdt] at hj0
        simpa using hj0
      · have : (lowL (((L a).drop (i + 1)).take 8) == [33, 100, 111, 99, 116, 121, 112, 101]) = false := by simpa using hq
        rw [this, Bool.false_and] at hdt
        rw [hdt] at hj0
        rw [if_neg (by rw [List.cons.injEq]; exact fun h => hq h.2)]
        exact hj0
    · have hdt : isDoctypeB ((L a).drop (i + 1)) = false := by
        unfold isDoctypeB
        have : decide (8 ≤ ((L a).drop (i + 1)).length) = false := by rw [List.length_drop, decide_eq_false_iff_not]; omega
        rw [this]
        rfl
      rw [hdt] at hj0
      rw [if_neg (by omega)]
      exact hj0

theorem any_cons {α : Type} (p : α → Bool) (x : α) (l : List α) : (x :: l).any p = (p x || l.any p) := rfl
theorem bytes_eq (a b : ByteArray) : (a.toList = b.toList) ↔ (L a = L b) := by rw [toList_L, toList_L]
theorem known_f (l : List S40) (hl : l.length ≤ 1000000000) (nm : ByteArray) : ∀ (d i k : Nat), l.length - i ≤ d → i ≤ l.length → d < k →
    boltingref06_known.l0 k l nm i = some ((l.drop i).any (fun b => (pairS b).1 == L nm)) := by
  intro d
  induction d with
  | zero =>
    intro i k hd hi hk
    obtain ⟨k, rfl⟩ : ∃ m, k = m + 1 := ⟨k - 1, by omega⟩
    simp only [boltingref06_known.l0]
    rw [if_neg (by omega), List.drop_of_length_le (by omega)]
    rfl
  | succ d ih =>
    intro i k hd hi hk
    obtain ⟨k, rfl⟩ : ∃ m, k = m + 1 := ⟨k - 1, by omega⟩
    by_cases h : i < l.length
    · have er : rd_T40 l i = l[i] := by simp [rd_T40, h]
      simp only [boltingref06_known.l0]
      rw [if_pos (by omega), if_pos (by omega), er, List.drop_eq_getElem_cons h, any_cons, w1 i (by omega), ih (i + 1) k (by omega) (by omega) (by omega)]
      by_cases e : L l[i].f0 = L nm
      · rw [if_pos ((bytes_eq _ _).2 e)]
        have : ((pairS l[i]).1 == L nm) = true := by rw [beq_iff_eq]; exact e
        rw [this, Bool.true_or]
      · rw [if_neg (fun h => e ((bytes_eq _ _).1 h))]
        have : ((pairS l[i]).1 == L nm) = false := by rw [beq_eq_false_iff_ne]; exact e
        rw [this, Bool.false_or]
    · simp only [boltingref06_known.l0]
      rw [if_neg (by omega), List.drop_of_length_le (by omega)]
      rfl

theorem gap_skip (s : Txt) : s.drop (gapF s) = (skipS s).drop (gapF (skipS s)) ∧ slashF s = slashF (skipS s) := by
  induction s with
  | nil => exact ⟨rfl, rfl⟩
  | cons c s ih =>
    have hg : gapF (c :: s) = if !spaceB c && c != 47 then 0 else gapF s + 1 := by unfold gapF; rw [idx_cons]
    have hs : skipS (c :: s) = if spaceB c then skipS s else c :: s := by
      unfold skipS
      rw [idx_cons]
      cases spaceB c <;> simp
    cases hc : spaceB c with
    | true =>
      rw [hc] at hg hs
      simp only [Bool.not_true, Bool.false_and, Bool.false_eq_true, if_false, if_true] at hg hs
      have h47 : c ≠ 47 := by rintro rfl; revert hc; decide
      rw [hs]
      refine ⟨by rw [hg, List.drop_succ_cons]; exact ih.1, ?_⟩
      rw [← ih.2]
      unfold slashF
      rw [hg, Nat.add_sub_cancel]
      cases hgs : gapF s with
      | zero => simp [h47]
      | succ g => simp
    | false =>
      rw [hc] at hs
      simp only [Bool.false_eq_true, if_false] at hs
      rw [hs]
      exact ⟨rfl, rfl⟩
theorem attrsF_skip (acc : List (Txt × Txt)) (s : Txt) : attrsF acc s = attrsF acc (skipS s) := by
  rw [attrsF_eq, attrsF_eq, (gap_skip s).1, (gap_skip s).2]
theorem attrsF_same (acc : List (Txt × Txt)) {s t : Txt} (h : skipS s = skipS t) : attrsF acc s = attrsF acc t := by rw [attrsF_skip, h, ← attrsF_skip]

/-- What tag comes to from a place behind its name on. -/
def TagR (a : ByteArray) (nm : ByteArray) (acc : List S40) (p : Nat) (x : Option (Int × ByteArray × ByteArray × (List S40) × Bool × Int)) : Prop :=
  ∃ at' sf e, x = some (0, nm, (⟨#[]⟩ : ByteArray), at', sf, e) ∧
    ((attrsF (acc.map pairS) ((L a).drop p) = none ∧ ((L a).length : Int) < e) ∨ ∃ en : Nat, e = en ∧ en ≤ (L a).length ∧ attrsF (acc.map pairS) ((L a).drop p) = some (at'.map pairS, sf, (L a).drop en))
theorem tag_l2 (a : ByteArray) (ha : (L a).length ≤ 1000000000) (x8 : Int) (nm z : ByteArray) (acc : List S40) (sf : Bool) : ∀ (d j k : Nat), (L a).length - j ≤ d → j ≤ (L a).length → d + 1 ≤ k →
    ∃ k', k ≤ k' + gapF ((L a).drop j) + 1 ∧ boltingref06_tag.l2 k a j x8 0 nm z acc sf = boltingref06_tag.j4 k' a ((j + gapF ((L a).drop j) : Nat) : Int) x8 0 nm z acc sf := by
  have hl := L_len a
  intro d
  induction d with
  | zero =>
    intro j k hd hj hk
    obtain ⟨k, rfl⟩ : ∃ m, k = m + 1 := ⟨k - 1, by omega⟩
    refine ⟨k, by omega, ?_⟩
    simp only [boltingref06_tag.l2]
    rw [if_neg (by omega), List.drop_of_length_le (by omega)]
    rfl
  | succ d ih =>
    intro j k hd hj hk
    obtain ⟨k, rfl⟩ : ∃ m, k = m + 1 := ⟨k - 1, by omega⟩
    by_cases h : j < (L a).length
    · have hg : gapF ((L a).drop j) = if !spaceB (L a)[j] && (L a)[j] != 47 then 0 else gapF ((L a).drop (j + 1)) + 1 := by
        unfold gapF
        rw [drop_cons h, idx_cons]
      simp only [boltingref06_tag.l2]
      rw [if_pos (by omega), if_pos (by omega), bt_L a j h, space_f, Option.bind_some, hg]
      have next : ∃ k', k + 1 ≤ k' + (gapF ((L a).drop (j + 1)) + 1) + 1 ∧ boltingref06_tag.l2 k a (wrap64 ((j : Int) + 1)) x8 0 nm z acc sf = boltingref06_tag.j4 k' a ((j + (gapF ((L a).drop (j + 1)) + 1) : Nat) : Int) x8 0 nm z acc sf := by
        rw [w1 j (by omega)]
        obtain ⟨k', h1, h2⟩ := ih (j + 1) k (by omega) (by omega) (by omega)
        refine ⟨k', by omega, ?_⟩
        rw [h2, show j + 1 + gapF ((L a).drop (j + 1)) = j + (gapF ((L a).drop (j + 1)) + 1) from by omega]
      cases hs : spaceB (L a)[j] with
      | true =>
        simp only [if_true, Bool.not_true, Bool.false_and, Bool.false_eq_true, if_false]
        exact next
      | false =>
        simp only [Bool.false_eq_true, if_false, Bool.not_false, Bool.true_and]
        by_cases h47 : (L a)[j] = 47
        · have e1 : (((L a)[j]).toNat : Int) = 47 := by rw [h47]; rfl
          have e2 : ((L a)[j] != 47) = false := by simpa using h47
          rw [if_pos e1, e2]
          simp only [Bool.false_eq_true, if_false]
          exact next
        · have e1 : ¬ (((L a)[j]).toNat : Int) = 47 := fun h => h47 ((eqB _ 47).1 h)
          have e2 : ((L a)[j] != 47) = true := by simpa using h47
          rw [if_neg e1, e2]
          exact ⟨k, by omega, rfl⟩
    · refine ⟨k, by omega, ?_⟩
      simp only [boltingref06_tag.l2]
      rw [if_neg (by omega), List.drop_of_length_le (by omega)]
      rfl
theorem tag_l1 (a : ByteArray) (ha : (L a).length ≤ 1000000000) (nm : ByteArray) : ∀ (d p k : Nat) (acc : List S40), (L a).length - p ≤ d → p ≤ (L a).length → acc.length ≤ p → 4 * d + 4 * (L a).length + 40 ≤ k →
    TagR a nm acc p (boltingref06_tag.l1 k a p 0 nm (⟨#[]⟩ : ByteArray) acc false) := by
  have hl := L_len a
  have hw : wrap64 ((a.size : Int) + 1) = ((L a).length : Int) + 1 := by rw [hl]; exact w64 (by omega) (by omega)
  intro d
  induction d using Nat.strongRecOn with
  | _ d ih =>
  intro p k acc hd hp hacc hk
  obtain ⟨k, rfl⟩ : ∃ m, k = m + 1 := ⟨k - 1, by omega⟩
  simp only [boltingref06_tag.l1]
  obtain ⟨k', h1, h2⟩ := tag_l2 a ha (p : Int) nm (⟨#[]⟩ : ByteArray) acc false (L a).length p k (by omega) hp (by omega)
  rw [h2]
  clear h2
  have hgl : gapF ((L a).drop p) ≤ (L a).length - p := by
    have := idx_le (fun c => !spaceB c && c != 47) ((L a).drop p)
    rw [List.length_drop] at this
    exact this
  have hdd : ((L a).drop p).drop (gapF ((L a).drop p)) = (L a).drop (p + gapF ((L a).drop p)) := by rw [List.drop_drop]
  have hF := attrsF_eq (acc.map pairS) ((L a).drop p)
  rw [hdd] at hF
  have hsl : slashF ((L a).drop p) = (decide (0 < gapF ((L a).drop p)) && ((L a)[p + gapF ((L a).drop p) - 1]? == some 47)) := by
    unfold slashF
    cases hg : gapF ((L a).drop p) with
    | zero => simp
    | succ g =>
      rw [List.getElem?_drop]
      simp only [Nat.add_sub_cancel]
      rw [show p + (g + 1) - 1 = p + g from by omega]
  generalize hgg : gapF ((L a).drop p) = g at *
  obtain ⟨k', rfl⟩ : ∃ m, k' = m + 1 := ⟨k' - 1, by omega⟩
  simp only [boltingref06_tag.j4]
  by_cases hend : p + g < (L a).length
  · rw [if_neg (by omega), if_pos (by omega), if_pos (by omega), bt_L a _ hend]
    rw [drop_cons hend] at hF
    simp only at hF
    by_cases h62 : (L a)[p + g] = 62
    · have e1 : (((L a)[p + g]).toNat : Int) = 62 := by rw [h62]; rfl
      rw [if_pos e1]
      rw [if_pos h62, hsl] at hF
      rw [w1 _ (by omega)]
      by_cases hg0 : 0 < g
      · rw [if_pos (by omega)]
        have hw2 : wrap64 (((p + g : Nat) : Int) - 1) = ((p + g - 1 : Nat) : Int) := by rw [w64 (by omega) (by omega)]; omega
        rw [hw2, if_pos (by omega), if_pos (by omega), bt_L a _ (by omega)]
        refine ⟨_, _, _, rfl, .inr ⟨p + g + 1, rfl, by omega, ?_⟩⟩
        rw [hF]
        have : ((((L a)[p + g - 1]'(by omega)).toNat : Int) == 47) = (decide (0 < g) && ((L a)[p + g - 1]? == some 47)) := by
          rw [decide_eq_true hg0, Bool.true_and, List.getElem?_eq_getElem (by omega : p + g - 1 < (L a).length), Bool.eq_iff_iff, beq_iff_eq, beq_iff_eq, Option.some.injEq]
          exact eqB _ 47
        rw [this]
      · rw [if_neg (by omega)]
        refine ⟨_, _, _, rfl, .inr ⟨p + g + 1, rfl, by omega, ?_⟩⟩
        rw [hF, decide_eq_false hg0, Bool.false_and]
    · have e1 : ¬ (((L a)[p + g]).toNat : Int) = 62 := fun h => h62 ((eqB _ 62).1 h)
      rw [if_neg e1]
      rw [if_neg h62] at hF
      obtain ⟨v, e, hv, hok, hno⟩ := attr_f a ha (p + g) hend k' (by omega)
      rw [hv, Option.bind_some]
      rw [← drop_cons hend] at hF
      cases hr : (attrF ((L a).drop (p + g))).2.2 with
      | false =>
        rw [hr] at hF
        simp only [Bool.false_eq_true, if_false] at hF
        have he := hno hr
        simp only
        rw [if_pos (by omega)]
        exact ⟨_, _, _, rfl, .inl ⟨hF, by omega⟩⟩
      | true =>
        rw [hr] at hF
        simp only [if_true] at hF
        obtain ⟨hv2, en, he, hen, hgt, hsk⟩ := hok hr
        subst hv2
        simp only
        rw [he, if_neg (by omega)]
        have hkn := known_f acc (by omega) (⟨(attrF ((L a).drop (p + g))).1.1.toArray⟩ : ByteArray) acc.length 0 k' (by omega) (by omega) (by omega)
        rw [List.drop_zero] at hkn
        unfold boltingref06_known.f
        rw [show ((0 : Nat) : Int) = 0 from rfl] at hkn
        rw [hkn, Option.bind_some]
        have hadd : addA (acc.map pairS) (attrF ((L a).drop (p + g))).1 = if acc.any (fun b => (pairS b).1 == (attrF ((L a).drop (p + g))).1.1) then acc.map pairS else acc.map pairS ++ [(attrF ((L a).drop (p + g))).1] := by
          unfold addA
          rw [List.any_map]
          rfl
        have hsame : attrsF (addA (acc.map pairS) (attrF ((L a).drop (p + g))).1) (attrF ((L a).drop (p + g))).2.1 = attrsF (addA (acc.map pairS) (attrF ((L a).drop (p + g))).1) ((L a).drop en) := attrsF_same _ hsk.symm
        rw [hsame, hadd] at hF
        cases hany : acc.any (fun b => (pairS b).1 == (attrF ((L a).drop (p + g))).1.1) with
        | true =>
          rw [hany] at hF
          simp only [if_true] at hF
          rw [if_pos rfl]
          have := ih (d - g - 1) (by omega) en k' acc (by omega) hen (by omega) (by omega)
          unfold TagR at this ⊢
          rw [hF]
          exact this
        | false =>
          rw [hany] at hF
          simp only [Bool.false_eq_true, if_false] at hF
          rw [if_neg (by simp), if_pos (by omega)]
          have := ih (d - g - 1) (by omega) en k' (acc ++ [⟨⟨(attrF ((L a).drop (p + g))).1.1.toArray⟩, ⟨(attrF ((L a).drop (p + g))).1.2.toArray⟩⟩]) (by omega) hen (by simp; omega) (by omega)
          unfold TagR at this ⊢
          rw [hF]
          rw [List.map_append] at this
          exact this
  · rw [if_pos (by omega)]
    rw [List.drop_of_length_le (by omega : (L a).length ≤ p + g)] at hF
    simp only at hF
    rw [hw]
    exact ⟨_, _, _, rfl, .inl ⟨hF, by omega⟩⟩
/-- What tag comes to. -/
def TagF (a : ByteArray) (i : Nat) (x : Option (Int × ByteArray × ByteArray × (List S40) × Bool × Int)) : Prop :=
  ∃ nm at' sf e, x = some (0, nm, (⟨#[]⟩ : ByteArray), at', sf, e) ∧
    ((openedF ((L a).drop i) = none ∧ ((L a).length : Int) < e) ∨ ∃ en : Nat, e = en ∧ en ≤ (L a).length ∧ openedF ((L a).drop i) = some (tokS ⟨0, nm, (⟨#[]⟩ : ByteArray), at', sf⟩, (L a).drop en))
theorem tag_l0 (a : ByteArray) (ha : (L a).length ≤ 1000000000) (i : Nat) (M : Nat) : ∀ (d j k : Nat), (L a).length - j ≤ d → j ≤ (L a).length → d + M + 1 ≤ k →
    ∃ k', M ≤ k' ∧ boltingref06_tag.l0 k a i j = boltingref06_tag.j1 k' a i ((j + ((L a).drop j).findIdx slashedB : Nat) : Int) := by
  have hl := L_len a
  intro d
  induction d with
  | zero =>
    intro j k hd hj hk
    obtain ⟨k, rfl⟩ : ∃ m, k = m + 1 := ⟨k - 1, by omega⟩
    refine ⟨k, by omega, ?_⟩
    simp only [boltingref06_tag.l0]
    rw [if_neg (by omega), List.drop_of_length_le (by omega)]
    rfl
  | succ d ih =>
    intro j k hd hj hk
    obtain ⟨k, rfl⟩ : ∃ m, k = m + 1 := ⟨k - 1, by omega⟩
    by_cases h : j < (L a).length
    · simp only [boltingref06_tag.l0]
      rw [if_pos (by omega), if_pos (by omega), bt_L a j h, stops_f, Option.bind_some, drop_cons h, idx_cons]
      cases hs : slashedB (L a)[j] with
      | true => exact ⟨k, by omega, rfl⟩
      | false =>
        simp only [Bool.false_eq_true, if_false]
        rw [w1 j (by omega)]
        obtain ⟨k', h1, h2⟩ := ih (j + 1) k (by omega) (by omega) (by omega)
        refine ⟨k', h1, ?_⟩
        rw [h2, show j + 1 + ((L a).drop (j + 1)).findIdx slashedB = j + (((L a).drop (j + 1)).findIdx slashedB + 1) from by omega]
    · refine ⟨k, by omega, ?_⟩
      simp only [boltingref06_tag.l0]
      rw [if_neg (by omega), List.drop_of_length_le (by omega)]
      rfl
theorem tag_f (a : ByteArray) (ha : (L a).length ≤ 1000000000) (i : Nat) (hi : i ≤ (L a).length) (k : Nat) (hk : 9 * (L a).length + 50 ≤ k) : TagF a i (boltingref06_tag.f k a i) := by
  have hl := L_len a
  unfold boltingref06_tag.f
  obtain ⟨k', h1, h2⟩ := tag_l0 a ha i (8 * (L a).length + 45) (L a).length i k (by omega) hi (by omega)
  rw [h2]
  have hil := idx_le slashedB ((L a).drop i)
  rw [List.length_drop] at hil
  have hO : openedF ((L a).drop i) = (attrsF [] ((L a).drop (i + ((L a).drop i).findIdx slashedB))).map fun r => (⟨0, lowL (((L a).drop i).take (((L a).drop i).findIdx slashedB)), r.1, [], r.2.1⟩, r.2.2) := by
    unfold openedF
    rw [List.drop_drop]
  generalize ((L a).drop i).findIdx slashedB = g at *
  obtain ⟨k', rfl⟩ : ∃ m, k' = m + 1 := ⟨k' - 1, by omega⟩
  simp only [boltingref06_tag.j1]
  rw [if_pos (by omega), if_pos (by omega), if_pos (by omega)]
  simp only [Int.toNat_natCast]
  rw [ext_take, lower_f _ (by simp only [L, List.length_take, List.length_drop]; omega), Option.bind_some]
  obtain ⟨at', sf, e, hx, hcase⟩ := tag_l1 a ha (⟨(lowL (L ⟨(((L a).drop i).take g).toArray⟩)).toArray⟩ : ByteArray) (L a).length (i + g) k' [] (by omega) (by omega) (by simp) (by omega)
  rw [hx]
  refine ⟨_, _, _, _, rfl, ?_⟩
  rcases hcase with ⟨hn, he⟩ | ⟨en, he, hen, hsome⟩
  · left
    rw [hO, show attrsF [] ((L a).drop (i + g)) = none from hn]
    exact ⟨rfl, he⟩
  · right
    refine ⟨en, he, hen, ?_⟩
    rw [hO, show attrsF [] ((L a).drop (i + g)) = _ from hsome]
    rfl
end Go.Proofs.YtdnbaliibiginaaGreatDoorH.TI

/- Contract of boltingref06.told: the tokens with a text that was gone over. What lay below the caller's own blocks does not turn. -/
namespace Go.Proofs.YtdnbaliibiginaaGreatDoor
open Go.RowKit Go.Proofs

set_option maxHeartbeats 1000000 in
set_option maxRecDepth 100000 in
theorem told_c (base : Nat) (v : Value) (l : List Tok) (t : Txt) (ht : t.length ≤ 1000000000) (hl : l.length ≤ 10000000000) (w : World) (hT : Toks w base v l) (hb : base ≤ w.heap.size) :
    Calls Tryz.prog 42 #[v, .string ⟨t.toArray⟩] w fun e w' => ∃ v', e = .returned v' ∧ Toks w' base v' (l ++ tellF t) ∧ Below base w w' ∧ w.heap.size ≤ w'.heap.size ∧ (∀ (b : Nat) (o : Obj), w.heap[b]? = some o → some b ≠ v.ownBlock → w'.heap[b]? = some o) := by
  obtain ⟨ad, cp, rfl⟩ := hT.len
  cases t with
  | nil =>
    go_enter Tryz.func42, Tryz.ntmps42
    go_wp2
    go_ret
    exact ⟨_, rfl, by simpa [tellF] using hT, Below.refl _ _, Nat.le_refl _, fun _ _ h _ => h⟩
  | cons c r =>
    have hdc := Lib.hid (fun W => rdecode_c (c :: r) ht W)
    have htl : tellF (c :: r) = [⟨0, [], [], decL (c :: r), false⟩] := rfl
    rw [htl]
    generalize decL (c :: r) = u at *
    go_enter Tryz.func42, Tryz.ntmps42
    go_wp2_with (first
      | (go_at_call 81; ((with_reducible refine (hdc.out _).mono ?_); rintro e w2 ⟨rfl, hb2⟩; have hsz2 := hb2.size; have hT2 := hT.below hb2; obtain ⟨⟨k0, k1, k2, k3, k4⟩, k5⟩ := five_facts (new_cells w2 #[.int .i64 0, .string ⟨#[]⟩, .string ⟨u.toArray⟩, .slice none 0 0, .bool false] 59); have hT3 := hT2.alloc (.cells #[.int .i64 0, .string ⟨#[]⟩, .string ⟨u.toArray⟩, .slice none 0 0, .bool false] 59); have hB3 := (hb2.mono hb).alloc (by omega) (.cells #[.int .i64 0, .string ⟨#[]⟩, .string ⟨u.toArray⟩, .slice none 0 0, .bool false] 59); have hle3 : base ≤ (w2.alloc (.cells #[.int .i64 0, .string ⟨#[]⟩, .string ⟨u.toArray⟩, .slice none 0 0, .bool false] 59)).heap.size := (by rw [World.size_alloc]; omega)))
      | (at_builtin; refine app_tok rfl (.tmp 7) (.tmp 11) rfl base w2.heap.size (.slice ad l.length cp) (.slice none 0 0) l ⟨0, [], [], u, false⟩ rfl hT3 rfl k0 k1 k2 k3 k4 (Atts.nil _ _) (by omega) hle3 ?_; intro v5 w5 hT5 hg5 hb5 hk5))
    go_ret
    refine ⟨_, rfl, hT5, hB3.trans hb5, ?_, fun b o h hne => ?_⟩
    · have := hg5.size
      simp at this
      omega
    · have hbl := (Array.getElem?_eq_some_iff.1 h).1
      have h2 := (hb2.block b hbl).trans h
      have h3 : (w2.alloc (.cells #[.int .i64 0, .string ⟨#[]⟩, .string ⟨u.toArray⟩, .slice none 0 0, .bool false] 59)).heap[b]? = some o := (((Below.refl _ w2).alloc (Nat.le_refl _) (.cells #[.int .i64 0, .string ⟨#[]⟩, .string ⟨u.toArray⟩, .slice none 0 0, .bool false] 59)).block b (by omega)).trans h2
      exact (hg5.block b (Array.getElem?_eq_some_iff.1 h3).1 hne).trans h3
end Go.Proofs.YtdnbaliibiginaaGreatDoor

/- Contracts of the references' Has and of their list of elements with text as it stands. Nothing that lay in memory turns. -/
namespace Go.Proofs.YtdnbaliibiginaaGreatDoor
open Go.RowKit Go.Proofs

set_option maxHeartbeats 1000000 in
set_option maxRecDepth 100000 in
theorem rhas_c (b n : Nat) (L : List Txt) (l : Txt) (hn : n = L.length) (hN : n ≤ 1000000) (w : World) (ht : TextsAt b n L w) :
    Calls Tryz.prog 33 #[.slice (some ⟨b, 0, none⟩) n n, .string ⟨l.toArray⟩] w fun e w' => e = .returned (.bool (inB L l)) ∧ w = w' := by
  go_enter Tryz.func33, Tryz.ntmps33
  go_wp2
  go_loop [5] (fun v => ∃ (k : Nat), v = .int .i64 k ∧ k ≤ n ∧ Hid (∀ j, j < k → L.getD j [] ≠ l)) (fun v => n - (intOf v).toNat)
  case atStart => exact ⟨0, rfl, by omega, fun j h => by omega⟩
  case round =>
    obtain ⟨k, rfl, hk, hno⟩ := hrel
    by_cases hlt : k < n
    · have c1 := ht k hlt
      by_cases he : L.getD k [] = l
      · have hy := Lib.hid (among_yes (by omega) he)
        rw [he] at c1
        have hbe : (l == l) = true := by simp
        clear he
        go_wp2
        go_ret
        rw [hy.out]
        exact ⟨rfl, rfl⟩
      · have hno2 := Lib.hid (show ∀ j, j < k + 1 → L.getD j [] ≠ l by
          intro j hj
          by_cases e : j = k
          · subst e; exact he
          · exact hno.out j (by omega))
        have hbe : (L.getD k [] == l) = false := by simpa using he
        clear he
        generalize L.getD k [] = nm at *
        go_wp2
        refine ⟨⟨k + 1, rfl, by omega, hno2⟩, by simp [intOf]; omega⟩
    · have hm := Lib.hid (among_no (L := L) (l := l) fun k hk => hno.out k (by omega))
      go_wp2
      go_ret
      rw [hm.out]
      exact ⟨rfl, rfl⟩

def rawCells : Array Value := #[.string ⟨#[105, 102, 114, 97, 109, 101]⟩, .string ⟨#[110, 111, 101, 109, 98, 101, 100]⟩, .string ⟨#[110, 111, 102, 114, 97, 109, 101, 115]⟩, .string ⟨#[115, 99, 114, 105, 112, 116]⟩, .string ⟨#[115, 116, 121, 108, 101]⟩, .string ⟨#[120, 109, 112]⟩]
set_option maxRecDepth 100000 in
theorem rraw_c (w : World) : Calls Tryz.prog 78 #[] w fun e w' => ∃ b, e = .returned (.slice (some ⟨b, 0, none⟩) 6 6) ∧ TextsAt b 6 rawsL w' ∧ Below w.heap.size w w' := by
  go_enter Tryz.func78, Tryz.ntmps78
  go_wp2
  go_ret
  exact ⟨_, rfl, TextsAt.of (new_cells _ _ _) (by rfl) (by decide), (Below.refl _ w).alloc (Nat.le_refl _) _⟩
end Go.Proofs.YtdnbaliibiginaaGreatDoor

/- Contract of the reference's list of elements with text with references; names in both lists are small. Nothing that lay in memory turns. -/
namespace Go.Proofs.YtdnbaliibiginaaGreatDoor
open Go.RowKit Go.Proofs

set_option maxRecDepth 100000 in
theorem rsoft_c (w : World) : Calls Tryz.prog 79 #[] w fun e w' => ∃ b, e = .returned (.slice (some ⟨b, 0, none⟩) 2 2) ∧ TextsAt b 2 softsL w' ∧ Below w.heap.size w w' := by
  go_enter Tryz.func79, Tryz.ntmps79
  go_wp2
  go_ret
  exact ⟨_, rfl, TextsAt.of (new_cells _ _ _) (by rfl) (by decide), (Below.refl _ w).alloc (Nat.le_refl _) _⟩
theorem inB_all {L : List Txt} {p : Txt → Bool} (h : L.all p = true) {l : Txt} (hi : inB L l = true) : p l = true := by
  rw [List.all_eq_true] at h
  exact h l (by simpa [inB] using hi)
theorem raw_low {l : Txt} (h : rawB l = true) : lowL l = l := by
  have := inB_all (p := fun l => lowL l == l) (by decide +kernel) h
  simpa using this
theorem soft_low {l : Txt} (h : softB l = true) : lowL l = l := by
  have := inB_all (p := fun l => lowL l == l) (by decide +kernel) h
  simpa using this
theorem raw_soft {l : Txt} (h : rawB l = true) : softB l = false := by
  have := inB_all (p := fun l => softB l == false) (by decide +kernel) h
  simpa using this
end Go.Proofs.YtdnbaliibiginaaGreatDoor

/- Contract of boltingref06.alone. What lay below the caller's own blocks does not turn. -/
namespace Go.Proofs.YtdnbaliibiginaaGreatDoorH.TI
open Go.RowKit Go.Proofs Go.Proofs.YtdnbaliibiginaaGreatDoorH Go.Proofs.YtdnbaliibiginaaGreatDoor

theorem end_le (nm : Txt) : ∀ (s : Txt), endF nm s ≤ s.length
  | [] => by simp [endF]
  | c :: s => by
    have := end_le nm s
    unfold endF
    split <;> simp <;> omega
theorem inside_c2 (s nm : Txt) (i : Nat) (hs : s.length ≤ 900000000) (hn : nm.length ≤ 1000000000) (hi : i ≤ s.length) (hlow : lowL nm = nm) (w : World) :
    Calls Tryz.prog 80 #[.string ⟨s.toArray⟩, .int .i64 i, .string ⟨nm.toArray⟩] w fun e w' => e = .returned (.int .i64 ((i + endF nm (s.drop i) : Nat) : Int)) ∧ Below w.heap.size w w' :=
  boltingref06_inside.calls (s.length + 1) ⟨s.toArray⟩ i ⟨nm.toArray⟩ _ w (inside_f ⟨s.toArray⟩ ⟨nm.toArray⟩ (by show s.length ≤ _; omega) hn hlow s.length i (s.length + 1) (by show s.length - i ≤ _; omega) hi (by omega))

set_option maxHeartbeats 1000000 in
set_option maxRecDepth 100000 in
theorem alone_soft (base : Nat) (v : Value) (l : List Go.Proofs.YtdnbaliibiginaaGreatDoor.Tok) (s nm : Txt) (i : Nat) (hs : s.length ≤ 900000000) (hi : i ≤ s.length) (hl : l.length ≤ 10000000000) (w : World) (hT : Toks w base v l) (hb : base ≤ w.heap.size) (hr : rawB nm = false) (hsf : softB nm = true) :
    Calls Tryz.prog 39 #[v, .string ⟨s.toArray⟩, .int .i64 i, .string ⟨nm.toArray⟩] w fun e w' => ∃ v', e = .returned (.tuple #[v', .int .i64 ((i + endF nm (s.drop i) : Nat) : Int)]) ∧ Toks w' base v' (l ++ insideT nm (s.drop i)) ∧ Below base w w' ∧ w.heap.size ≤ w'.heap.size := by
  have hn : nm.length ≤ 1000000000 := short_of softs_short hsf
  obtain ⟨ad, cp, rfl⟩ := hT.len
  have hin := Lib.hid (fun W => inside_c2 s nm i hs hn hi (soft_low hsf) W)
  have hel := end_le nm (s.drop i)
  rw [List.length_drop] at hel
  have hraw := Lib.hid (fun b W h => rhas_c b 6 rawsL nm (by rfl) (by decide) W h)
  rw [show inB rawsL nm = false from hr] at hraw
  have hsof := Lib.hid (fun b W h => rhas_c b 2 softsL nm (by rfl) (by decide) W h)
  rw [show inB softsL nm = true from hsf] at hsof
  have hTT : insideT nm (s.drop i) = if (s.drop i).take (endF nm (s.drop i)) = [] then [] else [⟨0, [], [], decL ((s.drop i).take (endF nm (s.drop i))), false⟩] := by
    unfold insideT
    rw [hsf]
    rfl
  rw [hTT]
  clear hr hsf hTT
  generalize hE : i + endF nm (s.drop i) = E at *
  have hEn : endF nm (s.drop i) = E - i := by omega
  rw [hEn]
  have h1 : i ≤ E := by omega
  have h2 : E ≤ s.length := by omega
  clear hEn hE hel
  have h0I : (0 : Int) ≤ i := by omega
  have h1I : (i : Int) ≤ E := by omega
  have h2I : (E : Int) ≤ s.length := by omega
  have hext : (⟨s.toArray⟩ : ByteArray).extract i E = ⟨((s.drop i).take (E - i)).toArray⟩ := by rw [Lib.extract_eq, mk_data_list]
  have hlen : ((s.drop i).take (E - i)).length = E - i := by simp; omega
  generalize (s.drop i).take (E - i) = d at *
  have hdc := Lib.hid (fun W => rdecode_c d (by omega) W)
  generalize decL d = u at *
  by_cases hz : E = i
  · have hd0 : d = [] := List.eq_nil_of_length_eq_zero (by omega)
    rw [if_pos hd0, List.append_nil]
    clear hd0
    have hge : ¬ ((i : Int) < (E : Int)) := by omega
    clear hz
    go_enter Tryz.func39, Tryz.ntmps39
    go_wp2_with fail
    refine (rraw_c _).mono ?_
    rintro e w1 ⟨b1, rfl, hT1, hb1⟩
    go_wp2_with fail
    refine (hraw.out _ _ hT1).mono ?_
    rintro e w9 ⟨rfl, rfl⟩
    go_wp2_with fail
    refine (rsoft_c _).mono ?_
    rintro e w2 ⟨b2, rfl, hT2, hb2⟩
    go_wp2_with fail
    refine (hsof.out _ _ hT2).mono ?_
    rintro e w9 ⟨rfl, rfl⟩
    go_wp2_with fail
    refine (hin.out _).mono ?_
    rintro e w4 ⟨rfl, hb4⟩
    go_wp2_with fail
    refine (rsoft_c _).mono ?_
    rintro e w5 ⟨b5, rfl, hT5, hb5⟩
    go_wp2_with fail
    refine (hsof.out _ _ hT5).mono ?_
    rintro e w9 ⟨rfl, rfl⟩
    go_wp2_with fail
    refine (hdc.out _).mono ?_
    rintro e w6 ⟨rfl, hb6⟩
    have BX0 := hb1
    have BX1 := below_then BX0 (by have := BX0.size; omega) hb2
    have BX2 := below_then BX1 (by have := BX1.size; omega) hb4
    have BX3 := below_then BX2 (by have := BX2.size; omega) hb5
    have BX4 := below_then BX3 (by have := BX3.size; omega) hb6
    have BX := BX4
    have hzx := BX.size
    have hTx := hT.below BX
    go_wp2
    go_ret2
    exact ⟨_, rfl, hTx, BX.mono hb, hzx⟩
  · have hdn : d ≠ [] := by rintro rfl; simp at hlen; omega
    rw [if_neg hdn]
    clear hdn
    have hltI : (i : Int) < E := by omega
    go_enter Tryz.func39, Tryz.ntmps39
    go_wp2_with fail
    refine (rraw_c _).mono ?_
    rintro e w1 ⟨b1, rfl, hT1, hb1⟩
    go_wp2_with fail
    refine (hraw.out _ _ hT1).mono ?_
    rintro e w9 ⟨rfl, rfl⟩
    go_wp2_with fail
    refine (rsoft_c _).mono ?_
    rintro e w2 ⟨b2, rfl, hT2, hb2⟩
    go_wp2_with fail
    refine (hsof.out _ _ hT2).mono ?_
    rintro e w9 ⟨rfl, rfl⟩
    go_wp2_with fail
    refine (hin.out _).mono ?_
    rintro e w4 ⟨rfl, hb4⟩
    go_wp2_with fail
    refine (rsoft_c _).mono ?_
    rintro e w5 ⟨b5, rfl, hT5, hb5⟩
    go_wp2_with fail
    refine (hsof.out _ _ hT5).mono ?_
    rintro e w9 ⟨rfl, rfl⟩
    go_wp2_with fail
    refine (hdc.out _).mono ?_
    rintro e w6 ⟨rfl, hb6⟩
    have BX0 := hb1
    have BX1 := below_then BX0 (by have := BX0.size; omega) hb2
    have BX2 := below_then BX1 (by have := BX1.size; omega) hb4
    have BX3 := below_then BX2 (by have := BX2.size; omega) hb5
    have BX4 := below_then BX3 (by have := BX3.size; omega) hb6
    have BX := BX4
    have hzx := BX.size
    have hTx := hT.below BX
    obtain ⟨⟨k0, k1, k2, k3, k4⟩, k5⟩ := five_facts (new_cells w6 #[.int .i64 0, .string ⟨#[]⟩, .string ⟨u.toArray⟩, .slice none 0 0, .bool false] 59)
    have hT3 := hTx.alloc (.cells #[.int .i64 0, .string ⟨#[]⟩, .string ⟨u.toArray⟩, .slice none 0 0, .bool false] 59)
    have hB3 := (BX.mono hb).alloc (by omega) (.cells #[.int .i64 0, .string ⟨#[]⟩, .string ⟨u.toArray⟩, .slice none 0 0, .bool false] 59)
    have hle3 : base ≤ (w6.alloc (.cells #[.int .i64 0, .string ⟨#[]⟩, .string ⟨u.toArray⟩, .slice none 0 0, .bool false] 59)).heap.size := by rw [World.size_alloc]; omega
    go_wp2_with (at_builtin; refine app_tok rfl (.tmp 40) (.tmp 43) rfl base w6.heap.size (.slice ad l.length cp) (.slice none 0 0) l ⟨0, [], [], u, false⟩ rfl hT3 rfl k0 k1 k2 k3 k4 (Atts.nil _ _) (by omega) hle3 ?_; intro v7 w7 hT7 hg7 hb7 hk7)
    go_ret2
    refine ⟨_, rfl, hT7, hB3.trans hb7, ?_⟩
    have := hg7.size
    simp at this
    omega

set_option maxHeartbeats 1000000 in
set_option maxRecDepth 100000 in
theorem alone_raw (base : Nat) (v : Value) (l : List Go.Proofs.YtdnbaliibiginaaGreatDoor.Tok) (s nm : Txt) (i : Nat) (hs : s.length ≤ 900000000) (hi : i ≤ s.length) (hl : l.length ≤ 10000000000) (w : World) (hT : Toks w base v l) (hb : base ≤ w.heap.size) (hr : rawB nm = true) :
    Calls Tryz.prog 39 #[v, .string ⟨s.toArray⟩, .int .i64 i, .string ⟨nm.toArray⟩] w fun e w' => ∃ v', e = .returned (.tuple #[v', .int .i64 ((i + endF nm (s.drop i) : Nat) : Int)]) ∧ Toks w' base v' (l ++ insideT nm (s.drop i)) ∧ Below base w w' ∧ w.heap.size ≤ w'.heap.size := by
  have hn : nm.length ≤ 1000000000 := short_of raws_short hr
  obtain ⟨ad, cp, rfl⟩ := hT.len
  have hsf := raw_soft hr
  have hin := Lib.hid (fun W => inside_c2 s nm i hs hn hi (raw_low hr) W)
  have hel := end_le nm (s.drop i)
  rw [List.length_drop] at hel
  have hraw := Lib.hid (fun b W h => rhas_c b 6 rawsL nm (by rfl) (by decide) W h)
  rw [show inB rawsL nm = true from hr] at hraw
  have hsof := Lib.hid (fun b W h => rhas_c b 2 softsL nm (by rfl) (by decide) W h)
  rw [show inB softsL nm = false from hsf] at hsof
  have hTT : insideT nm (s.drop i) = if (s.drop i).take (endF nm (s.drop i)) = [] then [] else [⟨0, [], [], (s.drop i).take (endF nm (s.drop i)), false⟩] := by
    unfold insideT
    rw [hsf]
    rfl
  rw [hTT]
  clear hr hsf hTT
  generalize hE : i + endF nm (s.drop i) = E at *
  have hEn : endF nm (s.drop i) = E - i := by omega
  rw [hEn]
  have h1 : i ≤ E := by omega
  have h2 : E ≤ s.length := by omega
  clear hEn hE hel
  have h0I : (0 : Int) ≤ i := by omega
  have h1I : (i : Int) ≤ E := by omega
  have h2I : (E : Int) ≤ s.length := by omega
  have hext : (⟨s.toArray⟩ : ByteArray).extract i E = ⟨((s.drop i).take (E - i)).toArray⟩ := by rw [Lib.extract_eq, mk_data_list]
  have hlen : ((s.drop i).take (E - i)).length = E - i := by simp; omega
  generalize (s.drop i).take (E - i) = d at *
  by_cases hz : E = i
  · have hd0 : d = [] := List.eq_nil_of_length_eq_zero (by omega)
    rw [if_pos hd0, List.append_nil]
    clear hd0
    have hge : ¬ ((i : Int) < (E : Int)) := by omega
    clear hz
    go_enter Tryz.func39, Tryz.ntmps39
    go_wp2_with fail
    refine (rraw_c _).mono ?_
    rintro e w1 ⟨b1, rfl, hT1, hb1⟩
    go_wp2_with fail
    refine (hraw.out _ _ hT1).mono ?_
    rintro e w9 ⟨rfl, rfl⟩
    go_wp2_with fail
    refine (hin.out _).mono ?_
    rintro e w4 ⟨rfl, hb4⟩
    go_wp2_with fail
    refine (rsoft_c _).mono ?_
    rintro e w5 ⟨b5, rfl, hT5, hb5⟩
    go_wp2_with fail
    refine (hsof.out _ _ hT5).mono ?_
    rintro e w9 ⟨rfl, rfl⟩
    have BX0 := hb1
    have BX1 := below_then BX0 (by have := BX0.size; omega) hb4
    have BX2 := below_then BX1 (by have := BX1.size; omega) hb5
    have BX := BX2
    have hzx := BX.size
    have hTx := hT.below BX
    go_wp2
    go_ret2
    exact ⟨_, rfl, hTx, BX.mono hb, hzx⟩
  · have hdn : d ≠ [] := by rintro rfl; simp at hlen; omega
    rw [if_neg hdn]
    clear hdn
    have hltI : (i : Int) < E := by omega
    go_enter Tryz.func39, Tryz.ntmps39
    go_wp2_with fail
    refine (rraw_c _).mono ?_
    rintro e w1 ⟨b1, rfl, hT1, hb1⟩
    go_wp2_with fail
    refine (hraw.out _ _ hT1).mono ?_
    rintro e w9 ⟨rfl, rfl⟩
    go_wp2_with fail
    refine (hin.out _).mono ?_
    rintro e w4 ⟨rfl, hb4⟩
    go_wp2_with fail
    refine (rsoft_c _).mono ?_
    rintro e w5 ⟨b5, rfl, hT5, hb5⟩
    go_wp2_with fail
    refine (hsof.out _ _ hT5).mono ?_
    rintro e w9 ⟨rfl, rfl⟩
    have BX0 := hb1
    have BX1 := below_then BX0 (by have := BX0.size; omega) hb4
    have BX2 := below_then BX1 (by have := BX1.size; omega) hb5
    have BX := BX2
    have hzx := BX.size
    have hTx := hT.below BX
    obtain ⟨⟨k0, k1, k2, k3, k4⟩, k5⟩ := five_facts (new_cells w5 #[.int .i64 0, .string ⟨#[]⟩, .string ⟨d.toArray⟩, .slice none 0 0, .bool false] 59)
    have hT3 := hTx.alloc (.cells #[.int .i64 0, .string ⟨#[]⟩, .string ⟨d.toArray⟩, .slice none 0 0, .bool false] 59)
    have hB3 := (BX.mono hb).alloc (by omega) (.cells #[.int .i64 0, .string ⟨#[]⟩, .string ⟨d.toArray⟩, .slice none 0 0, .bool false] 59)
    have hle3 : base ≤ (w5.alloc (.cells #[.int .i64 0, .string ⟨#[]⟩, .string ⟨d.toArray⟩, .slice none 0 0, .bool false] 59)).heap.size := by rw [World.size_alloc]; omega
    go_wp2_with (at_builtin; refine app_tok rfl (.tmp 40) (.tmp 43) rfl base w5.heap.size (.slice ad l.length cp) (.slice none 0 0) l ⟨0, [], [], d, false⟩ rfl hT3 rfl k0 k1 k2 k3 k4 (Atts.nil _ _) (by omega) hle3 ?_; intro v7 w7 hT7 hg7 hb7 hk7)
    go_ret2
    refine ⟨_, rfl, hT7, hB3.trans hb7, ?_⟩
    have := hg7.size
    simp at this
    omega

set_option maxHeartbeats 1000000 in
set_option maxRecDepth 100000 in
theorem alone_none (base : Nat) (v : Value) (l : List Go.Proofs.YtdnbaliibiginaaGreatDoor.Tok) (s nm : Txt) (i : Nat) (w : World) (hT : Toks w base v l) (hb : base ≤ w.heap.size) (hr : rawB nm = false) (hsf : softB nm = false) :
    Calls Tryz.prog 39 #[v, .string ⟨s.toArray⟩, .int .i64 i, .string ⟨nm.toArray⟩] w fun e w' => e = .returned (.tuple #[v, .int .i64 (i : Int)]) ∧ Below w.heap.size w w' := by
  obtain ⟨ad, cp, rfl⟩ := hT.len
  have hraw := Lib.hid (fun b W h => rhas_c b 6 rawsL nm (by rfl) (by decide) W h)
  rw [show inB rawsL nm = false from hr] at hraw
  have hsof := Lib.hid (fun b W h => rhas_c b 2 softsL nm (by rfl) (by decide) W h)
  rw [show inB softsL nm = false from hsf] at hsof
  clear hr hsf
  go_enter Tryz.func39, Tryz.ntmps39
  go_wp2_with fail
  refine (rraw_c _).mono ?_
  rintro e w1 ⟨b1, rfl, hT1, hb1⟩
  go_wp2_with fail
  refine (hraw.out _ _ hT1).mono ?_
  rintro e w9 ⟨rfl, rfl⟩
  go_wp2_with fail
  refine (rsoft_c _).mono ?_
  rintro e w2 ⟨b2, rfl, hT2, hb2⟩
  go_wp2_with fail
  refine (hsof.out _ _ hT2).mono ?_
  rintro e w9 ⟨rfl, rfl⟩
  go_wp2
  go_ret2
  exact ⟨rfl, below_then hb1 hb1.size hb2⟩
theorem alone_c (base : Nat) (v : Value) (l : List Go.Proofs.YtdnbaliibiginaaGreatDoor.Tok) (s nm : Txt) (i : Nat) (hs : s.length ≤ 900000000) (hi : i ≤ s.length) (hl : l.length ≤ 10000000000) (w : World) (hT : Toks w base v l) (hb : base ≤ w.heap.size) :
    Calls Tryz.prog 39 #[v, .string ⟨s.toArray⟩, .int .i64 i, .string ⟨nm.toArray⟩] w fun e w' => ∃ v', e = .returned (.tuple #[v', .int .i64 ((if rawB nm || softB nm then i + endF nm (s.drop i) else i : Nat) : Int)]) ∧ Toks w' base v' (if rawB nm || softB nm then l ++ insideT nm (s.drop i) else l) ∧ Below base w w' ∧ w.heap.size ≤ w'.heap.size := by
  cases hr : rawB nm with
  | true => exact alone_raw base v l s nm i hs hi hl w hT hb hr
  | false =>
    cases hsf : softB nm with
    | true => exact alone_soft base v l s nm i hs hi hl w hT hb hr hsf
    | false => exact (alone_none base v l s nm i w hT hb hr hsf).mono fun e w' ⟨h1, h2⟩ => ⟨v, h1, hT.below h2, h2.mono hb, h2.size⟩
end Go.Proofs.YtdnbaliibiginaaGreatDoorH.TI

/- Plain: the cutting of bytes to tokens, byte by byte, as the document's In goes. No program in sight. -/
namespace Go.Proofs.YtdnbaliibiginaaGreatDoorH.TI
open Go.RowKit Go.Proofs Go.Proofs.YtdnbaliibiginaaGreatDoorH Go.Proofs.YtdnbaliibiginaaGreatDoor

theorem text_cons (c : UInt8) (r : Txt) : textF (c :: r) = if c == 60 then 0 else textF r + 1 := by unfold textF; rw [idx_cons]
theorem run_nil (t : Txt) : runF t [] = tellF t := by rw [runF_eq]; simp [textF]
theorem run_other (t : Txt) (c : UInt8) (r : Txt) (h : c ≠ 60) : runF t (c :: r) = runF (t ++ [c]) r := by
  have e : (c == 60) = false := by simpa using h
  rw [runF_eq, runF_eq (t ++ [c]) r, text_cons, e]
  simp only [Bool.false_eq_true, if_false, List.drop_succ_cons, List.take_succ_cons, List.append_assoc, List.singleton_append]
theorem run_open (t s : Txt) : runF t (60 :: s) = match openF s with
    | none => runF (t ++ [60]) s
    | some (ts, r) => tellF t ++ ts ++ runF [] r := by
  rw [runF_eq, text_cons]
  simp only [BEq.rfl, if_true, List.drop_zero, List.take_zero, List.append_nil]
  cases openF s <;> rfl
theorem open_start {s : Txt} (h : letterL s = true) : openF s = some (tagF 1 s) := by unfold openF; rw [if_pos h]
theorem open_end {s : Txt} (h : letterL s = false) (h2 : Lib.hasPrefix s [47] = true) (h3 : letterL s.tail = true) : openF s = some (tagF 2 s.tail) := by
  unfold openF
  rw [if_neg (by rw [h]; simp), if_pos (by rw [h2, h3]; rfl)]
theorem open_gone {s : Txt} (h : letterL s = false) (h2 : (Lib.hasPrefix s [47] && letterL s.tail) = false) (h3 : Lib.hasPrefix s [47, 62] = true) : openF s = some ([], s.drop 2) := by
  unfold openF
  rw [if_neg (by rw [h]; simp), if_neg (by rw [h2]; simp), if_pos h3]
theorem open_note {s : Txt} (h : letterL s = false) (h2 : (Lib.hasPrefix s [47] && letterL s.tail) = false) (h3 : Lib.hasPrefix s [47, 62] = false) : openF s = noteP s := by
  unfold openF noteP
  rw [if_neg (by rw [h]; simp), if_neg (by rw [h2]; simp), if_neg (by rw [h3]; simp)]
  cases h47 : Lib.hasPrefix s [47] with
  | true =>
    have h63 : Lib.hasPrefix s [63] = false := by
      rw [pre1] at *
      cases hh : s.head? with
      | none => rfl
      | some c =>
        rw [hh] at h47
        have : c = 47 := by simpa using h47
        subst this
        rfl
    rw [h63]
    simp
  | false => simp
theorem tag_none {k : Int} {s : Txt} (h : openedF s = none) : tagF k s = ([], []) := by unfold tagF; rw [h]
theorem tag_start {s r : Txt} {t : Go.Proofs.YtdnbaliibiginaaGreatDoor.Tok} (h : openedF s = some (t, r)) : tagF 1 s = (⟨1, t.name, t.attrs, t.data, t.self⟩ :: (if rawB t.name || softB t.name then insideT t.name r else []), if rawB t.name || softB t.name then insideR t.name r else r) := by
  unfold tagF
  rw [h]
  simp only
  rw [if_neg (by decide)]
  cases rawB t.name || softB t.name <;> simp
theorem tag_end {s r : Txt} {t : Go.Proofs.YtdnbaliibiginaaGreatDoor.Tok} (h : openedF s = some (t, r)) : tagF 2 s = ([⟨2, t.name, [], [], false⟩], r) := by
  unfold tagF
  rw [h]
  simp
/-- What is left to be told at a place. -/
def rest (s t : Txt) (i : Nat) : List Go.Proofs.YtdnbaliibiginaaGreatDoor.Tok := runF t (s.drop i)
theorem rest_end (s t : Txt) (i : Nat) (h : s.length ≤ i) : rest s t i = tellF t := by unfold rest; rw [List.drop_of_length_le h, run_nil]
theorem in_start (s nm : Txt) : inL s nm = (if rawB nm || softB nm then [] ++ insideT nm (s.drop 0) else []) ++ rest s [] (if rawB nm || softB nm then 0 + endF nm (s.drop 0) else 0) := by
  unfold inL rest insideR
  cases rawB nm || softB nm <;> simp
theorem rest_char {s t : Txt} {i : Nat} (h : i < s.length) (hc : s[i] ≠ 60) : rest s t i = rest s (t ++ [s[i]]) (i + 1) := by
  unfold rest
  rw [drop_cons h, run_other _ _ _ hc]
theorem rest_less {s t : Txt} {i : Nat} (h : i < s.length) (hc : s[i] = 60) : rest s t i = match openF (s.drop (i + 1)) with
    | none => rest s (t ++ [60]) (i + 1)
    | some (ts, r) => tellF t ++ ts ++ runF [] r := by
  unfold rest
  rw [drop_cons h, hc, run_open]
end Go.Proofs.YtdnbaliibiginaaGreatDoorH.TI
