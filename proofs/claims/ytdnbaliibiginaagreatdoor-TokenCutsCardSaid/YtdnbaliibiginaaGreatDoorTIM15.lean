/- Lemmas and walks, part 15: InA. -/
import Derived.Test.YtdnbaliibiginaaGreatDoorTIM13
import Derived.Test.YtdnbaliibiginaaGreatDoorTIM14
set_option linter.unusedVariables false
set_option linter.unusedSimpArgs false

/- Plain: what the document's at, letter, stops, spaces, find, inside come to, in lists of bytes. No program in sight. -/
namespace Go.Proofs.YtdnbaliibiginaaGreatDoorH.TI
open Go.RowKit Go.Proofs Go.Proofs.YtdnbaliibiginaaGreatDoorH Go.Proofs.YtdnbaliibiginaaGreatDoor Go.Proofs.YtdnbaliibiginaaGreatDoorW.PrintWords Go.Proofs.YtdnbaliibiginaaGreatDoorW.PrintMore

abbrev L (a : ByteArray) : Txt := a.data.toList
theorem L_len (a : ByteArray) : (L a).length = a.size := Array.length_toList
theorem bt_L (a : ByteArray) (i : Nat) (h : i < (L a).length) : bt a (i : Int) = (((L a)[i]).toNat : Int) := by
  rw [L_len] at h
  unfold bt
  rw [dif_pos (by simpa using h)]
  rfl
theorem L_ext (a : ByteArray) (i j : Nat) : L (a.extract i j) = ((L a).drop i).take (j - i) := by
  have : a = ⟨(L a).toArray⟩ := (mk_toList a).symm
  conv => lhs; rw [this]
  rw [Lib.extract_eq, mk_data_list]
theorem L_mk (l : Txt) : L ⟨l.toArray⟩ = l := rfl
theorem toList_L (a : ByteArray) : a.toList = L a := Lib.toList_data a
theorem w64 {x : Int} (h0 : -9223372036854775808 ≤ x) (h1 : x ≤ 9223372036854775807) : wrap64 x = x := by unfold wrap64; omega
theorem wN (i n : Nat) (h : i + n ≤ 9000000000000000100) : wrap64 ((i : Int) + (n : Int)) = ((i + n : Nat) : Int) := by unfold wrap64; omega
theorem w1 (i : Nat) (h : i ≤ 9000000000000000000) : wrap64 ((i : Int) + 1) = ((i + 1 : Nat) : Int) := wN i 1 (Nat.le_trans (Nat.add_le_add_right h 1) (by decide))
theorem w2 (i : Nat) (h : i ≤ 9000000000000000000) : wrap64 ((i : Int) + 2) = ((i + 2 : Nat) : Int) := wN i 2 (Nat.le_trans (Nat.add_le_add_right h 2) (by decide))

theorem pre_at {s t : Txt} {i : Nat} (h : i + t.length ≤ s.length) : Lib.hasPrefix (s.drop i) t = ((s.drop i).take t.length == t) := by
  cases hp : Lib.hasPrefix (s.drop i) t with
  | true =>
    obtain ⟨r, hr⟩ := List.isPrefixOf_iff_prefix.1 hp
    rw [← hr, List.take_left]
    simp
  | false =>
    symm
    rw [beq_eq_false_iff_ne]
    intro e
    have : Lib.hasPrefix (s.drop i) t = true := List.isPrefixOf_iff_prefix.2 (by rw [← e]; exact List.take_prefix _ _)
    rw [hp] at this
    cases this
theorem pre_short {s t : Txt} {i : Nat} (h : ¬ i + t.length ≤ s.length) (hi : i ≤ s.length) : Lib.hasPrefix (s.drop i) t = false := by
  cases hp : Lib.hasPrefix (s.drop i) t with
  | false => rfl
  | true =>
    have := (List.isPrefixOf_iff_prefix.1 hp).length_le
    rw [List.length_drop] at this
    omega
theorem at_f (a t : ByteArray) (i : Nat) (hi : i ≤ (L a).length) (ha : (L a).length ≤ 1000000000) (ht : t.size ≤ 1000000000) : boltingref06_at.f a i t = some (Lib.hasPrefix ((L a).drop i) (L t)) := by
  have hl := L_len a
  have hl2 := L_len t
  unfold boltingref06_at.f
  rw [if_pos (by omega), wN i t.size (by omega)]
  by_cases h : i + t.size ≤ (L a).length
  · rw [if_pos (by omega), if_pos (by omega), if_pos (by omega)]
    simp only [Int.toNat_natCast, toList_L, L_ext]
    rw [pre_at (by omega), hl2, Nat.add_sub_cancel_left]
  · rw [if_neg (by omega), pre_short (by omega) hi]
theorem space_f (c : UInt8) : boltingref02_Space.f (c.toNat : Int) = some (spaceB c) := by
  have := all_u8 (p := fun c => decide (boltingref02_Space.f (c.toNat : Int) = some (spaceB c))) (by decide +kernel) c
  simpa using this
theorem letter_u8 (c : UInt8) : boltingref02_Letter.f (c.toNat : Int) = some (letterB c) := by
  have := all_u8 (p := fun c => decide (boltingref02_Letter.f (c.toNat : Int) = some (letterB c))) (by decide +kernel) c
  simpa using this
theorem stops_f (c : UInt8) : boltingref06_stops.f (c.toNat : Int) = some (slashedB c) := by
  have := all_u8 (p := fun c => decide (boltingref06_stops.f (c.toNat : Int) = some (slashedB c))) (by decide +kernel) c
  simpa using this
theorem letter_f (a : ByteArray) (i : Nat) (hi : i ≤ (L a).length + 10) : boltingref06_letter.f a i = some (letterL ((L a).drop i)) := by
  have hl := L_len a
  unfold boltingref06_letter.f
  by_cases h : i < (L a).length
  · rw [if_pos (by omega), if_pos (by omega), bt_L a i h, letter_u8, List.drop_eq_getElem_cons h]
    rfl
  · rw [if_neg (by omega), List.drop_of_length_le (by omega)]
    rfl
theorem idx_cons {c : UInt8} {l : Txt} (p : UInt8 → Bool) : (c :: l).findIdx p = if p c then 0 else l.findIdx p + 1 := by
  rw [List.findIdx_cons]
  cases p c <;> rfl
theorem spaces_f (a : ByteArray) (ha : (L a).length ≤ 1000000000) : ∀ (d i k : Nat), (L a).length - i ≤ d → i ≤ (L a).length → d < k →
    boltingref06_spaces.f k a i = some ((i + ((L a).drop i).findIdx (fun c => !spaceB c) : Nat) : Int) := by
  have hl := L_len a
  intro d
  unfold boltingref06_spaces.f
  induction d with
  | zero =>
    intro i k hd hi hk
    obtain ⟨k, rfl⟩ : ∃ m, k = m + 1 := ⟨k - 1, by omega⟩
    simp only [boltingref06_spaces.l0]
    rw [if_neg (by omega), List.drop_of_length_le (by omega)]
    simp
  | succ d ih =>
    intro i k hd hi hk
    obtain ⟨k, rfl⟩ : ∃ m, k = m + 1 := ⟨k - 1, by omega⟩
    by_cases h : i < (L a).length
    · simp only [boltingref06_spaces.l0]
      rw [if_pos (by omega), if_pos (by omega), bt_L a i h, space_f, List.drop_eq_getElem_cons h, idx_cons]
      simp only [Option.bind_some]
      cases hs : spaceB (L a)[i] with
      | true =>
        simp only [if_true, Bool.not_true, Bool.false_eq_true, if_false]
        rw [w1 i (by omega), ih (i + 1) k (by omega) (by omega) (by omega)]
        congr 2
        omega
      | false => simp
    · simp only [boltingref06_spaces.l0]
      rw [if_neg (by omega), List.drop_of_length_le (by omega)]
      simp
/-- How many bytes stand ahead of a text; all, if it does not come. -/
def upTo (t : Txt) (s : Txt) : Nat := if 0 ≤ Lib.index s t then (Lib.index s t).toNat else s.length
theorem upTo_nil (t : Txt) (ht : t ≠ []) : upTo t [] = 0 := by cases t <;> simp_all [upTo, Lib.index]
theorem upTo_cons (t : Txt) (c : UInt8) (s : Txt) : upTo t (c :: s) = if Lib.hasPrefix (c :: s) t then 0 else upTo t s + 1 := by
  have h := Lib.index_ge s t
  unfold upTo Lib.hasPrefix
  rw [Lib.index]
  cases hp : t.isPrefixOf (c :: s) with
  | true => simp
  | false =>
    simp only [Bool.false_eq_true, if_false]
    by_cases e : Lib.index s t = -1
    · rw [e]; simp
    · have e2 : (Lib.index s t == -1) = false := by simpa using e
      rw [e2]
      simp only [Bool.false_eq_true, if_false]
      rw [if_pos (by omega), if_pos (by omega)]
      omega
theorem upTo_le (t s : Txt) (ht : t ≠ []) : upTo t s ≤ s.length := by
  induction s with
  | nil => rw [upTo_nil t ht]; simp
  | cons c s ih => rw [upTo_cons]; split <;> simp <;> omega
theorem until_eq (s t : Txt) : untilF s t = (s.take (upTo t s), s.drop (if 0 ≤ Lib.index s t then (Lib.index s t).toNat + t.length else s.length)) := by
  unfold untilF Lib.cut upTo
  by_cases h : 0 ≤ Lib.index s t
  · rw [if_pos h, if_pos h, if_pos h]
  · rw [if_neg h, if_neg h, if_neg h]; simp
theorem mn_eq (x y : Nat) : mn (x : Int) (y : Int) = ((min x y : Nat) : Int) := by unfold mn; split <;> omega
theorem find_f (a t : ByteArray) (ha : (L a).length ≤ 1000000000) (ht : t.size ≤ 1000000000) (hn : L t ≠ []) : ∀ (d i k : Nat), (L a).length - i ≤ d → i ≤ (L a).length → d < k →
    boltingref06_find.f k a i t = some ((i + upTo (L t) ((L a).drop i) : Nat) : Int) := by
  have hl := L_len a
  intro d
  unfold boltingref06_find.f
  induction d with
  | zero =>
    intro i k hd hi hk
    obtain ⟨k, rfl⟩ : ∃ m, k = m + 1 := ⟨k - 1, by omega⟩
    simp only [boltingref06_find.l0]
    rw [if_neg (by omega), List.drop_of_length_le (by omega), upTo_nil _ hn, mn_eq]
    congr 2
    omega
  | succ d ih =>
    intro i k hd hi hk
    obtain ⟨k, rfl⟩ : ∃ m, k = m + 1 := ⟨k - 1, by omega⟩
    by_cases h : i < (L a).length
    · simp only [boltingref06_find.l0]
      rw [if_pos (by omega), at_f a t i hi ha ht, List.drop_eq_getElem_cons h, upTo_cons]
      simp only [Option.bind_some]
      cases hs : Lib.hasPrefix ((L a)[i] :: (L a).drop (i + 1)) (L t) with
      | true =>
        simp only [if_true]
        rw [mn_eq]
        congr 2
        omega
      | false =>
        simp only [Bool.false_eq_true, if_false]
        rw [w1 i (by omega), ih (i + 1) k (by omega) (by omega) (by omega)]
        congr 2
        omega
    · simp only [boltingref06_find.l0]
      rw [if_neg (by omega), List.drop_of_length_le (by omega), upTo_nil _ hn, mn_eq]
      congr 2
      omega
theorem lower_f (a : ByteArray) (h : (L a).length ≤ 1000000000) : boltingref02_Lower.f a = some ⟨(lowL (L a)).toArray⟩ := by
  unfold boltingref02_Lower.f
  rw [if_pos (by rw [← L_len]; exact h)]
theorem decode_f (a : ByteArray) (h : (L a).length ≤ 1000000000) : boltingref03_Decode.f a = some ⟨(decL (L a)).toArray⟩ := by
  unfold boltingref03_Decode.f
  rw [if_pos (by rw [← L_len]; exact h)]
theorem inside_f (a nm : ByteArray) (ha : (L a).length ≤ 1000000000) (hm : (L nm).length ≤ 1000000000) (hlow : lowL (L nm) = L nm) : ∀ (d i k : Nat), (L a).length - i ≤ d → i ≤ (L a).length → d < k →
    boltingref06_inside.f k a i nm = some ((i + endF (L nm) ((L a).drop i) : Nat) : Int) := by
  have hl := L_len a
  have hl2 := L_len nm
  intro d
  unfold boltingref06_inside.f
  induction d with
  | zero =>
    intro i k hd hi hk
    obtain ⟨k, rfl⟩ : ∃ m, k = m + 1 := ⟨k - 1, by omega⟩
    simp only [boltingref06_inside.l0]
    rw [if_neg (by omega), List.drop_of_length_le (by omega)]
    simp only [endF]
    congr 1
    omega
  | succ d ih =>
    intro i k hd hi hk
    obtain ⟨k, rfl⟩ : ∃ m, k = m + 1 := ⟨k - 1, by omega⟩
    by_cases h : i < (L a).length
    · have next : boltingref06_inside.l0 k a nm ((i + 1 : Nat) : Int) = some ((i + (1 + endF (L nm) ((L a).drop (i + 1))) : Nat) : Int) := by
        rw [ih (i + 1) k (by omega) (by omega) (by omega)]
        congr 2
        omega
      simp only [boltingref06_inside.l0]
      rw [if_pos (by omega), w2 i (by omega), wN (i + 2) nm.size (by omega), w1 i (by omega)]
      rw [List.drop_eq_getElem_cons h]
      simp only [endF]
      by_cases h2 : i + 2 + nm.size < (L a).length
      · rw [if_pos (by omega), at_f a _ i hi ha (by decide)]
        simp only [Option.bind_some]
        rw [show L (⟨#[60, 47]⟩ : ByteArray) = [60, 47] from rfl]
        have hd1 : (L a).drop i = (L a)[i] :: (L a)[i + 1] :: (L a).drop (i + 2) := by
          rw [List.drop_eq_getElem_cons h, List.drop_eq_getElem_cons (by omega)]
        rw [hd1, show (L a).drop (i + 1) = (L a)[i + 1] :: (L a).drop (i + 2) from List.drop_eq_getElem_cons (by omega)]
        by_cases hp : (L a)[i] = 60 ∧ (L a)[i + 1] = 47
        · have hp1 : Lib.hasPrefix ((L a)[i] :: (L a)[i + 1] :: (L a).drop (i + 2)) [60, 47] = true := by
            rw [hp.1, hp.2]; simp [Lib.hasPrefix]
          rw [if_pos hp1, if_pos (by omega), if_pos (by omega), if_pos (by omega)]
          simp only [Int.toNat_natCast]
          rw [lower_f _ (by rw [L_ext]; simp; omega)]
          simp only [Option.bind_some, toList_L, L_mk]
          rw [L_ext, Nat.add_sub_cancel_left]
          have hb : bt a ((i + 2 + nm.size : Nat) : Int) = (((L a)[i + 2 + nm.size]).toNat : Int) := bt_L a _ h2
          have hd2 : ((L a).drop (i + 2)).drop nm.size = (L a)[i + 2 + nm.size] :: (L a).drop (i + 2 + nm.size + 1) := by
            rw [List.drop_drop, List.drop_eq_getElem_cons h2]
          have hcl : closesB (L nm) ((L a)[i] :: (L a)[i + 1] :: (L a).drop (i + 2)) = ((lowL (((L a).drop (i + 2)).take nm.size) == L nm) && slashedB (L a)[i + 2 + nm.size]) := by
            rw [hp.1, hp.2]
            simp only [closesB]
            rw [hl2, hd2, hlow]
            have : decide (nm.size < ((L a).drop (i + 2)).length) = true := by simp; omega
            rw [this, Bool.true_and]
          rw [hcl]
          by_cases hq : lowL (((L a).drop (i + 2)).take nm.size) = L nm
          · rw [if_pos hq, if_pos (by omega), hb, stops_f]
            simp only [Option.bind_some]
            rw [hq]
            cases hst : slashedB (L a)[i + 2 + nm.size] with
            | true => simp
            | false =>
              simp only [Bool.false_eq_true, if_false, BEq.rfl, Bool.and_false]
              rw [next, show (L a).drop (i + 1) = (L a)[i + 1] :: (L a).drop (i + 2) from List.drop_eq_getElem_cons (by omega)]
          · rw [if_neg hq]
            have : (lowL (((L a).drop (i + 2)).take nm.size) == L nm) = false := by simpa using hq
            rw [this]
            simp only [Bool.false_and, Bool.false_eq_true, if_false]
            rw [next, show (L a).drop (i + 1) = (L a)[i + 1] :: (L a).drop (i + 2) from List.drop_eq_getElem_cons (by omega)]
        · have hp1 : Lib.hasPrefix ((L a)[i] :: (L a)[i + 1] :: (L a).drop (i + 2)) [60, 47] = false := by
            simp only [Lib.hasPrefix, List.isPrefixOf, Bool.and_true]
            by_cases e1 : (L a)[i] = 60
            · have e2 : (L a)[i + 1] ≠ 47 := fun e => hp ⟨e1, e⟩
              have : ((47 : UInt8) == (L a)[i + 1]) = false := by simpa using fun e => e2 e.symm
              rw [this]; simp
            · have : ((60 : UInt8) == (L a)[i]) = false := by simpa using fun e => e1 e.symm
              rw [this]; simp
          have hcl : closesB (L nm) ((L a)[i] :: (L a)[i + 1] :: (L a).drop (i + 2)) = false := by
            unfold closesB
            split
            · rename_i r heq
              simp only [List.cons.injEq] at heq
              exact absurd ⟨heq.1, heq.2.1⟩ hp
            · rfl
          rw [hp1, hcl]
          simp only [Bool.false_eq_true, if_false]
          rw [next, show (L a).drop (i + 1) = (L a)[i + 1] :: (L a).drop (i + 2) from List.drop_eq_getElem_cons (by omega)]
      · rw [if_neg (by omega), next]
        have hcl : closesB (L nm) ((L a)[i] :: (L a).drop (i + 1)) = false := by
          unfold closesB
          split
          · rename_i r heq
            simp only [List.cons.injEq] at heq
            have hr : r.length = (L a).length - (i + 2) := by
              have := congrArg List.length heq.2
              simp only [List.length_drop, List.length_cons] at this
              omega
            have : decide ((L nm).length < r.length) = false := by simp; omega
            rw [this]; rfl
          · rfl
        rw [hcl]
        simp
    · simp only [boltingref06_inside.l0]
      rw [if_neg (by omega), List.drop_of_length_le (by omega)]
      simp only [endF]
      congr 1
      omega
end Go.Proofs.YtdnbaliibiginaaGreatDoorH.TI
