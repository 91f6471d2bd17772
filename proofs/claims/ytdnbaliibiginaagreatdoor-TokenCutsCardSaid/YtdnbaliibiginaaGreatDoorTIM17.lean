/- Lemmas and walks, part 17: InB, InC. -/
import Derived.Test.YtdnbaliibiginaaGreatDoorTIM15
import Derived.Test.YtdnbaliibiginaaGreatDoorTIM16
import Derived.Test.YtdnbaliibiginaaGreatDoorTIM14
import Derived.Test.YtdnbaliibiginaaGreatDoorTIM3
set_option linter.unusedVariables false
set_option linter.unusedSimpArgs false

/- Plain: what the document's attr, other, comment, note come to, in lists of bytes. No program in sight. -/
namespace Go.Proofs.YtdnbaliibiginaaGreatDoorH.TI
open Go.RowKit Go.Proofs Go.Proofs.YtdnbaliibiginaaGreatDoorH Go.Proofs.YtdnbaliibiginaaGreatDoor Go.Proofs.YtdnbaliibiginaaGreatDoorW.PrintWords Go.Proofs.YtdnbaliibiginaaGreatDoorW.PrintMore

theorem eqB (x y : UInt8) : ((x.toNat : Int) = (y.toNat : Int)) ↔ x = y :=
  ⟨fun h => UInt8.toNat_inj.1 (by omega), fun h => by rw [h]⟩
theorem drop_cons {l : Txt} {i : Nat} (h : i < l.length) : l.drop i = l[i] :: l.drop (i + 1) := List.drop_eq_getElem_cons h
theorem skip_drop (l : Txt) (i : Nat) : skipS (l.drop i) = l.drop (i + (l.drop i).findIdx (fun c => !spaceB c)) := by
  unfold skipS
  rw [List.drop_drop]
theorem idx_le {α : Type} (p : α → Bool) (l : List α) : l.findIdx p ≤ l.length := List.findIdx_le_length
theorem pre1 (l : Txt) (c : UInt8) : Lib.hasPrefix l [c] = (l.head? == some c) := by
  cases l with
  | nil => rfl
  | cons b r =>
    simp only [Lib.hasPrefix, List.isPrefixOf, Bool.and_true, List.head?_cons]
    rw [Bool.eq_iff_iff]
    simp
    exact ⟨fun h => h.symm, fun h => h.symm⟩
theorem upTo_one (q c : UInt8) (t : Txt) : upTo [q] (c :: t) = if c = q then 0 else upTo [q] t + 1 := by
  rw [upTo_cons, pre1]
  by_cases e : c = q
  · simp [e]
  · simp [e]
theorem upTo_cut1 (q : UInt8) : ∀ (t : Txt), upTo [q] t = (cut1 q t).1.length ∧ ((cut1 q t).2.2 = true ↔ upTo [q] t < t.length) ∧ (cut1 q t).1 = t.take (upTo [q] t) ∧ ((cut1 q t).2.2 = true → (cut1 q t).2.1 = t.drop (upTo [q] t + 1))
  | [] => by rw [upTo_nil _ (by simp)]; simp [cut1]
  | c :: t => by
    obtain ⟨h1, h2, h3, h4⟩ := upTo_cut1 q t
    rw [upTo_one, cut1]
    by_cases e : c = q
    · simp [e]
    · rw [if_neg e, if_neg e]
      simp only [List.length_cons, List.take_succ_cons, List.drop_succ_cons]
      refine ⟨by omega, by rw [h2]; omega, by rw [h3], fun h => h4 h⟩

/-- What attr comes to. -/
def AttrR (a : ByteArray) (i : Nat) (x : Option (ByteArray × ByteArray × Int)) : Prop :=
  ∃ (v : ByteArray) (e : Int), x = some (⟨(attrF ((L a).drop i)).1.1.toArray⟩, v, e) ∧
    ((attrF ((L a).drop i)).2.2 = true → v = ⟨(attrF ((L a).drop i)).1.2.toArray⟩ ∧ ∃ en : Nat, e = en ∧ en ≤ (L a).length ∧ i < en ∧ skipS ((L a).drop en) = skipS (attrF ((L a).drop i)).2.1) ∧
    ((attrF ((L a).drop i)).2.2 = false → e = ((L a).length : Int) + 1)
theorem skip_idem (s : Txt) : skipS (skipS s) = skipS s := by
  unfold skipS
  induction s with
  | nil => rfl
  | cons c s ih =>
    rw [idx_cons]
    cases hc : spaceB c with
    | true =>
      simp only [Bool.not_true, Bool.false_eq_true, if_false, List.drop_succ_cons]
      exact ih
    | false => simp [idx_cons, hc]

theorem word_l1 (a : ByteArray) (ha : (L a).length ≤ 1000000000) (x6 : Nat) (nm v0 : ByteArray) : ∀ (d j k : Nat), (L a).length - j ≤ d → x6 ≤ j → j ≤ (L a).length → d < k →
    boltingref06_attr.l1 k a x6 j nm v0 = some (nm, ⟨(decL (((L a).drop x6).take (j + ((L a).drop j).findIdx (fun c => spaceB c || c == 62) - x6))).toArray⟩,
      if j + ((L a).drop j).findIdx (fun c => spaceB c || c == 62) = (L a).length then ((L a).length : Int) + 1 else ((j + ((L a).drop j).findIdx (fun c => spaceB c || c == 62) : Nat) : Int)) := by
  have hl := L_len a
  have fin : ∀ j, x6 ≤ j → j ≤ (L a).length → boltingref03_Decode.f (a.extract ((x6 : Int)).toNat ((j : Int)).toNat) = some ⟨(decL (((L a).drop x6).take (j - x6))).toArray⟩ := by
    intro j h1 h2
    rw [decode_f _ (by rw [L_ext]; simp; omega)]
    simp only [Int.toNat_natCast]
    rw [L_ext]
  have hw : wrap64 ((a.size : Int) + 1) = ((L a).length : Int) + 1 := by rw [hl]; exact w64 (by omega) (by omega)
  intro d
  induction d with
  | zero =>
    intro j k hd h6 hj hk
    obtain ⟨k, rfl⟩ : ∃ m, k = m + 1 := ⟨k - 1, by omega⟩
    have hjl : j = (L a).length := by omega
    simp only [boltingref06_attr.l1]
    rw [if_neg (by omega), if_pos (by omega), if_pos (by omega), if_pos (by omega), fin j h6 hj]
    rw [Option.bind_some]
    rw [if_pos (by omega), hw, List.drop_of_length_le (by omega : (L a).length ≤ j)]
    simp [hjl]
  | succ d ih =>
    intro j k hd h6 hj hk
    obtain ⟨k, rfl⟩ : ∃ m, k = m + 1 := ⟨k - 1, by omega⟩
    by_cases h : j < (L a).length
    · simp only [boltingref06_attr.l1]
      rw [if_pos (by omega), if_pos (by omega), bt_L a j h, space_f, drop_cons h, idx_cons]
      rw [Option.bind_some]
      cases hs : spaceB (L a)[j] with
      | true =>
        simp only [if_true, Bool.true_or, Nat.add_zero]
        rw [if_pos (by omega), if_pos (by omega), if_pos (by omega), fin j h6 hj]
        rw [Option.bind_some]
        rw [if_neg (by omega), if_neg (by omega)]
      | false =>
        simp only [Bool.false_eq_true, if_false, Bool.false_or]
        by_cases h62 : (L a)[j] = 62
        · have : (((L a)[j]).toNat : Int) = 62 := by rw [h62]; rfl
          rw [if_pos this, if_pos (by omega), if_pos (by omega), if_pos (by omega), fin j h6 hj]
          rw [Option.bind_some]
          rw [if_neg (by omega), h62]
          simp only [BEq.rfl, if_true, Nat.add_zero]
          rw [if_neg (by omega)]
        · have e1 : ¬ (((L a)[j]).toNat : Int) = 62 := fun e => h62 ((eqB _ 62).1 e)
          have e2 : ((L a)[j] == 62) = false := by simpa using h62
          rw [if_neg e1, e2, w1 j (by omega), ih (j + 1) k (by omega) (by omega) (by omega) (by omega)]
          simp only [Bool.false_eq_true, if_false]
          rw [show j + 1 + List.findIdx (fun c => spaceB c || c == 62) ((L a).drop (j + 1)) = j + (List.findIdx (fun c => spaceB c || c == 62) ((L a).drop (j + 1)) + 1) from by omega]
    · have hjl : j = (L a).length := by omega
      simp only [boltingref06_attr.l1]
      rw [if_neg (by omega), if_pos (by omega), if_pos (by omega), if_pos (by omega), fin j h6 hj]
      rw [Option.bind_some]
      rw [if_pos (by omega), hw, List.drop_of_length_le (by omega : (L a).length ≤ j)]
      simp [hjl]

theorem attr_j2t (a : ByteArray) (ha : (L a).length ≤ 1000000000) (p : Nat) (hp : p < (L a).length) (nm v0 : ByteArray) (k : Nat) (hk : (L a).length + 5 ≤ k) :
    boltingref06_attr.j2 k a p true nm v0 = some (nm, if (cut1 (L a)[p] ((L a).drop (p + 1))).2.2 then ⟨(decL (cut1 (L a)[p] ((L a).drop (p + 1))).1).toArray⟩ else v0,
      if (cut1 (L a)[p] ((L a).drop (p + 1))).2.2 then ((p + 1 + upTo [(L a)[p]] ((L a).drop (p + 1)) + 1 : Nat) : Int) else ((L a).length : Int) + 1) := by
  have hl := L_len a
  obtain ⟨k, rfl⟩ : ∃ m, k = m + 1 := ⟨k - 1, by omega⟩
  have hx : L (a.extract p (p + 1)) = [(L a)[p]] := by
    rw [L_ext, drop_cons hp, Nat.add_sub_cancel_left]
    rfl
  obtain ⟨u1, u2, u3, u4⟩ := upTo_cut1 (L a)[p] ((L a).drop (p + 1))
  have hul := upTo_le [(L a)[p]] ((L a).drop (p + 1)) (by simp)
  rw [List.length_drop] at hul u2
  simp only [boltingref06_attr.j2]
  rw [if_pos trivial, if_pos (by omega), w1 p (by omega), if_pos (by omega), if_pos (by omega)]
  simp only [Int.toNat_natCast]
  rw [find_f a (a.extract p (p + 1)) ha (by rw [← L_len, hx]; simp) (by rw [hx]; simp) ((L a).length) (p + 1) k (by omega) (by omega) (by omega), hx]
  rw [Option.bind_some]
  have hw : wrap64 ((a.size : Int) + 1) = ((L a).length : Int) + 1 := by rw [hl]; exact w64 (by omega) (by omega)
  cases hf : (cut1 (L a)[p] ((L a).drop (p + 1))).2.2 with
  | true =>
    have hlt := u2.1 hf
    simp only [if_true]
    rw [if_neg (by omega), if_pos (by omega), if_pos (by omega), if_pos (by omega)]
    simp only [Int.toNat_natCast]
    rw [decode_f _ (by rw [L_ext]; simp; omega)]
    rw [Option.bind_some]
    rw [L_ext, Nat.add_sub_cancel_left, ← u3, w1 _ (by omega)]
  | false =>
    have hge : ¬ upTo [(L a)[p]] ((L a).drop (p + 1)) < (L a).length - (p + 1) := fun h => by have := u2.2 h; rw [hf] at this; cases this
    simp only [Bool.false_eq_true, if_false]
    rw [if_pos (by omega), hw]

/-- What attr comes to behind the name. -/
def AttrJ (a : ByteArray) (nm : Txt) (x6 : Nat) (v : ByteArray) (e : Int) : Prop :=
  ((attrR nm ((L a).drop x6)).2.2 = true → v = ⟨(attrR nm ((L a).drop x6)).1.2.toArray⟩ ∧ ∃ en : Nat, e = en ∧ en ≤ (L a).length ∧ x6 ≤ en ∧ skipS ((L a).drop en) = skipS (attrR nm ((L a).drop x6)).2.1) ∧
  ((attrR nm ((L a).drop x6)).2.2 = false → e = ((L a).length : Int) + 1)
theorem attr_j1 (a : ByteArray) (ha : (L a).length ≤ 1000000000) (i x6 : Nat) (hi : i ≤ x6) (h6 : x6 ≤ (L a).length) (k : Nat) (hk : 2 * (L a).length + 20 ≤ k) :
    ∃ v e, boltingref06_attr.j1 k a i x6 = some (⟨(lowL (((L a).drop i).take (x6 - i))).toArray⟩, v, e) ∧ AttrJ a (lowL (((L a).drop i).take (x6 - i))) x6 v e := by
  have hl := L_len a
  obtain ⟨k, rfl⟩ : ∃ m, k = m + 1 := ⟨k - 1, by omega⟩
  generalize hnm : lowL (((L a).drop i).take (x6 - i)) = nm
  have hw : wrap64 ((a.size : Int) + 1) = ((L a).length : Int) + 1 := by rw [hl]; exact w64 (by omega) (by omega)
  have hsk := skip_drop (L a) x6
  have hil := idx_le (fun c => !spaceB c) ((L a).drop x6)
  rw [List.length_drop] at hil
  generalize he : x6 + ((L a).drop x6).findIdx (fun c => !spaceB c) = e at hsk
  have hel : e ≤ (L a).length := by omega
  have hsp : boltingref06_spaces.f k a x6 = some (e : Int) := by rw [spaces_f a ha (L a).length x6 k (by omega) h6 (by omega), he]
  have hat := at_f a (⟨#[61]⟩ : ByteArray) e hel ha (by decide)
  rw [show L (⟨#[61]⟩ : ByteArray) = [61] from rfl, pre1] at hat
  simp only [boltingref06_attr.j1]
  rw [if_pos (by omega), if_pos (by omega), if_pos (by omega)]
  simp only [Int.toNat_natCast]
  rw [lower_f _ (by rw [L_ext]; simp; omega)]
  rw [Option.bind_some]
  rw [L_ext, hnm, hsp]
  rw [Option.bind_some]
  rw [hat]
  rw [Option.bind_some]
  by_cases hend : e = (L a).length
  · have hd : (L a).drop e = [] := List.drop_of_length_le (by omega)
    rw [hd]
    simp only [List.head?_nil, Option.none_beq_some, Bool.false_eq_true, if_false]
    rw [if_pos (by omega), hw]
    refine ⟨_, _, rfl, ?_⟩
    unfold AttrJ attrR
    rw [hsk, hd]
    exact ⟨fun h => by simp at h, fun _ => rfl⟩
  · have hlt : e < (L a).length := by omega
    have hd := drop_cons hlt
    by_cases h61 : (L a)[e] = 61
    · have hh : ((((L a).drop e).head?) == some 61) = true := by rw [hd, h61]; rfl
      rw [hh]
      simp only [if_true]
      rw [w1 e (by omega)]
      have hsk2 := skip_drop (L a) (e + 1)
      have hil2 := idx_le (fun c => !spaceB c) ((L a).drop (e + 1))
      rw [List.length_drop] at hil2
      generalize hp : e + 1 + ((L a).drop (e + 1)).findIdx (fun c => !spaceB c) = p at hsk2
      have hpl : p ≤ (L a).length := by omega
      have hsp2 : boltingref06_spaces.f k a ((e + 1 : Nat) : Int) = some (p : Int) := by rw [spaces_f a ha (L a).length (e + 1) k (by omega) (by omega) (by omega), hp]
      rw [hsp2]
      rw [Option.bind_some]
      have hR : attrR nm ((L a).drop x6) = valF nm ((L a).drop p) := by
        unfold attrR
        rw [hsk, hd, h61]
        simp only [if_true]
        rw [hsk2]
      by_cases hpe : p = (L a).length
      · rw [if_pos (by omega), hw]
        refine ⟨_, _, rfl, ?_⟩
        unfold AttrJ
        rw [hR, List.drop_of_length_le (by omega : (L a).length ≤ p)]
        exact ⟨fun h => by simp [valF] at h, fun _ => rfl⟩
      · have hplt : p < (L a).length := by omega
        have hdp := drop_cons hplt
        rw [if_neg (by omega), if_pos (by omega), if_pos (by omega), bt_L a p hplt]
        have quote : (L a)[p] = 34 ∨ (L a)[p] = 39 → ∃ v e', boltingref06_attr.j2 k a p true ⟨nm.toArray⟩ (⟨#[]⟩ : ByteArray) = some (⟨nm.toArray⟩, v, e') ∧ AttrJ a nm x6 v e' := by
          intro hq
          rw [attr_j2t a ha p hplt ⟨nm.toArray⟩ _ k (by omega)]
          refine ⟨_, _, rfl, ?_⟩
          obtain ⟨u1, u2, u3, u4⟩ := upTo_cut1 (L a)[p] ((L a).drop (p + 1))
          rw [List.length_drop] at u2
          unfold AttrJ
          rw [hR, hdp]
          unfold valF
          simp only []
          rw [if_pos hq]
          refine ⟨fun h => ?_, fun h => ?_⟩
          · simp only at h
            rw [h]
            simp only [if_true]
            have := u2.1 h
            refine ⟨trivial, _, by with_reducible rfl, by omega, by omega, ?_⟩
            rw [u4 h, List.drop_drop, Nat.add_assoc]
          · simp only at h
            rw [h]
            simp
        by_cases h34 : (L a)[p] = 34
        · have : (((L a)[p]).toNat : Int) = 34 := by rw [h34]; rfl
          rw [if_pos this]
          exact quote (.inl h34)
        · have hn34 : ¬ (((L a)[p]).toNat : Int) = 34 := fun h => h34 ((eqB _ 34).1 h)
          rw [if_neg hn34]
          by_cases h39 : (L a)[p] = 39
          · have : ((((L a)[p]).toNat : Int) == 39) = true := by rw [h39]; rfl
            rw [this]
            exact quote (.inr h39)
          · have hn39 : ((((L a)[p]).toNat : Int) == 39) = false := by
              rw [beq_eq_false_iff_ne]
              exact fun h => h39 ((eqB _ 39).1 h)
            rw [hn39]
            obtain ⟨k, rfl⟩ : ∃ m, k = m + 1 := ⟨k - 1, by omega⟩
            simp only [boltingref06_attr.j2]
            rw [if_neg (by simp), word_l1 a ha p ⟨nm.toArray⟩ _ (L a).length p k (by omega) (by omega) (by omega) (by omega)]
            refine ⟨_, _, rfl, ?_⟩
            have hwl := idx_le (fun c => spaceB c || c == 62) ((L a).drop p)
            unfold AttrJ
            rw [hR]
            have hv : valF nm ((L a).drop p) = ((nm, decL (((L a).drop p).take (wordK ((L a).drop p)))), ((L a).drop p).drop (wordK ((L a).drop p)), decide (wordK ((L a).drop p) < ((L a).drop p).length)) := by
              rw [hdp]
              unfold valF
              simp only []
              rw [if_neg (by rintro (h | h); exact h34 h; exact h39 h)]
            rw [hv]
            unfold wordK
            generalize List.findIdx (fun c => spaceB c || c == 62) ((L a).drop p) = wk at *
            rw [List.length_drop] at *
            refine ⟨fun h => ?_, fun h => ?_⟩
            · simp only [decide_eq_true_eq] at h
              rw [if_neg (by omega), Nat.add_sub_cancel_left]
              refine ⟨by with_reducible rfl, p + wk, by with_reducible rfl, by omega, by omega, ?_⟩
              simp only
              rw [List.drop_drop]
            · simp only [decide_eq_false_iff_not] at h
              rw [if_pos (by omega)]
    · have hh : ((((L a).drop e).head?) == some 61) = false := by rw [hd]; simpa using h61
      rw [hh]
      simp only [Bool.false_eq_true, if_false]
      rw [if_neg (by omega)]
      refine ⟨_, _, rfl, ?_⟩
      unfold AttrJ attrR
      rw [hsk, hd]
      simp only []
      rw [if_neg h61]
      refine ⟨fun _ => ⟨rfl, e, rfl, hel, by omega, ?_⟩, fun h => by simp at h⟩
      simp only
      rw [← hsk, skip_idem]
theorem attr_l0 (a : ByteArray) (ha : (L a).length ≤ 1000000000) (i : Nat) : ∀ (d j k : Nat), (L a).length - j ≤ d → j ≤ (L a).length → d + 2 * (L a).length + 21 ≤ k →
    ∃ k', 2 * (L a).length + 20 ≤ k' ∧ boltingref06_attr.l0 k a i j = boltingref06_attr.j1 k' a i ((j + ((L a).drop j).findIdx (fun c => slashedB c || c == 61) : Nat) : Int) := by
  have hl := L_len a
  intro d
  induction d with
  | zero =>
    intro j k hd hj hk
    obtain ⟨k, rfl⟩ : ∃ m, k = m + 1 := ⟨k - 1, by omega⟩
    refine ⟨k, by omega, ?_⟩
    simp only [boltingref06_attr.l0]
    rw [if_neg (by omega), List.drop_of_length_le (by omega)]
    simp
  | succ d ih =>
    intro j k hd hj hk
    obtain ⟨k, rfl⟩ : ∃ m, k = m + 1 := ⟨k - 1, by omega⟩
    by_cases h : j < (L a).length
    · simp only [boltingref06_attr.l0]
      rw [if_pos (by omega), if_pos (by omega), bt_L a j h, stops_f, drop_cons h, idx_cons]
      rw [Option.bind_some]
      cases hs : slashedB (L a)[j] with
      | true => exact ⟨k, by omega, by simp⟩
      | false =>
        simp only [Bool.false_eq_true, if_false, Bool.false_or]
        by_cases h61 : (L a)[j] = 61
        · have : (((L a)[j]).toNat : Int) = 61 := by rw [h61]; rfl
          rw [if_pos this]
          exact ⟨k, by omega, by simp [h61]⟩
        · have hn : ¬ (((L a)[j]).toNat : Int) = 61 := fun h => h61 ((eqB _ 61).1 h)
          have e2 : ((L a)[j] == 61) = false := by simpa using h61
          rw [if_neg hn, e2, w1 j (by omega)]
          obtain ⟨k', h1, h2⟩ := ih (j + 1) k (by omega) (by omega) (by omega)
          refine ⟨k', h1, ?_⟩
          rw [h2]
          simp only [Bool.false_eq_true, if_false]
          rw [show j + 1 + List.findIdx (fun c => slashedB c || c == 61) ((L a).drop (j + 1)) = j + (List.findIdx (fun c => slashedB c || c == 61) ((L a).drop (j + 1)) + 1) from by omega]
    · refine ⟨k, by omega, ?_⟩
      simp only [boltingref06_attr.l0]
      rw [if_neg (by omega), List.drop_of_length_le (by omega)]
      simp
theorem attr_f (a : ByteArray) (ha : (L a).length ≤ 1000000000) (i : Nat) (hi : i < (L a).length) (k : Nat) (hk : 3 * (L a).length + 22 ≤ k) :
    AttrR a i (boltingref06_attr.f k a i) := by
  unfold AttrR boltingref06_attr.f
  rw [w1 i (by omega)]
  obtain ⟨k', h1, h2⟩ := attr_l0 a ha i (L a).length (i + 1) k (by omega) (by omega) (by omega)
  rw [h2]
  have hil := idx_le (fun c => slashedB c || c == 61) ((L a).drop (i + 1))
  rw [List.length_drop] at hil
  have hK : attrK ((L a).drop i) = 1 + List.findIdx (fun c => slashedB c || c == 61) ((L a).drop (i + 1)) := by
    unfold attrK
    rw [List.tail_drop]
  have hF : attrF ((L a).drop i) = attrR (lowL (((L a).drop i).take (attrK ((L a).drop i)))) ((L a).drop (i + attrK ((L a).drop i))) := by
    unfold attrF
    rw [List.drop_drop]
  have hx : i + 1 + List.findIdx (fun c => slashedB c || c == 61) ((L a).drop (i + 1)) = i + attrK ((L a).drop i) := by rw [hK]; omega
  rw [hx] at *
  have hk1 : 1 ≤ attrK ((L a).drop i) := by rw [hK]; omega
  have hk2 : i + attrK ((L a).drop i) ≤ (L a).length := by rw [hK]; omega
  generalize attrK ((L a).drop i) = K at *
  obtain ⟨v, e, hv, hj⟩ := attr_j1 a ha i (i + K) (by omega) hk2 k' h1
  rw [Nat.add_sub_cancel_left] at hv hj
  have hname : ∀ nm s, (attrR nm s).1.1 = nm := by
    intro nm s
    unfold attrR
    split
    · rfl
    · split
      · unfold valF
        split
        · rfl
        · split <;> rfl
      · rfl
  rw [hF]
  refine ⟨v, e, by rw [hname]; exact hv, fun h => ?_, hj.2⟩
  obtain ⟨h3, en, h4, h5, h6, h7⟩ := hj.1 h
  exact ⟨h3, en, h4, h5, by omega, h7⟩
end Go.Proofs.YtdnbaliibiginaaGreatDoorH.TI

/- Plain: what the document's Trim, other, comment, note come to, in lists of bytes. No program in sight. -/
namespace Go.Proofs.YtdnbaliibiginaaGreatDoorH.TI
open Go.RowKit Go.Proofs Go.Proofs.YtdnbaliibiginaaGreatDoorH Go.Proofs.YtdnbaliibiginaaGreatDoor Go.Proofs.YtdnbaliibiginaaGreatDoorW.PrintWords Go.Proofs.YtdnbaliibiginaaGreatDoorW.PrintMore

def rtrim (l : Txt) : Txt := (l.reverse.dropWhile spaceB).reverse
theorem rtrim_snoc (l : Txt) (c : UInt8) : rtrim (l ++ [c]) = if spaceB c then rtrim l else l ++ [c] := by
  unfold rtrim
  rw [List.reverse_append, List.reverse_singleton, List.singleton_append, List.dropWhile_cons]
  split
  · rfl
  · simp
theorem dropWhile_idx : ∀ (l : Txt), l.dropWhile spaceB = l.drop (l.findIdx (fun c => !spaceB c))
  | [] => rfl
  | c :: l => by
    rw [List.dropWhile_cons, idx_cons]
    cases hc : spaceB c with
    | true => simp [dropWhile_idx l]
    | false => simp
theorem trim_l1 (a : ByteArray) (ha : (L a).length ≤ 1000000000) (x3 : Nat) : ∀ (d k : Nat), x3 + d ≤ (L a).length → d < k →
    boltingref02_Trim.l1 k a x3 ((x3 + d : Nat) : Int) = some ⟨(rtrim (((L a).drop x3).take d)).toArray⟩ := by
  have hl := L_len a
  have fin : ∀ d, x3 + d ≤ (L a).length → a.extract ((x3 : Int)).toNat (((x3 + d : Nat) : Int)).toNat = ⟨(((L a).drop x3).take d).toArray⟩ := by
    intro d h
    have := L_ext a x3 (x3 + d)
    rw [Nat.add_sub_cancel_left] at this
    rw [← this, mk_toList]
    simp only [Int.toNat_natCast]
  intro d
  induction d with
  | zero =>
    intro k h hk
    obtain ⟨k, rfl⟩ : ∃ m, k = m + 1 := ⟨k - 1, by omega⟩
    simp only [boltingref02_Trim.l1]
    rw [if_neg (by omega), if_pos (by omega), if_pos (by omega), if_pos (by omega), fin 0 h]
    simp [rtrim]
  | succ d ih =>
    intro k h hk
    obtain ⟨k, rfl⟩ : ∃ m, k = m + 1 := ⟨k - 1, by omega⟩
    have hw : wrap64 (((x3 + (d + 1) : Nat) : Int) - 1) = ((x3 + d : Nat) : Int) := by rw [w64 (by omega) (by omega)]; omega
    have hlt : x3 + d < (L a).length := by omega
    have hseg : ((L a).drop x3).take (d + 1) = ((L a).drop x3).take d ++ [(L a)[x3 + d]] := by
      rw [List.take_succ_eq_append_getElem (by rw [List.length_drop]; omega), List.getElem_drop]
    simp only [boltingref02_Trim.l1]
    rw [if_pos (by omega), hw, if_pos (by omega), if_pos (by omega), bt_L a _ hlt, space_f, Option.bind_some, hseg, rtrim_snoc]
    cases hs : spaceB (L a)[x3 + d] with
    | true =>
      simp only [if_true]
      exact ih k (by omega) (by omega)
    | false =>
      simp only [Bool.false_eq_true, if_false]
      rw [if_pos (by omega), if_pos (by omega), if_pos (by omega), fin (d + 1) h, hseg]
theorem trim_l0 (a : ByteArray) (ha : (L a).length ≤ 1000000000) : ∀ (d j k : Nat), (L a).length - j ≤ d → j ≤ (L a).length → d + (L a).length + 3 ≤ k →
    boltingref02_Trim.l0 k a j ((L a).length : Int) = some ⟨(rtrim ((L a).drop (j + ((L a).drop j).findIdx (fun c => !spaceB c)))).toArray⟩ := by
  have hl := L_len a
  have fin : ∀ j k, j ≤ (L a).length → (L a).length + 2 ≤ k → boltingref02_Trim.j1 k a j ((L a).length : Int) = some ⟨(rtrim ((L a).drop j)).toArray⟩ := by
    intro j k hj hk
    obtain ⟨k, rfl⟩ : ∃ m, k = m + 1 := ⟨k - 1, by omega⟩
    simp only [boltingref02_Trim.j1]
    have := trim_l1 a ha j ((L a).length - j) k (by omega) (by omega)
    rw [show j + ((L a).length - j) = (L a).length from by omega, List.take_of_length_le (by simp)] at this
    exact this
  intro d
  induction d with
  | zero =>
    intro j k hd hj hk
    obtain ⟨k, rfl⟩ : ∃ m, k = m + 1 := ⟨k - 1, by omega⟩
    simp only [boltingref02_Trim.l0]
    rw [if_neg (by omega), fin j k hj (by omega), List.drop_of_length_le (by omega : (L a).length ≤ j), List.findIdx_nil, Nat.add_zero, List.drop_of_length_le (by omega : (L a).length ≤ j)]
  | succ d ih =>
    intro j k hd hj hk
    obtain ⟨k, rfl⟩ : ∃ m, k = m + 1 := ⟨k - 1, by omega⟩
    by_cases h : j < (L a).length
    · have hi : ((L a).drop j).findIdx (fun c => !spaceB c) = if spaceB (L a)[j] then ((L a).drop (j + 1)).findIdx (fun c => !spaceB c) + 1 else 0 := by
        rw [drop_cons h, idx_cons]
        cases spaceB (L a)[j] <;> rfl
      simp only [boltingref02_Trim.l0]
      rw [if_pos (by omega), if_pos (by omega), if_pos (by omega), bt_L a j h, space_f, Option.bind_some, hi]
      cases hs : spaceB (L a)[j] with
      | true =>
        simp only [if_true]
        rw [w1 j (by omega), ih (j + 1) k (by omega) (by omega) (by omega)]
        rw [show j + 1 + ((L a).drop (j + 1)).findIdx (fun c => !spaceB c) = j + (((L a).drop (j + 1)).findIdx (fun c => !spaceB c) + 1) from by omega]
      | false =>
        simp only [Bool.false_eq_true, if_false, Nat.add_zero]
        exact fin j k hj (by omega)
    · simp only [boltingref02_Trim.l0]
      rw [if_neg (by omega), fin j k hj (by omega), List.drop_of_length_le (by omega : (L a).length ≤ j), List.findIdx_nil, Nat.add_zero, List.drop_of_length_le (by omega : (L a).length ≤ j)]
theorem trim_f (a : ByteArray) (ha : (L a).length ≤ 1000000000) (k : Nat) (hk : 2 * (L a).length + 3 ≤ k) : boltingref02_Trim.f k a = some ⟨(trimL (L a)).toArray⟩ := by
  unfold boltingref02_Trim.f
  have := trim_l0 a ha (L a).length 0 k (by omega) (by omega) (by omega)
  rw [L_len] at this
  rw [show ((0 : Nat) : Int) = 0 from rfl] at this
  rw [this]
  unfold trimL
  rw [dropWhile_idx (L a), List.drop_zero, Nat.zero_add]
  rfl

theorem idx_found : ∀ (s t : Txt), 0 ≤ Lib.index s t → (Lib.index s t).toNat + t.length ≤ s.length
  | [], t, h => by
    rw [Lib.index] at h ⊢
    cases t with
    | nil => simp
    | cons c t => simp at h
  | b :: l, t, h => by
    have ih := idx_found l t
    have hg := Lib.index_ge l t
    rw [Lib.index] at h ⊢
    cases hp : t.isPrefixOf (b :: l) with
    | true =>
      have := (List.isPrefixOf_iff_prefix.1 hp).length_le
      simpa using this
    | false =>
      rw [hp] at h
      simp only [Bool.false_eq_true, if_false] at h ⊢
      by_cases e : Lib.index l t = -1
      · rw [e] at h; simp at h
      · have e2 : (Lib.index l t == -1) = false := by simpa using e
        rw [e2] at h ⊢
        simp only [Bool.false_eq_true, if_false] at h ⊢
        have h2 : 0 ≤ Lib.index l t := by
          rcases Int.lt_or_le (Lib.index l t) 0 with h3 | h3
          · exact absurd (show Lib.index l t = -1 by omega) e
          · exact h3
        have := ih h2
        simp only [List.length_cons]
        omega
theorem upTo_of (s t : Txt) : upTo t s = if 0 ≤ Lib.index s t then (Lib.index s t).toNat else s.length := rfl
theorem until2 (s t : Txt) : (untilF s t).2 = s.drop (min s.length (upTo t s + t.length)) := by
  rw [until_eq, upTo_of]
  simp only
  by_cases h : 0 ≤ Lib.index s t
  · have := idx_found s t h
    rw [if_pos h, if_pos h, Nat.min_eq_right this]
  · rw [if_neg h, if_neg h, Nat.min_eq_left (by omega)]
theorem until1 (s t : Txt) : (untilF s t).1 = s.take (upTo t s) := by rw [until_eq]
theorem upTo_lt (s t : Txt) (h : upTo t s < s.length) : upTo t s + t.length ≤ s.length := by
  rw [upTo_of] at *
  by_cases hi : 0 ≤ Lib.index s t
  · rw [if_pos hi] at *
    exact idx_found s t hi
  · rw [if_neg hi] at *
    omega

theorem w3 (i : Nat) (h : i ≤ 9000000000000000000) : wrap64 ((i : Int) + 3) = ((i + 3 : Nat) : Int) := wN i 3 (Nat.le_trans (Nat.add_le_add_right h 3) (by decide))
theorem w4 (i : Nat) (h : i ≤ 9000000000000000000) : wrap64 ((i : Int) + 4) = ((i + 4 : Nat) : Int) := wN i 4 (Nat.le_trans (Nat.add_le_add_right h 4) (by decide))
theorem w9 (i : Nat) (h : i ≤ 9000000000000000000) : wrap64 ((i : Int) + 9) = ((i + 9 : Nat) : Int) := wN i 9 (Nat.le_trans (Nat.add_le_add_right h 9) (by decide))
theorem ext_take (a : ByteArray) (i p : Nat) : a.extract i (i + p) = ⟨(((L a).drop i).take p).toArray⟩ := by
  have := L_ext a i (i + p)
  rw [Nat.add_sub_cancel_left] at this
  rw [← this, mk_toList]
theorem other_f (a : ByteArray) (ha : (L a).length ≤ 1000000000) (i : Nat) (hi : i ≤ (L a).length) (k : Nat) (hk : (L a).length + 5 ≤ k) :
    ∃ en : Nat, boltingref06_other.f k a i = some (⟨(untilF ((L a).drop i) [62]).1.toArray⟩, (en : Int)) ∧ en ≤ (L a).length ∧ i ≤ en ∧ (L a).drop en = (untilF ((L a).drop i) [62]).2 := by
  have hl := L_len a
  have hu := upTo_le [62] ((L a).drop i) (by simp)
  rw [List.length_drop] at hu
  have hf := find_f a (⟨#[62]⟩ : ByteArray) ha (by decide) (by simp [L]) (L a).length i k (by omega) hi (by omega)
  rw [show L (⟨#[62]⟩ : ByteArray) = [62] from rfl] at hf
  rw [until1, until2]
  unfold boltingref06_other.f
  rw [hf, Option.bind_some, if_pos (by omega), if_pos (by omega), if_pos (by omega)]
  simp only [Int.toNat_natCast]
  rw [ext_take, w1 _ (by omega), ← hl, mn_eq]
  refine ⟨_, rfl, by omega, by omega, ?_⟩
  rw [List.drop_drop, List.length_drop]
  generalize upTo [62] ((L a).drop i) = u at *
  simp only [List.length_cons, List.length_nil]
  by_cases h : i + u < (L a).length
  · rw [show min (L a).length (i + u + 1) = i + min ((L a).length - i) (u + (0 + 1)) from by omega]
  · rw [List.drop_of_length_le (by omega), List.drop_of_length_le (by omega)]

theorem comment_f (a : ByteArray) (ha : (L a).length ≤ 1000000000) (i : Nat) (hi : i ≤ (L a).length) (k : Nat) (hk : (L a).length + 5 ≤ k) :
    ∃ (d : Txt) (en : Nat), boltingref06_comment.f k a i = some (⟨d.toArray⟩, (en : Int)) ∧ en ≤ (L a).length ∧ i ≤ en ∧ commentF ((L a).drop i) = ([⟨3, [], [], d, false⟩], (L a).drop en) := by
  have hl := L_len a
  have at1 := at_f a (⟨#[62]⟩ : ByteArray) i hi ha (by decide)
  have at2 := at_f a (⟨#[45, 62]⟩ : ByteArray) i hi ha (by decide)
  rw [show L (⟨#[62]⟩ : ByteArray) = [62] from rfl] at at1
  rw [show L (⟨#[45, 62]⟩ : ByteArray) = [45, 62] from rfl] at at2
  unfold boltingref06_comment.f
  rw [at1, Option.bind_some]
  unfold commentF
  cases h1 : Lib.hasPrefix ((L a).drop i) [62] with
  | true =>
    have := (List.isPrefixOf_iff_prefix.1 h1).length_le
    simp only [List.length_drop, List.length_cons, List.length_nil] at this
    simp only [if_true]
    rw [w1 i (by omega), List.drop_drop]
    exact ⟨[], i + 1, rfl, by omega, by omega, rfl⟩
  | false =>
    simp only [Bool.false_eq_true, if_false]
    rw [at2, Option.bind_some]
    cases h2 : Lib.hasPrefix ((L a).drop i) [45, 62] with
    | true =>
      have := (List.isPrefixOf_iff_prefix.1 h2).length_le
      simp only [List.length_drop, List.length_cons, List.length_nil] at this
      simp only [if_true]
      rw [w2 i (by omega), List.drop_drop]
      exact ⟨[], i + 2, rfl, by omega, by omega, rfl⟩
    | false =>
      simp only [Bool.false_eq_true, if_false]
      have f1 := find_f a (⟨#[45, 45, 62]⟩ : ByteArray) ha (by decide) (by simp [L]) (L a).length i k (by omega) hi (by omega)
      have f2 := find_f a (⟨#[45, 45, 33, 62]⟩ : ByteArray) ha (by decide) (by simp [L]) (L a).length i k (by omega) hi (by omega)
      rw [show L (⟨#[45, 45, 62]⟩ : ByteArray) = [45, 45, 62] from rfl] at f1
      rw [show L (⟨#[45, 45, 33, 62]⟩ : ByteArray) = [45, 45, 33, 62] from rfl] at f2
      rw [f1, Option.bind_some, f2, Option.bind_some]
      generalize hs : (L a).drop i = s at *
      have hsl : s.length = (L a).length - i := by rw [← hs, List.length_drop]
      have u1 := upTo_le [45, 45, 62] s (by simp)
      have u2 := upTo_le [45, 45, 33, 62] s (by simp)
      have v2 := upTo_lt s [45, 45, 33, 62]
      have hcond : (0 ≤ Lib.index s [45, 45, 33, 62] ∧ (Lib.index s [45, 45, 62] < 0 ∨ Lib.index s [45, 45, 33, 62] < Lib.index s [45, 45, 62])) ↔ upTo [45, 45, 33, 62] s < upTo [45, 45, 62] s := by
        rw [upTo_of, upTo_of]
        have g1 := Lib.index_ge s [45, 45, 62]
        have i2 := idx_found s [45, 45, 33, 62]
        have i1 := idx_found s [45, 45, 62]
        simp only [List.length_cons, List.length_nil] at i1 i2
        constructor
        · rintro ⟨h, h'⟩
          have := i2 h
          rw [if_pos h]
          split
          · omega
          · omega
        · intro h
          by_cases h' : 0 ≤ Lib.index s [45, 45, 33, 62]
          · refine ⟨h', ?_⟩
            rw [if_pos h'] at h
            split at h
            · right; omega
            · left; omega
          · rw [if_neg h'] at h
            split at h
            · rename_i h3; have := i1 h3; omega
            · omega
      by_cases hc : upTo [45, 45, 33, 62] s < upTo [45, 45, 62] s
      · rw [if_pos (hcond.2 hc), if_neg (by omega), if_pos (by omega), if_pos (by omega), if_pos (by omega)]
        simp only [Int.toNat_natCast]
        have hv := v2 (by omega)
        simp only [List.length_cons, List.length_nil] at hv
        rw [ext_take, hs, w4 _ (by omega)]
        refine ⟨_, _, rfl, by omega, by omega, ?_⟩
        unfold noteF
        rw [until1, until2, if_neg (by decide)]
        simp only [List.length_cons, List.length_nil]
        rw [← hs, List.drop_drop, hs, Nat.min_eq_right (by omega), show i + (upTo [45, 45, 33, 62] s + (0 + 1 + 1 + 1 + 1)) = i + upTo [45, 45, 33, 62] s + 4 from by omega]
      · rw [if_neg (fun h => hc (hcond.1 h)), if_pos (by omega), if_pos (by omega), if_pos (by omega), if_pos (by omega)]
        simp only [Int.toNat_natCast]
        rw [ext_take, hs, w3 _ (by omega), ← hl, mn_eq]
        refine ⟨_, _, rfl, by omega, by omega, ?_⟩
        unfold noteF
        rw [until1, until2, if_neg (by decide)]
        simp only [List.length_cons, List.length_nil]
        rw [← hs, List.drop_drop, hs]
        by_cases h : i + upTo [45, 45, 62] s < (L a).length
        · have v1 := upTo_lt s [45, 45, 62] (by omega)
          simp only [List.length_cons, List.length_nil] at v1
          rw [show i + min s.length (upTo [45, 45, 62] s + (0 + 1 + 1 + 1)) = min (L a).length (i + upTo [45, 45, 62] s + 3) from by omega]
        · rw [show i + min s.length (upTo [45, 45, 62] s + (0 + 1 + 1 + 1)) = min (L a).length (i + upTo [45, 45, 62] s + 3) from by omega]
end Go.Proofs.YtdnbaliibiginaaGreatDoorH.TI
