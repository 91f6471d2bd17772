/- Lemmas and walks, part 1: QW7R, QTokA, QTokZ, QW7P, QW7B, QPW7x35. -/
import Derived.Test.YtkcmghlhpbepcaaGreatDoorB76
import Derived.Lib.SplitLaws
import Derived.Test.YtkcmghlhpbepcaaGreatDoorB719
import Derived.Test.YtkcmghlhpbepcaaGreatDoorB727
import Derived.Test.YtkcmghlhpbepcaaGreatDoorB725
import Derived.Test.YtkcmghlhpbepcaaGreatDoorB79
set_option linter.unusedVariables false
set_option linter.unusedSimpArgs false

/- Bytes made ready: what stands ahead of others stays as it is, where it is ASCII without NUL and CR. -/
namespace Go.Proofs.YtkcmghlhpbepcaaGreatDoor.Ch
open Go Go.RowKit
theorem get_cons (c : UInt8) (l : List UInt8) (k : Nat) : (⟨(c :: l).toArray⟩ : ByteArray).get! (k + 1) = (⟨l.toArray⟩ : ByteArray).get! k := by
 simp [ByteArray.get!]
theorem decode_cons (c : UInt8) (l : List UInt8) (p : Nat) : Utf8.decode ⟨(c :: l).toArray⟩ (p + 1) = Utf8.decode ⟨l.toArray⟩ p := by
 have h : ∀ k, (⟨(c :: l).toArray⟩ : ByteArray).get! (p + 1 + k) = (⟨l.toArray⟩ : ByteArray).get! (p + k) := fun k => by
  rw [show p + 1 + k = (p + k) + 1 from by omega]
  exact get_cons c l _
 have hz : ∀ k, decide (p + 1 + k < (⟨(c :: l).toArray⟩ : ByteArray).size) = decide (p + k < (⟨l.toArray⟩ : ByteArray).size) := fun k => by
  show decide (p + 1 + k < (List.toArray (c :: l)).size) = decide (p + k < (List.toArray l).size)
  simp only [List.size_toArray, List.length_cons]
  rw [decide_eq_decide]
  omega
 simp only [Utf8.decode, h, hz]
theorem deFrom_cons (c : UInt8) (l : List UInt8) : ∀ (fuel p : Nat), deFrom ⟨(c :: l).toArray⟩ fuel (p + 1) = deFrom ⟨l.toArray⟩ fuel p
 | 0, _ => rfl
 | fuel + 1, p => by
   simp only [deFrom]
   rw [decode_cons, show p + 1 + (Utf8.decode ⟨l.toArray⟩ p).2 = (p + (Utf8.decode ⟨l.toArray⟩ p).2) + 1 from by omega, deFrom_cons c l fuel]
   have hz : (p + 1 < (⟨(c :: l).toArray⟩ : ByteArray).size) ↔ (p < (⟨l.toArray⟩ : ByteArray).size) := by
    show p + 1 < (List.toArray (c :: l)).size ↔ p < (List.toArray l).size
    simp only [List.size_toArray, List.length_cons]
    omega
   by_cases h : p < (⟨l.toArray⟩ : ByteArray).size
   ·rw [if_pos h, if_pos (hz.2 h)]
   ·rw [if_neg h, if_neg (fun g => h (hz.1 g))]
theorem ruF_ascii (c : UInt8) (h0 : c ≠ 0) (h : c.toNat < 128) : ruF c.toNat = [c] := by
 have h1 : c.toNat ≠ 0 := fun e => h0 (UInt8.toNat_inj.1 e)
 unfold ruF
 rw [if_neg h1]
 have hall : ∀ n : Fin 128, Lib.encodeRune ((n.val : Nat) : Int) = [UInt8.ofNat n.val] := by decide
 have := hall ⟨c.toNat, h⟩
 simpa using this
theorem deF_cons (c : UInt8) (l : List UInt8) (h0 : c ≠ 0) (h : c.toNat < 128) : deF ⟨(c :: l).toArray⟩ = c :: deF ⟨l.toArray⟩ := by
 have hs : (⟨(c :: l).toArray⟩ : ByteArray).size = l.length + 1 := by show (List.toArray (c :: l)).size = _; simp
 have hl : (⟨l.toArray⟩ : ByteArray).size = l.length := by show (List.toArray l).size = _; simp
 have hd : Utf8.decode ⟨(c :: l).toArray⟩ 0 = (c.toNat, 1) := by
  exact decode_ascii ⟨(c :: l).toArray⟩ 0 (by omega) h
 unfold deF
 rw [hs, hl]
 simp only [deFrom]
 rw [hs, if_pos (by omega), hd]
 rw [ruF_ascii c h0 h, deFrom_cons c l l.length 0]
 rfl
theorem rep_cons (c : UInt8) (l old new : List UInt8) (h : old.isPrefixOf (c :: l) = false) (h0 : old ≠ []) : Lib.replaceAll (c :: l) old new = c :: Lib.replaceAll l old new := by
 unfold Lib.replaceAll Lib.replace
 by_cases e : (old == new) = true
 ·rw [if_pos e, if_pos e]
 rw [if_neg e, if_neg e]
 have hix : Lib.index (c :: l) old = if Lib.index l old == -1 then -1 else Lib.index l old + 1 := by rw [Lib.index, h]; simp
 by_cases hm : Lib.index l old = -1
 ·have h2 : Lib.index (c :: l) old = -1 := by rw [hix, if_pos (beq_iff_eq.2 hm)]
  simp [Lib.replaceNum, Lib.count_miss hm, Lib.count_miss h2, Lib.replaceK]
 ·have hge := Lib.index_ge l old
  obtain ⟨j, hj⟩ : ∃ j : Nat, Lib.index l old = j := ⟨(Lib.index l old).toNat, by omega⟩
  have hj' : Lib.index (c :: l) old = ((j + 1 : Nat) : Int) := by rw [hix, if_neg (fun e => hm (beq_iff_eq.1 e)), hj]; omega
  have e1 : Lib.replaceNum l old (-1) = Lib.count (l.drop (j + old.length)) old + 1 := by
   unfold Lib.replaceNum
   rw [if_pos (Or.inl (by decide)), Lib.count_hit h0 hj, Nat.add_comm]
  have hd : (c :: l).drop (j + 1 + old.length) = l.drop (j + old.length) := by
   rw [show j + 1 + old.length = (j + old.length) + 1 from by omega, List.drop_succ_cons]
  have e2 : Lib.replaceNum (c :: l) old (-1) = Lib.count (l.drop (j + old.length)) old + 1 := by
   unfold Lib.replaceNum
   rw [if_pos (Or.inl (by decide)), Lib.count_hit h0 hj', hd, Nat.add_comm]
  rw [e1, e2, Lib.replaceK_hit _ _ _ _ _ hj, Lib.replaceK_hit _ _ _ _ _ hj', hd]
  simp
theorem lineF_cons (c : UInt8) (l : List UInt8) (h : c ≠ 13) : lineF (c :: l) = c :: lineF l := by
 unfold lineF
 rw [rep_cons c l [13, 10] [10] (by simp [List.isPrefixOf, Ne.symm h]) (by simp), rep_cons c _ [13] [10] (by simp [List.isPrefixOf, Ne.symm h]) (by simp)]
def easyB (c : UInt8) : Bool := decide (c ≠ 0) && decide (c ≠ 13) && decide (c.toNat < 128)
theorem readyF_cons (c : UInt8) (l : List UInt8) (h : easyB c = true) : readyF (c :: l) = c :: readyF l := by
 simp only [easyB, Bool.and_eq_true, decide_eq_true_eq] at h
 unfold readyF
 rw [deF_cons c l h.1.1 h.2, lineF_cons c _ h.1.2]
theorem readyF_nil : readyF [] = [] := by decide
theorem readyF_pre (p l : List UInt8) (h : p.all easyB = true) : readyF (p ++ l) = p ++ readyF l := by
 induction p with
 | nil => rfl
 | cons c p ih =>
   simp only [List.all_cons, Bool.and_eq_true] at h
   rw [List.cons_append, readyF_cons c _ h.1, ih h.2]
   rfl
theorem readyF_easy (p : List UInt8) (h : p.all easyB = true) : readyF p = p := by
 have := readyF_pre p [] h
 rwa [readyF_nil, List.append_nil] at this
theorem readyF_len (l : List UInt8) : (readyF l).length ≤ 4 * l.length := by
 have hd := deFrom_len ⟨l.toArray⟩ (⟨l.toArray⟩ : ByteArray).size 0
 have h2 : (readyF l).length ≤ (deF ⟨l.toArray⟩).length := by
  unfold readyF lineF
  exact Nat.le_trans (replaceAll_len _ _ _ (by decide)) (replaceAll_len _ _ _ (by decide))
 have hz : (⟨l.toArray⟩ : ByteArray).size = l.length := by show (List.toArray l).size = _; simp
 unfold deF at h2
 omega
end Go.Proofs.YtkcmghlhpbepcaaGreatDoor.Ch

/- Plain: TokenAgain, second part: what is written of the tokens of any bytes is cut to these, texts that stood side by side joined. No program in sight. -/
namespace Go.Proofs.YtkcmghlhpbepcaaGreatDoor
open Go.Proofs
def tellP (p : Txt) : List Tok := if p = [] then [] else [⟨0, [], [], p, false⟩]
def joinP : Txt → List Tok → List Tok
 | p, [] => tellP p
 | p, t :: r => if t.kind = 0 then joinP (p ++ t.data) r else tellP p ++ t :: joinP [] r
structure Pend (q p : Txt) : Prop where
 dec : ∀ r, decL (q ++ r) = p ++ decL r
 no : (60 : UInt8) ∉ q
 nil : q = [] ↔ p = []
end Go.Proofs.YtkcmghlhpbepcaaGreatDoor

/- Plain: how long what is written of the tokens of some bytes can be. No program in sight. -/
namespace Go.Proofs.YtkcmghlhpbepcaaGreatDoor
open Go.Proofs
def wt (t : Tok) : Nat := if t.kind = 0 then 6 * t.data.length else (tokW false t).length
def wts (l : List Tok) : Nat := (l.map wt).sum
theorem wts_app (a b : List Tok) : wts (a ++ b) = wts a + wts b := by simp [wts]
theorem wts_nil : wts [] = 0 := rfl
theorem wts_one (t : Tok) : wts [t] = wt t := by simp [wts]
theorem wts_cons (t : Tok) (l : List Tok) : wts (t :: l) = wt t + wts l := by simp [wts]
theorem decL_le (l : Txt) : (decL l).length ≤ l.length := decL_len _ l (Nat.le_refl _)
theorem valF_len (nm s : Txt) : (valF nm s).1.1 = nm ∧ (valF nm s).1.2.length + (valF nm s).2.1.length ≤ s.length := by
 unfold valF
 split
 ·simp
 ·rename_i q t
  split
  ·have h1 := cut1_len q t
   have h2 := decL_le (cut1 q t).1
   refine ⟨rfl, ?_⟩
   simp only [List.length_cons]
   omega
  ·have h2 := decL_le ((q :: t).take (wordK (q :: t)))
   refine ⟨rfl, ?_⟩
   simp only [List.length_take, List.length_drop] at *
   omega
theorem attrR_len (nm s : Txt) : (attrR nm s).1.1 = nm ∧ (attrR nm s).1.2.length + (attrR nm s).2.1.length ≤ s.length := by
 have h1 := skipS_le s
 unfold attrR
 split
 ·simp
 ·rename_i c t h
  rw [h] at h1
  simp only [List.length_cons] at h1
  split
  ·have h2 := valF_len nm (skipS t)
   have h3 := skipS_le t
   refine ⟨h2.1, ?_⟩
   omega
  ·simp
theorem attrF_len (s : Txt) : (attrF s).1.1.length + (attrF s).1.2.length + (attrF s).2.1.length ≤ s.length := by
 have h := attrR_len (lowL (s.take (attrK s))) (s.drop (attrK s))
 unfold attrF
 rw [h.1]
 have h2 := h.2
 simp only [lowL, List.length_map, List.length_take, List.length_drop] at *
 omega
theorem addA_len (acc : List (Txt × Txt)) (a : Txt × Txt) : (attrsW (addA acc a)).length ≤ (attrsW acc).length + 4 + a.1.length + 6 * a.2.length := by
 unfold addA
 split
 ·omega
 ·have e : attrsW (acc ++ [a]) = attrsW acc ++ attrsW [a] := by simp only [attrsW, List.flatMap_append]
  have h := wr_len true a.2
  rw [e, List.length_append]
  simp only [attrsW, List.flatMap_cons, List.flatMap_nil, List.append_nil, List.length_cons, List.length_append, List.length_nil]
  omega
theorem attrsN_len : ∀ (n : Nat) (acc : List (Txt × Txt)) (s : Txt) r, attrsN n acc s = some r → (attrsW r.1).length + 20 * (r.2.2.length + 1) ≤ (attrsW acc).length + 20 * s.length
 | 0, _, _, _, h => by simp [attrsN] at h
 | n + 1, acc, s, r, h => by
   unfold attrsN at h
   cases hd : s.drop (gapF s) with
   | nil => rw [hd] at h; simp at h
   | cons c s1 =>
     rw [hd] at h
     have hg := gap_head hd
     have h1 : s1.length + 1 ≤ s.length := by
      have := congrArg List.length hd
      simp at this
      omega
     simp only at h
     split at h
     ·simp at h
      subst h
      simp only
      omega
     ·rename_i hc
      split at h
      ·have ih := attrsN_len n _ _ r h
       have h2 := addA_len acc (attrF (c :: s1)).1
       have h3 := attrF_len (c :: s1)
       have h4 := (attrF_name (s := s1) hg.1 hc).ne
       have h5 := List.length_pos_iff.2 h4
       simp only [List.length_cons] at h3
       omega
      ·simp at h
theorem opened_len {s r : Txt} {t : Tok} (h : openedF s = some (t, r)) : t.name.length + (attrsW t.attrs).length + 20 * r.length + 20 ≤ 20 * s.length ∧ t.data = [] := by
 unfold openedF at h
 cases ha : attrsF [] (s.drop (s.findIdx slashedB)) with
 | none => rw [ha] at h; simp at h
 | some q =>
   rw [ha] at h
   simp at h
   have h2 := attrsN_len _ _ _ _ ha
   obtain ⟨rfl, rfl⟩ := h
   have hk : s.findIdx slashedB ≤ s.length := List.findIdx_le_length
   refine ⟨?_, rfl⟩
   simp only [lowL, List.length_map, List.length_take, List.length_drop, attrsW, List.flatMap_nil, List.length_nil] at *
   omega
theorem inside_len (nm s : Txt) : wts (insideT nm s) + 20 * (insideR nm s).length ≤ 20 * s.length := by
 have hl := endF_le nm s
 unfold insideT insideR
 rw [List.length_drop]
 split
 ·rw [wts_nil]; omega
 ·rw [wts_one, wt, if_pos rfl]
  have h2 := decL_le (s.take (endF nm s))
  rw [List.length_take] at h2
  split
  ·simp only; omega
  ·simp only [List.length_take]; omega
theorem wt_k1 (nm : Txt) (l : List (Txt × Txt)) (d : Txt) (b : Bool) : wt ⟨1, nm, l, d, b⟩ = (taggedW [60] ⟨1, nm, l, d, b⟩).length := rfl
theorem wt_k2 (nm : Txt) : wt ⟨2, nm, [], [], false⟩ = (taggedW [60, 47] ⟨0, nm, [], [], false⟩).length := rfl
theorem wt_k3 (d : Txt) : wt ⟨3, [], [], d, false⟩ = ([60, 33, 45, 45] ++ d ++ [45, 45, 62]).length := rfl
theorem wt_k4 (d : Txt) : wt ⟨4, [], [], d, false⟩ = ([60, 33, 100, 111, 99, 116, 121, 112, 101, 32] ++ d ++ [62]).length := rfl
theorem tag_len {k : Int} (hk : k = 1 ∨ k = 2) (s : Txt) : wts (tagF k s).1 + 20 * (tagF k s).2.length ≤ 20 * (s.length + 1) := by
 unfold tagF
 cases ho : openedF s with
 | none => simp [wts]
 | some x =>
   obtain ⟨t, r⟩ := x
   obtain ⟨h1, hd⟩ := opened_len ho
   have hs : (selfW t.self).length ≤ 2 := by unfold selfW; split <;> simp
   have w1 : wt ⟨1, t.name, t.attrs, t.data, t.self⟩ ≤ t.name.length + (attrsW t.attrs).length + 4 := by
    rw [wt_k1]
    simp only [taggedW, List.length_append, List.length_cons, List.length_nil]
    omega
   have w2 : wt ⟨2, t.name, [], [], false⟩ ≤ t.name.length + 4 := by
    rw [wt_k2]
    simp only [taggedW, attrsW, selfW, List.flatMap_nil, List.length_append, List.length_cons, List.length_nil, Bool.false_eq_true, if_false]
    omega
   simp only
   rcases hk with rfl | rfl
   ·rw [if_neg (by decide)]
    split
    ·have h2 := inside_len t.name r
     simp only [wts_cons]
     omega
    ·rw [wts_one]
     simp only
     omega
   ·rw [if_pos rfl, wts_one]
    simp only
    omega
theorem cut_sum (s e : Txt) : (Lib.cut s e).1.length + (Lib.cut s e).2.1.length ≤ s.length := by
 unfold Lib.cut
 split
 ·simp
  omega
 ·simp
theorem trim_len (s : Txt) : (trimL s).length ≤ s.length := by
 unfold trimL
 rw [List.length_reverse]
 have h1 := dropWhile_le (p := spaceB) (s.dropWhile spaceB).reverse
 have h2 := dropWhile_le (p := spaceB) s
 rw [List.length_reverse] at h1
 omega
theorem note_len {k : Int} (hk : k = 3 ∨ k = 4) (s e : Txt) : wts (noteF k s e).1 + 20 * (noteF k s e).2.length ≤ 20 * s.length + 11 := by
 have h := cut_sum s e
 have h2 := trim_len (Lib.cut s e).1
 unfold noteF untilF
 rw [wts_one]
 rcases hk with rfl | rfl
 ·rw [wt_k3, if_neg (by decide)]
  simp only [List.length_append, List.length_cons, List.length_nil]
  omega
 ·rw [wt_k4]
  simp only [if_true, List.length_append, List.length_cons, List.length_nil]
  omega
theorem comment_len (s : Txt) : wts (commentF s).1 + 20 * (commentF s).2.length ≤ 20 * s.length + 11 := by
 have w3 : wt ⟨3, [], [], [], false⟩ = 7 := by decide
 unfold commentF
 split
 ·rw [wts_one, w3]; simp; omega
 ·split
  ·rw [wts_one, w3]; simp; omega
  ·exact note_len (.inl rfl) _ _
theorem open_len {s r : Txt} {ts : List Tok} (h : openF s = some (ts, r)) : wts ts + 20 * r.length ≤ 20 * (s.length + 1) := by
 have hx : ∀ {x : List Tok × Txt} {n : Nat}, some x = some (ts, r) → wts x.1 + 20 * x.2.length ≤ n → wts ts + 20 * r.length ≤ n := by
  intro x n e hn
  simp only [Option.some.injEq] at e
  rw [e] at hn
  exact hn
 unfold openF at h
 split at h
 ·exact hx h (tag_len (.inl rfl) s)
 ·split at h
  ·have := tag_len (.inr rfl) s.tail
   rw [List.length_tail] at this
   exact hx h (by omega)
  ·split at h
   ·exact hx h (by simp [wts]; omega)
   ·split at h
    ·have := comment_len (s.drop 3)
     rw [List.length_drop] at this
     exact hx h (by omega)
    ·split at h
     ·have := note_len (.inr rfl) (s.drop 8) [62]
      rw [List.length_drop] at this
      exact hx h (by omega)
     ·split at h
      ·have := note_len (.inl rfl) s.tail [62]
       rw [List.length_tail] at this
       exact hx h (by omega)
      ·split at h
       ·have := note_len (.inl rfl) s [62]
        exact hx h (by omega)
       ·split at h
        ·have := note_len (.inl rfl) s.tail [62]
         rw [List.length_tail] at this
         exact hx h (by omega)
        ·simp at h
theorem tell_len (t : Txt) : wts (tellF t) ≤ 20 * t.length := by
 unfold tellF
 split
 ·simp [wts]
 ·have := decL_le t
  rw [wts_one, wt, if_pos rfl]
  simp only
  omega
theorem runN_len : ∀ (n : Nat) (t s : Txt), wts (runN n t s) ≤ 20 * (t.length + s.length)
 | 0, t, s => by
   have := tell_len t
   rw [runN]
   omega
 | n + 1, t, s => by
   have ht := tell_len (t ++ s.take (textF s))
   have hf : textF s ≤ s.length := List.findIdx_le_length
   rw [List.length_append, List.length_take] at ht
   unfold runN
   cases hd : s.drop (textF s) with
   | nil =>
     simp only
     omega
   | cons c s1 =>
     have h1 : textF s + (s1.length + 1) = s.length := by
      have := congrArg List.length hd
      simp at this
      omega
     simp only
     cases ho : openF s1 with
     | none =>
       have := runN_len n (t ++ s.take (textF s) ++ [60]) s1
       simp only [List.length_append, List.length_take, List.length_cons, List.length_nil] at this
       simp only
       omega
     | some x =>
       obtain ⟨ts, r⟩ := x
       have h2 := open_len ho
       have h3 := runN_len n [] r
       simp only [List.length_nil] at h3
       simp only
       rw [wts_app, wts_app]
       omega
end Go.Proofs.YtkcmghlhpbepcaaGreatDoor

/- The trees of bytes, in lists alone. -/
namespace Go.Proofs.YtkcmghlhpbepcaaGreatDoorH.W7
open Go.RowKit Go.Proofs Go.Proofs.YtkcmghlhpbepcaaGreatDoorH Go.Proofs.YtkcmghlhpbepcaaGreatDoor Go.Proofs.YtkcmghlhpbepcaaGreatDoorW.PrintWords Go.Proofs.YtkcmghlhpbepcaaGreatDoor.Ch
theorem toList_app (a b : ByteArray) : (a ++ b).data.toList = a.data.toList ++ b.data.toList := by
 rw [ByteArray.data_append, Array.toList_append]
theorem bt_mem (s : ByteArray) (c : UInt8) (hc : c ∈ s.data.toList) : ∃ j : Nat, j < s.size ∧ bt s (j : Int) = (c.toNat : Int) := by
 obtain ⟨j, hj, e⟩ := List.getElem_of_mem hc
 have hz : s.data.toList.length = s.size := Array.length_toList
 refine ⟨j, by omega, ?_⟩
 have hj2 : ((j : Int)).toNat < s.size := by rw [Int.toNat_natCast]; omega
 rw [← bt_at s (j : Int) hj2, ← e]
 rfl
theorem at_le : ∀ (l : List (Txt × Txt)), l.length ≤ (attrsW l).length
 | [] => Nat.le_refl _
 | a :: l => by
   have := at_le l
   have e : attrsW (a :: l) = (32 :: (a.1 ++ 61 :: 34 :: (wrL true a.2 ++ [34]))) ++ attrsW l := rfl
   rw [e, List.length_append]
   simp only [List.length_cons]
   omega
theorem tok_small {t : Tok} (h : ShapeOK t) : t.data.length ≤ wt t ∧ t.attrs.length ≤ wt t := by
 have hg := h.ge
 have hl := h.le
 by_cases k1 : t.kind = 1
 ·have hd := (h.tag (Or.inl k1)).2
  obtain ⟨k, nm, at_, d, sf⟩ := t
  simp only at k1 hd
  subst k1
  subst hd
  refine ⟨Nat.zero_le _, ?_⟩
  rw [wt_k1]
  have := at_le at_
  simp only [taggedW, List.length_append]
  omega
 ·have ha := (h.start k1).1
  rw [ha]
  refine ⟨?_, Nat.zero_le _⟩
  by_cases k0 : t.kind = 0
  ·unfold wt
   rw [if_pos k0]
   omega
  ·by_cases k2 : t.kind = 2
   ·rw [(h.tag (Or.inr k2)).2]
    exact Nat.zero_le _
   ·have hn := h.other k1 k2
    obtain ⟨k, nm, at_, d, sf⟩ := t
    simp only at k0 k1 k2 ha hn hg hl
    obtain ⟨rfl, -⟩ := h.start k1
    obtain rfl := hn
    have hs := (h.start k1).2
    simp only at hs
    subst hs
    rcases (show k = 3 ∨ k = 4 from by omega) with rfl | rfl
    ·rw [wt_k3]; simp only [List.length_append]; omega
    ·rw [wt_k4]; simp only [List.length_append]; omega
theorem wt_mem {t : Tok} : ∀ {L : List Tok}, t ∈ L → wt t ≤ wts L
 | [], h => by cases h
 | x :: L, h => by
   rw [wts_cons]
   rcases List.mem_cons.1 h with rfl | h
   ·omega
   ·have := wt_mem h
    omega
theorem inL_len (s nm : Txt) : wts (inL s nm) ≤ 20 * s.length := by
 unfold inL
 split
 ·have h1 := inside_len nm s
  have h2 : wts (runF [] (insideR nm s)) ≤ 20 * (([] : Txt).length + (insideR nm s).length) := runN_len _ _ _
  rw [wts_app]
  simp only [List.length_nil] at h2
  omega
 ·have h2 : wts (runF [] s) ≤ 20 * (([] : Txt).length + s.length) := runN_len _ _ _
  simpa using h2
theorem inL_ok (s nm : Txt) : ∀ t ∈ inL s nm, ShapeOK t := by
 unfold inL
 split
 ·intro t ht
  rcases List.mem_append.1 ht with h | h
  ·exact inside_ok nm s t h
  ·exact runN_ok _ _ _ t h
 ·exact runN_ok _ _ _
theorem sumT_le : ∀ (L : List Tok), (∀ t ∈ L, ShapeOK t) → sumT (L.map tokT) ≤ wts L
 | [], _ => Nat.zero_le _
 | t :: L, h => by
   have h1 := (tok_small (h t (by simp))).1
   have h2 := sumT_le L (fun x hx => h x (List.mem_cons_of_mem _ hx))
   have e : sumT ((t :: L).map tokT) = (tokT t).f2.size + sumT (L.map tokT) := by simp [sumT]
   have e2 : (tokT t).f2.size = t.data.length := by show (List.toArray t.data).size = _; simp
   rw [e, e2, wts_cons]
   omega
def toksF (s nm : Txt) : List Tk := (inL (readyF s) nm).map tokT
def ansF (o : Option (List Rw)) : List Rw × Int := match o with | none => ([], 2) | some r => (r, 0)
theorem toks_small (s nm : Txt) (hs : s.length ≤ 1000000) : sumT (toksF s nm) ≤ 80 * s.length ∧ ∀ t ∈ toksF s nm, t.f3.length ≤ 80 * s.length := by
 have h1 := readyF_len s
 have h2 := inL_len (readyF s) nm
 have hk := inL_ok (readyF s) nm
 have h3 := sumT_le _ hk
 refine ⟨by unfold toksF; omega, fun t ht => ?_⟩
 obtain ⟨x, hx, rfl⟩ := List.mem_map.1 ht
 have h4 := (tok_small (hk x hx)).2
 have h5 := wt_mem hx
 show (x.attrs.map pairT).length ≤ _
 rw [List.length_map]
 omega
theorem in_val (s nm : ByteArray) (hs : s.size ≤ 10000) : build_In.f s nm = some (ansF (treeP (toksF s.data.toList nm.data.toList) [] [])) := by
 have hz : s.data.toList.length = s.size := Array.length_toList
 have h1 := readyF_len s.data.toList
 obtain ⟨h2, h3⟩ := toks_small s.data.toList nm.data.toList (by omega)
 unfold build_In.f
 rw [if_neg (by omega)]
 unfold chars_Ready.f
 rw [if_pos (by omega), Option.bind_some]
 unfold token_In.f
 have hq : (⟨(readyF s.data.toList).toArray⟩ : ByteArray).size = (readyF s.data.toList).length := by show (List.toArray _).size = _; simp
 rw [if_pos (by omega), Option.bind_some]
 have ht := tree_f (toksF s.data.toList nm.data.toList) (by omega) (fun t ht => by have := h3 t ht; omega)
 show (build_Tree.f (toksF s.data.toList nm.data.toList)).bind _ = _
 rw [ht, Option.bind_some]
 rfl
theorem parse_val (s : ByteArray) (hs : s.size ≤ 10000) : build_Parse.f s = some (ansF (treeP (toksF s.data.toList []) [] [])) := by
 unfold build_Parse.f
 rw [in_val s ⟨#[]⟩ hs, Option.bind_some]
theorem in_big (s nm : ByteArray) (hs : 65536 < s.size) : build_In.f s nm = some ([], 2) := by
 unfold build_In.f
 rw [if_pos (by omega)]
theorem bytes_big (s : ByteArray) (hs : 65536 < s.size) : build_Parse.f s = some ([], 2) := by
 unfold build_Parse.f
 rw [in_big s ⟨#[]⟩ hs, Option.bind_some]
end Go.Proofs.YtkcmghlhpbepcaaGreatDoorH.W7

/- Elements within one another, in lists alone. -/
namespace Go.Proofs.YtkcmghlhpbepcaaGreatDoorH.W7
open Go.RowKit Go.Proofs Go.Proofs.YtkcmghlhpbepcaaGreatDoorH Go.Proofs.YtkcmghlhpbepcaaGreatDoor Go.Proofs.YtkcmghlhpbepcaaGreatDoorW.PrintWords Go.Proofs.YtkcmghlhpbepcaaGreatDoor.Ch
open Go.Proofs.YtkcmghlhpbepcaaGreatDoorW.PrintLast (i64_w i32_w)
theorem and_small (x : Int) (m : Nat) (hm : m < 4000000000) : 0 ≤ Go.bits .and .i64 x m ∧ Go.bits .and .i64 x m ≤ m := by
 have h1 : (BitVec.ofInt 64 x &&& BitVec.ofInt 64 (m : Int)).toNat ≤ m := by
  rw [BitVec.toNat_and]
  refine Nat.le_trans Nat.and_le_right ?_
  rw [BitVec.toNat_ofInt]
  omega
 have e : Go.bits .and .i64 x m = IntKind.i64.wrap (((BitVec.ofInt 64 x &&& BitVec.ofInt 64 (m : Int)).toNat : Nat) : Int) := rfl
 rw [e]
 generalize (BitVec.ofInt 64 x &&& BitVec.ofInt 64 (m : Int)).toNat = n at *
 have e2 : IntKind.i64.wrap (n : Int) = wrap64 n := i64_w n
 rw [e2]
 unfold wrap64
 omega
abbrev bN : ByteArray := ⟨#[98]⟩
abbrev bTk : Tk := ⟨1, bN, ⟨#[]⟩, [], false⟩
def bS : Nat → Txt
 | 0 => []
 | n + 1 => 60 :: 98 :: 62 :: bS n
theorem bS_app : ∀ n, bS n ++ [60, 98, 62] = bS (n + 1)
 | 0 => rfl
 | n + 1 => by
   show 60 :: 98 :: 62 :: (bS n ++ [60, 98, 62]) = _
   rw [bS_app n]
   rfl
theorem bS_len : ∀ n, (bS n).length = 3 * n
 | 0 => rfl
 | n + 1 => by
   show (bS n).length + 3 = _
   rw [bS_len n]
   omega
theorem bS_easy : ∀ n, (bS n).all easyB = true
 | 0 => rfl
 | n + 1 => by
   simp only [bS, List.all_cons, bS_easy n]
   decide
theorem tag_b : TagName [98] := right_name (by decide)
theorem run_b : ∀ n, runF [] (bS n) = List.replicate n (⟨1, [98], [], [], false⟩ : Tok)
 | 0 => run_nil []
 | n + 1 => by
   have ho : openF (98 :: 62 :: bS n) = some ([⟨1, [98], [], [], false⟩], bS n) := by
    have := open_start (nm := [98]) (r := bS n) (l := []) (b := false) tag_b (by simp) (by simp)
    rw [show (rawB [98] || softB [98]) = false from by decide] at this
    simpa [attrsW, selfW] using this
   show runF [] (60 :: (98 :: 62 :: bS n)) = _
   rw [run_open ho, run_b n]
   rfl
theorem toks_b (n : Nat) : toksF (bS n) [] = List.replicate n bTk := by
 unfold toksF
 rw [readyF_easy _ (bS_easy n)]
 unfold inL
 rw [show (rawB [] || softB []) = false from by decide, if_neg (by decide), run_b, List.map_replicate]
 rfl
theorem found_none (xs walls : List ByteArray) : ∀ k, foundK xs [] walls k = -1
 | 0 => rfl
 | k + 1 => by
   simp only [foundK]
   rw [show Lib.containsS [] (xs.getD k ⟨#[]⟩) = false from rfl, if_neg (by decide), found_none xs walls k]
   split <;> rfl
theorem close_none (walls op : List ByteArray) : closeA [] walls op = op := by
 unfold closeA
 simp only [closeF]
 rw [if_pos (by rw [found_none]; decide)]
theorem closes_b : closesL bN = [] := by kernel_rfl
theorem par_b : parL bN = false := by kernel_rfl
theorem gone_b : goneL bN = false := by kernel_rfl
theorem void_b : voidL bN = false := by kernel_rfl
theorem start_b (op : List ByteArray) : startOp op bN = op := by
 unfold startOp
 rw [par_b, if_neg (by decide), closes_b, close_none]
theorem step_b (op : List ByteArray) (out : List Rw) : stepF op out bTk = (op ++ [bN], (layF op out false ⟨0, 0, bN, ⟨#[]⟩, []⟩).1, (layF op out false ⟨0, 0, bN, ⟨#[]⟩, []⟩).2) := by
 unfold stepF
 rw [if_neg (by decide), if_neg (by decide), if_pos rfl]
 unfold startF
 rw [if_neg (by decide), gone_b, if_neg (by decide), void_b, if_neg (by decide), start_b]
 rfl
theorem tree_b : ∀ (d : Nat) (op : List ByteArray) (out : List Rw), out.length = op.length → op.length ≤ 60 →
 (op.length + d ≤ 60 → ∃ o, treeP (List.replicate d bTk) op out = some o ∧ o.length = op.length + d) ∧ (60 < op.length + d → treeP (List.replicate d bTk) op out = none)
 | 0, op, out, h, h60 => ⟨fun _ => ⟨out, rfl, by omega⟩, fun h2 => by omega⟩
 | d + 1, op, out, h, h60 => by
   rw [List.replicate_succ]
   simp only [treeP]
   rw [step_b]
   by_cases hb : 4096 ≤ out.length ∨ 60 ≤ op.length
   ·have : layF op out false ⟨0, 0, bN, ⟨#[]⟩, []⟩ = (out, true) := by unfold layF; rw [if_pos hb]
    rw [this, if_pos rfl]
    exact ⟨fun h2 => by omega, fun _ => rfl⟩
   ·have : layF op out false ⟨0, 0, bN, ⟨#[]⟩, []⟩ = (out ++ [⟨op.length, 0, bN, ⟨#[]⟩, []⟩], false) := by unfold layF; rw [if_neg hb]
    rw [this, if_neg (by simp)]
    obtain ⟨h1, h2⟩ := tree_b d (op ++ [bN]) (out ++ [⟨op.length, 0, bN, ⟨#[]⟩, []⟩]) (by simp [h]) (by simp; omega)
    simp only [List.length_append, List.length_cons, List.length_nil] at h1 h2
    refine ⟨fun g => ?_, fun g => h2 (by omega)⟩
    obtain ⟨o, e1, e2⟩ := h1 (by omega)
    exact ⟨o, e1, by omega⟩
end Go.Proofs.YtkcmghlhpbepcaaGreatDoorH.W7

/- Words and walks used below. -/
namespace Go.Proofs.YtkcmghlhpbepcaaGreatDoorH.W7
open Go.RowKit Go.Proofs.YtkcmghlhpbepcaaGreatDoorW.PrintWords Go.Proofs.YtkcmghlhpbepcaaGreatDoorW.PrintLast Go.Proofs.YtkcmghlhpbepcaaGreatDoorW.PrintMore
attribute [local go_sem] max2_int min2_int max_two min_two max_three min_three max_four min_four   -- for this text's walks alone
def fold_Space.f (a0 : Int) : Option (Bool) := if a0 = 32 then (some true) else (if a0 = 9 then (some true) else (if a0 = 10 then (some true) else (if a0 = 12 then (some true) else (some (a0 == 13)))))
set_option maxHeartbeats 8000000 in
set_option maxRecDepth 100000 in
theorem fold_Space.calls (a0 : Int) (r : Bool) (w : World) (h : fold_Space.f a0 = some r) :
 Calls Tryz.prog 128 #[.int .u8 a0] w fun e w' => e = .returned (.bool r) ∧ Drawn0 w w' := by
 have H : (if a0 = 32 then (some true) else (if a0 = 9 then (some true) else (if a0 = 10 then (some true) else (if a0 = 12 then (some true) else (some (a0 == 13)))))) = some r := h
 clear h
 by_cases c2 : a0 = 32
 ·rw [if_pos c2] at H
  have c2b0 : (a0 == 32) = true := beq_iff_eq.mpr c2
  have c2b1 : (a0 != 32) = false := bne_eq_false_iff_eq.mpr c2
  clear c2
  obtain rfl := Option.some.inj H
  go_enter Tryz.func128, Tryz.ntmps128
  go_wp2
  go_ret
  exact ⟨by first | rfl | (simp; done) | (simp [*]; done) | (simp; generalize ByteArray.toList _ = l_; cases l_ <;> rfl), by repeat (first | exact Drawn0.refl _ | apply Drawn0.step)⟩
 ·rw [if_neg c2] at H
  have c2b0 : (a0 == 32) = false := beq_eq_false_iff_ne.mpr c2
  have c2b1 : (a0 != 32) = true := bne_iff_ne.mpr c2
  by_cases c3 : a0 = 9
  ·rw [if_pos c3] at H
   have c3b0 : (a0 == 9) = true := beq_iff_eq.mpr c3
   have c3b1 : (a0 != 9) = false := bne_eq_false_iff_eq.mpr c3
   clear c3
   obtain rfl := Option.some.inj H
   go_enter Tryz.func128, Tryz.ntmps128
   go_wp2
   go_ret
   exact ⟨by first | rfl | (simp; done) | (simp [*]; done) | (simp; generalize ByteArray.toList _ = l_; cases l_ <;> rfl), by repeat (first | exact Drawn0.refl _ | apply Drawn0.step)⟩
  ·rw [if_neg c3] at H
   have c3b0 : (a0 == 9) = false := beq_eq_false_iff_ne.mpr c3
   have c3b1 : (a0 != 9) = true := bne_iff_ne.mpr c3
   by_cases c4 : a0 = 10
   ·rw [if_pos c4] at H
    have c4b0 : (a0 == 10) = true := beq_iff_eq.mpr c4
    have c4b1 : (a0 != 10) = false := bne_eq_false_iff_eq.mpr c4
    clear c4
    obtain rfl := Option.some.inj H
    go_enter Tryz.func128, Tryz.ntmps128
    go_wp2
    go_ret
    exact ⟨by first | rfl | (simp; done) | (simp [*]; done) | (simp; generalize ByteArray.toList _ = l_; cases l_ <;> rfl), by repeat (first | exact Drawn0.refl _ | apply Drawn0.step)⟩
   ·rw [if_neg c4] at H
    have c4b0 : (a0 == 10) = false := beq_eq_false_iff_ne.mpr c4
    have c4b1 : (a0 != 10) = true := bne_iff_ne.mpr c4
    by_cases c5 : a0 = 12
    ·rw [if_pos c5] at H
     have c5b0 : (a0 == 12) = true := beq_iff_eq.mpr c5
     have c5b1 : (a0 != 12) = false := bne_eq_false_iff_eq.mpr c5
     clear c5
     obtain rfl := Option.some.inj H
     go_enter Tryz.func128, Tryz.ntmps128
     go_wp2
     go_ret
     exact ⟨by first | rfl | (simp; done) | (simp [*]; done) | (simp; generalize ByteArray.toList _ = l_; cases l_ <;> rfl), by repeat (first | exact Drawn0.refl _ | apply Drawn0.step)⟩
    ·rw [if_neg c5] at H
     have c5b0 : (a0 == 12) = false := beq_eq_false_iff_ne.mpr c5
     have c5b1 : (a0 != 12) = true := bne_iff_ne.mpr c5
     obtain rfl := Option.some.inj H
     go_enter Tryz.func128, Tryz.ntmps128
     go_wp2
     go_ret
     exact ⟨by first | rfl | (simp; done) | (simp [*]; done) | (simp; generalize ByteArray.toList _ = l_; cases l_ <;> rfl), by repeat (first | exact Drawn0.refl _ | apply Drawn0.step)⟩
end Go.Proofs.YtkcmghlhpbepcaaGreatDoorH.W7
