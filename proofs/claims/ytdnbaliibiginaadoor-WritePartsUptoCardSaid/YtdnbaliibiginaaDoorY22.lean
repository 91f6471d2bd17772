/- Lemmas and walks, part 22: QW8B, QW8C, QE8C. -/
import Derived.Test.YtdnbaliibiginaaDoorY13
import Derived.Test.YtdnbaliibiginaaDoorY21
import Derived.Test.YtdnbaliibiginaaDoorY4
import Derived.Test.YtdnbaliibiginaaDoorY5
import Derived.Lib.SliceRun
import Derived.Lib.Walk
set_option linter.unusedVariables false
set_option linter.unusedSimpArgs false

/- What the printed functions of layer 8 come to: right rows; the nodes that a node has, by both. Plain. -/
namespace Go.Proofs.YtdnbaliibiginaaDoorH.W8
open Go.RowKit Go.Proofs Go.Proofs.YtdnbaliibiginaaDoorH Go.Proofs.YtdnbaliibiginaaDoor Go.Proofs.YtdnbaliibiginaaDoorW.PrintWords
theorem rd35_at (xs : List Rw) (i : Nat) (h : i < xs.length) : rd_T35 xs i = xs[i] := by simp [rd_T35, h]
theorem row_loops (y0 y1 : Int) (y2 y3 : ByteArray) (l : List S45) (hn : l.length ≤ 6) : ∀ k : Nat,
  (∀ i : Nat, i ≤ l.length → (l.length - i) * 9 + 1 ≤ k → ∃ b, boltingref04_Row.l0 k i y0 y1 y2 y3 l = some b ∧ (b = true → y1 = 0)) ∧
  (∀ i j : Nat, i < l.length → j ≤ i → (i - j) + 2 + (l.length - i - 1) * 9 ≤ k → ∃ b, boltingref04_Row.l1 k i j y0 y1 y2 y3 l = some b ∧ (b = true → y1 = 0)) := by
 intro k
 induction k with
 | zero => exact ⟨fun i _ h => by omega, fun i j _ _ h => by omega⟩
 | succ k ih =>
  refine ⟨fun i hi hk => ?_, fun i j hi hj hk => ?_⟩
  ·simp only [boltingref04_Row.l0]
   by_cases h : i < l.length
   ·rw [if_pos (by omega)]
    exact ih.2 i 0 h (by omega) (by omega)
   ·rw [if_neg (by omega)]
    by_cases h1 : y1 = 0
    ·rw [if_pos h1]
     split
     ·exact ⟨_, rfl, fun h => by cases h⟩
     ·exact ⟨_, rfl, fun _ => h1⟩
    ·rw [if_neg h1]
     exact ⟨_, rfl, fun h => by cases h⟩
  ·simp only [boltingref04_Row.l1]
   by_cases h : j < i
   ·rw [if_pos (by omega), if_pos (by omega), if_pos (by omega), if_pos (by omega), if_pos (by omega)]
    split
    ·exact ⟨_, rfl, fun h => by cases h⟩
    ·rw [wN (by omega)]
     exact ih.2 i (j + 1) hi (by omega) (by omega)
   ·rw [if_neg (by omega), wN (by omega)]
    exact ih.1 (i + 1) (by omega) (by omega)
theorem row_f (x : Rw) (hn : x.f4.length ≤ 6) (k : Nat) (hk : 100 ≤ k) : ∃ b, boltingref04_Row.f k x.f0 x.f1 x.f2 x.f3 x.f4 = some b ∧ (b = true → x.f1 = 0 ∨ x.f1 = 1 ∨ x.f1 = 2) := by
 obtain ⟨k, rfl⟩ : ∃ m, k = m + 1 := ⟨k - 1, by omega⟩
 unfold boltingref04_Row.f
 by_cases h1 : x.f1 = 1
 ·rw [if_pos h1]
  simp only [boltingref04_Row.j0, if_true]
  split
  ·exact ⟨_, rfl, fun _ => .inr (.inl h1)⟩
  ·exact ⟨_, rfl, fun h => by cases h⟩
 ·rw [if_neg h1]
  by_cases h2 : x.f1 = 2
  ·rw [show (x.f1 == 2) = true from beq_iff_eq.2 h2]
   simp only [boltingref04_Row.j0, if_true]
   split
   ·exact ⟨_, rfl, fun _ => .inr (.inr h2)⟩
   ·exact ⟨_, rfl, fun h => by cases h⟩
  ·rw [show (x.f1 == 2) = false from beq_eq_false_iff_ne.2 h2]
   simp only [boltingref04_Row.j0]
   rw [if_neg (by decide)]
   obtain ⟨b, hb, hc⟩ := (row_loops x.f0 x.f1 x.f2 x.f3 x.f4 hn k).1 0 (by omega) (by omega)
   exact ⟨b, hb, fun h => .inl (hc h)⟩
structure OkAt (xs : List Rw) (i : Nat) : Prop where
 kind : (rd_T35 xs i).f1 = 0 ∨ (rd_T35 xs i).f1 = 1 ∨ (rd_T35 xs i).f1 = 2
 low : 0 ≤ depthAt xs i
 high : depthAt xs i ≤ i
 step : 0 < i → depthAt xs i ≤ depthAt xs (i - 1) + 1
def RightP (xs : List Rw) : Prop := ∀ j, j < xs.length → OkAt xs j
theorem right_l0 (xs : List Rw) (hl : xs.length < 100000) (ha : ∀ x ∈ xs, x.f4.length ≤ 6) : ∀ (d i k : Nat), xs.length - i ≤ d → i ≤ xs.length → 2 * d + 200 ≤ k → (∀ j, j < i → OkAt xs j) →
  ∃ b, boltingref04_Right.l0 k xs i = some b ∧ (b = true → RightP xs) := by
 intro d
 induction d with
 | zero =>
  intro i k hd hi hk hp
  obtain ⟨k, rfl⟩ : ∃ m, k = m + 1 := ⟨k - 1, by omega⟩
  simp only [boltingref04_Right.l0]
  rw [if_neg (by omega)]
  exact ⟨_, rfl, fun _ j hj => hp j (by omega)⟩
 | succ d ih =>
  intro i k hd hi hk hp
  by_cases h : i < xs.length
  ·obtain ⟨k, rfl⟩ : ∃ m, k = m + 1 + 1 := ⟨k - 2, by omega⟩
   obtain ⟨b, hb, hkind⟩ := row_f xs[i] (ha _ (List.getElem_mem h)) (k + 1) (by omega)
   have hd0 : depthAt xs i = xs[i].f0 := by unfold depthAt; rw [rd35_at xs i h]
   rw [boltingref04_Right.l0, if_pos (by omega), if_pos (by omega), rd35_at xs i h, hb, Option.bind_some]
   cases b with
   | false =>
    rw [if_neg (by decide)]
    simp only [boltingref04_Right.j1, if_true]
    exact ⟨_, rfl, fun h => by cases h⟩
   | true =>
    rw [if_pos rfl]
    by_cases h1 : xs[i].f0 < 0
    ·rw [if_pos h1]
     simp only [boltingref04_Right.j1, if_true]
     exact ⟨_, rfl, fun h => by cases h⟩
    ·rw [if_neg h1]
     have hkd : (rd_T35 xs i).f1 = 0 ∨ (rd_T35 xs i).f1 = 1 ∨ (rd_T35 xs i).f1 = 2 := by rw [rd35_at xs i h]; exact hkind rfl
     by_cases h0 : i = 0
     ·subst h0
      rw [if_pos (show ((0 : Nat) : Int) = 0 from rfl)]
      by_cases hz : xs[0].f0 = 0
      ·rw [show (xs[0].f0 != 0) = false from by simp [hz]]
       simp only [boltingref04_Right.j1]
       rw [if_neg (by decide), if_neg (by omega), show wrap64 (((0 : Nat) : Int) + 1) = ((0 + 1 : Nat) : Int) from wN (by omega)]
       refine ih 1 k (by omega) (by omega) (by omega) (fun j hj => ?_)
       obtain rfl : j = 0 := by omega
       exact ⟨hkd, by omega, by omega, fun h => by omega⟩
      ·rw [show (xs[0].f0 != 0) = true from by rw [bne_iff_ne]; exact hz]
       simp only [boltingref04_Right.j1, if_true]
       exact ⟨_, rfl, fun h => by cases h⟩
     ·rw [if_neg (by omega)]
      have hpi := hp (i - 1) (by omega)
      have hdm : depthAt xs (i - 1) = (rd_T35 xs ((i - 1 : Nat) : Int)).f0 := rfl
      have hw1 : wrap64 ((i : Int) - 1) = ((i - 1 : Nat) : Int) := by unfold wrap64; omega
      have hlo := hpi.low
      have hhi := hpi.high
      have hw2 : wrap64 (depthAt xs (i - 1) + 1) = depthAt xs (i - 1) + 1 := by unfold wrap64; omega
      rw [boltingref04_Right.j1, if_neg (by decide), if_pos (by omega), hw1, if_pos (by omega), if_pos (by omega), ← hdm, hw2]
      by_cases h2 : xs[i].f0 > depthAt xs (i - 1) + 1
      ·rw [if_pos h2]
       exact ⟨_, rfl, fun h => by cases h⟩
      ·rw [if_neg h2]
       have hnext : ∀ j, j < i + 1 → OkAt xs j := fun j hj => by
        by_cases e : j = i
        ·subst e
         exact ⟨hkd, by omega, by omega, fun _ => by omega⟩
        ·exact hp j (by omega)
       have hgo := ih (i + 1) k (by omega) (by omega) (by omega) hnext
       rw [wN (by omega)]
       split
       ·split
        ·exact hgo
        ·exact ⟨_, rfl, fun h => by cases h⟩
       ·exact hgo
  ·exact ih i k (by omega) hi (by omega) hp
theorem right_f (xs : List Rw) (hl : xs.length < 100000) (ha : ∀ x ∈ xs, x.f4.length ≤ 6) (k : Nat) (hk : 2 * xs.length + 200 ≤ k) : ∃ b, boltingref04_Right.f k xs = some b ∧ (b = true → RightP xs) :=
 right_l0 xs hl ha xs.length 0 k (by omega) (by omega) hk (fun j hj => by omega)
theorem spanN_in (d : Int) : ∀ (ys : List Rw) (m : Nat) (h : m < ys.length), m < spanN d ys → d < ys[m].f0
 | [], m, h, _ => by simp at h
 | y :: ys, 0, h, hm => by
  simp only [spanN] at hm
  split at hm
  ·assumption
  ·omega
 | y :: ys, m + 1, h, hm => by
  simp only [spanN] at hm
  split at hm
  ·exact spanN_in d ys m (by simpa using h) (by omega)
  ·omega
theorem spanN_at (d : Int) : ∀ (ys : List Rw) (h : spanN d ys < ys.length), ys[spanN d ys].f0 ≤ d
 | [], h => by simp at h
 | y :: ys, h => by
  by_cases e : d < y.f0
  ·have e2 : spanN d (y :: ys) = spanN d ys + 1 := by simp only [spanN]; rw [if_pos e]
   have h' : spanN d ys < ys.length := by rw [e2] at h; simpa using h
   have := spanN_at d ys h'
   simp only [e2, List.getElem_cons_succ]
   exact this
  ·have e2 : spanN d (y :: ys) = 0 := by simp only [spanN]; rw [if_neg e]
   simp only [e2, List.getElem_cons_zero]
   omega
theorem depth_at (xs : List Rw) (i : Nat) (h : i < xs.length) : depthAt xs i = xs[i].f0 := by unfold depthAt; rw [rd35_at xs i h]
theorem in_tree (xs : List Rw) (j m : Nat) (h1 : j < m) (h2 : m < endN xs j) (h3 : m < xs.length) : depthAt xs j < depthAt xs m := by
 have h := spanN_in (rd_T35 xs j).f0 (xs.drop (j + 1)) (m - (j + 1)) (by rw [List.length_drop]; omega) (by unfold endN at h2; omega)
 rw [List.getElem_drop] at h
 rw [depth_at xs m h3]
 have e : j + 1 + (m - (j + 1)) = m := by omega
 simp only [e] at h
 exact h
theorem at_end (xs : List Rw) (j : Nat) (h : endN xs j < xs.length) : depthAt xs (endN xs j) ≤ depthAt xs j := by
 have hs : spanN (rd_T35 xs j).f0 (xs.drop (j + 1)) < (xs.drop (j + 1)).length := by unfold endN at h; rw [List.length_drop]; omega
 have h1 := spanN_at _ _ hs
 rw [List.getElem_drop] at h1
 rw [depth_at xs _ h]
 exact h1
theorem range_out (p : Nat → Bool) (a n : Nat) (h : ∀ m, a ≤ m → m < a + n → p m = false) : (List.range' a n).filter p = [] := by
 rw [List.filter_eq_nil_iff]
 intro m hm
 rw [List.mem_range'_1] at hm
 rw [h m hm.1 (by omega)]
 simp
theorem kidsW_filter (xs : List Rw) (e : Int) (t : Nat) (ht : t ≤ xs.length) : ∀ (d j : Nat), t - j ≤ d → j ≤ t → (∀ m, j ≤ m → m < t → e ≤ depthAt xs m) → (j < t → depthAt xs j = e) →
  kidsW xs t j = (List.range' j (t - j)).filter fun k : Nat => decide (depthAt xs k = e) := by
 intro d
 induction d with
 | zero =>
  intro j hd hj _ _
  rw [kidsW_no (by omega), show t - j = 0 from by omega]
  rfl
 | succ d ih =>
  intro j hd hj hge hat
  by_cases h : j < t
  ·have hgt := endN_gt xs j
   rw [kidsW_yes h (by omega), show t - j = (t - j - 1) + 1 from by omega, List.range'_succ, List.filter_cons_of_pos (by simpa using hat h)]
   congr 1
   by_cases hq : endN xs j < t
   ·rw [ih (endN xs j) (by omega) (by omega) (fun m h1 h2 => hge m (by omega) h2) (fun _ => by
     have h1 := at_end xs j (by omega)
     have h2 := hge (endN xs j) (by omega) hq
     have h3 := hat h
     omega)]
    rw [show t - j - 1 = (endN xs j - (j + 1)) + (t - endN xs j) from by omega, ← List.range'_append_1, List.filter_append, range_out _ (j + 1) (endN xs j - (j + 1)), List.nil_append]
    ·rw [show j + 1 + (endN xs j - (j + 1)) = endN xs j from by omega]
    ·intro m h1 h2
     have h3 := in_tree xs j m (by omega) (by omega) (by omega)
     have h4 := hat h
     exact decide_eq_false (by omega)
   ·rw [kidsW_no hq, range_out]
    intro m h1 h2
    have h3 := in_tree xs j m (by omega) (by omega) (by omega)
    have h4 := hat h
    exact decide_eq_false (by omega)
  ·exact ih j (by omega) hj hge hat
theorem kids_f (xs : List Rw) (hl : xs.length < 100000) (hp : RightP xs) (i : Int) : boltingref04_Kids.f xs i = some ((kidsF xs i).map (fun k : Nat => (k : Int))) := by
 unfold boltingref04_Kids.f
 rw [if_pos (by omega)]
 by_cases h1 : i < -1 ∨ (xs.length : Int) ≤ i
 ·rw [if_pos h1]
  have : kidsF xs i = [] := by
   unfold kidsF
   rw [if_neg (by omega), if_neg (by omega)]
  rw [this]
  rfl
 ·rw [if_neg h1]
  by_cases h2 : i = -1
  ·subst h2
   rw [if_pos rfl, kidsF_at (.inl rfl), show toI xs (-1) = xs.length from rfl, show fromI (-1) = 0 from rfl, kidsW_filter xs 0 xs.length (Nat.le_refl _) xs.length 0 (by omega) (by omega) (fun m _ hm => (hp m hm).low) (fun h => by have a := (hp 0 h).low; have b := (hp 0 h).high; omega), Nat.sub_zero, List.range_eq_range']
  ·rw [if_neg h2]
   obtain ⟨m, rfl⟩ : ∃ m : Nat, i = m := ⟨i.toNat, by omega⟩
   have hm : m < xs.length := by omega
   have hgt := endN_gt xs m
   have hle := endN_le xs m hm
   have hok := hp m hm
   have hw : wrap64 (depthAt xs m + 1) = depthAt xs m + 1 := by have a := hok.low; have b := hok.high; unfold wrap64; omega
   rw [refEnd_f xs (by omega) m _ hm (by omega), Option.bind_some, Int.toNat_natCast, hw, kidsF_at (.inr ⟨by omega, by omega⟩), show toI xs (m : Int) = endN xs m from by unfold toI; rw [if_neg (by omega)]; rfl, show fromI (m : Int) = m + 1 from by unfold fromI; rw [if_neg (by omega)]; rfl]
   rw [kidsW_filter xs (depthAt xs m + 1) (endN xs m) hle (endN xs m) (m + 1) (by omega) (by omega) (fun q h3 h4 => by have := in_tree xs m q (by omega) h4 (by omega); omega) (fun h => by
    have a := in_tree xs m (m + 1) (by omega) h (by omega)
    have b := (hp (m + 1) (by omega)).step (by omega)
    rw [Nat.add_sub_cancel] at b
    omega)]
   congr 2
   have e1 : List.range' (m + 1) (endN xs m - (m + 1)) ++ List.range' (endN xs m) (xs.length - endN xs m) = List.range' (m + 1) (xs.length - (m + 1)) := by
    have h := List.range'_append_1 (s := m + 1) (m := endN xs m - (m + 1)) (n := xs.length - endN xs m)
    rwa [show m + 1 + (endN xs m - (m + 1)) = endN xs m from by omega, show endN xs m - (m + 1) + (xs.length - endN xs m) = xs.length - (m + 1) from by omega] at h
   have e0 : List.range' 0 (m + 1) ++ List.range' (m + 1) (xs.length - (m + 1)) = List.range' 0 xs.length := by
    have h := List.range'_append_1 (s := 0) (m := m + 1) (n := xs.length - (m + 1))
    rwa [Nat.zero_add, show m + 1 + (xs.length - (m + 1)) = xs.length from by omega] at h
   rw [List.range_eq_range', ← e0, ← e1, List.filter_append, List.filter_append, range_out _ 0 (m + 1), range_out _ (endN xs m), List.nil_append, List.append_nil]
   ·refine List.filter_congr (fun q hq => ?_)
    rw [List.mem_range'_1] at hq
    rw [decide_eq_true (by omega), decide_eq_true (by omega), Bool.true_and, Bool.true_and]
   ·intro q h3 h4
    rw [decide_eq_false (p := (q : Int) < ((endN xs m : Nat) : Int)) (by omega)]
    simp
   ·intro q h3 h4
    rw [decide_eq_false (p := ((m : Nat) : Int) < (q : Int)) (by omega)]
    simp
end Go.Proofs.YtdnbaliibiginaaDoorH.W8

/- What is written of right rows, by both, is one text. Plain. -/
namespace Go.Proofs.YtdnbaliibiginaaDoorH.W8
open Go.RowKit Go.Proofs Go.Proofs.YtdnbaliibiginaaDoorH Go.Proofs.YtdnbaliibiginaaDoor Go.Proofs.YtdnbaliibiginaaDoorW.PrintWords
def restT (x : Rw) (t : Txt) : Txt := if memS voids x.f2 then [] else t ++ (([60, 47] ++ x.f2.data.toList) ++ [62])
def nodeT (xs : List Rw) : Nat → Bool → Nat → Txt
 | 0, _, _ => []
 | d + 1, raw, k =>
  if (rd_T35 xs k).f1 = 1 then (if raw then (rd_T35 xs k).f3.data.toList else wrL false (rd_T35 xs k).f3.data.toList)
  else if (rd_T35 xs k).f1 = 2 then ([60, 33, 45, 45] ++ (rd_T35 xs k).f3.data.toList) ++ [45, 45, 62]
  else tagT (rd_T35 xs k).f2 (rd_T35 xs k).f4 ++ restT (rd_T35 xs k) ((kidsF xs k).flatMap (nodeT xs d (memS raws (rd_T35 xs k).f2)))
def own (x : Rw) : Nat := 6 * x.f3.data.toList.length + (tagT x.f2 x.f4).length + x.f2.data.toList.length + 20
def sufS (xs : List Rw) (a : Nat) : Nat := ((xs.drop a).map own).sum
theorem sufS_cons (xs : List Rw) (a : Nat) (h : a < xs.length) : sufS xs a = own xs[a] + sufS xs (a + 1) := by unfold sufS; rw [List.drop_eq_getElem_cons h, List.map_cons, List.sum_cons]
theorem sufS_le (xs : List Rw) : ∀ (d a b : Nat), b - a ≤ d → a ≤ b → sufS xs b ≤ sufS xs a := by
 intro d
 induction d with
 | zero => intro a b h1 h2; rw [show a = b from by omega]; exact Nat.le_refl _
 | succ d ih =>
  intro a b h1 h2
  by_cases h : a < b
  ·by_cases h3 : a < xs.length
   ·have := ih (a + 1) b (by omega) (by omega)
    rw [sufS_cons xs a h3]
    omega
   ·have e1 : sufS xs b = 0 := by unfold sufS; rw [List.drop_of_length_le (by omega)]; rfl
    omega
  ·rw [show a = b from by omega]; exact Nat.le_refl _
theorem endN_in (xs : List Rw) (j m : Nat) (h1 : j < m) (h2 : m < endN xs j) (h3 : j < xs.length) : endN xs m ≤ endN xs j := by
 have hle := endN_le xs j h3
 by_cases h : endN xs j < endN xs m
 ·have hm := endN_le xs m (by omega)
  have a := in_tree xs m (endN xs j) h2 h (by omega)
  have b := at_end xs j (by omega)
  have c := in_tree xs j m h1 h2 (by omega)
  omega
 ·omega
theorem kidsT_len (xs : List Rw) (f : Nat → Txt) (t : Nat) (ht : t ≤ xs.length) : ∀ (d j : Nat), t - j ≤ d → j ≤ t → (∀ m, j ≤ m → m < t → endN xs m ≤ t) → (∀ m, j ≤ m → m < t → (f m).length + sufS xs (endN xs m) ≤ sufS xs m) →
  ((kidsW xs t j).flatMap f).length + sufS xs t ≤ sufS xs j := by
 intro d
 induction d with
 | zero =>
  intro j hd hj _ _
  rw [kidsW_no (by omega), show j = t from by omega]
  simp
 | succ d ih =>
  intro j hd hj hc hf
  by_cases h : j < t
  ·have hgt := endN_gt xs j
   have h1 := hf j (Nat.le_refl _) h
   have h2 := hc j (Nat.le_refl _) h
   have h3 := ih (endN xs j) (by omega) h2 (fun m a b => hc m (by omega) b) (fun m a b => hf m (by omega) b)
   rw [kidsW_yes h (by omega), List.flatMap_cons, List.length_append]
   omega
  ·exact ih j (by omega) hj hc hf
theorem kidsF_nat (xs : List Rw) (k : Nat) (hk : k < xs.length) : kidsF xs (k : Int) = kidsW xs (endN xs k) (k + 1) := by
 rw [kidsF_at (.inr ⟨by omega, by omega⟩), show toI xs (k : Int) = endN xs k from by unfold toI; rw [if_neg (by omega)]; rfl, show fromI (k : Int) = k + 1 from by unfold fromI; rw [if_neg (by omega)]; rfl]
theorem nodeT_len (xs : List Rw) : ∀ (d : Nat) (raw : Bool) (k : Nat), k < xs.length → (nodeT xs d raw k).length + sufS xs (endN xs k) ≤ sufS xs k := by
 intro d
 induction d with
 | zero => intro raw k hk; have := sufS_le xs _ k (endN xs k) (Nat.le_refl _) (by have := endN_gt xs k; omega); simpa [nodeT] using this
 | succ d ih =>
  intro raw k hk
  have hs := sufS_cons xs k hk
  have hgt := endN_gt xs k
  have hle := endN_le xs k hk
  have hm := sufS_le xs _ (k + 1) (endN xs k) (Nat.le_refl _) (by omega)
  have hkid := kidsT_len xs (nodeT xs d (memS raws (rd_T35 xs k).f2)) (endN xs k) hle (endN xs k) (k + 1) (by omega) (by omega) (fun m a b => endN_in xs k m (by omega) b hk) (fun m a b => ih _ m (by omega))
  rw [rd35_at xs k hk] at hkid
  have hw := wr_len false xs[k].f3.data.toList
  unfold own at hs
  simp only [nodeT]
  rw [rd35_at xs k hk, kidsF_nat xs k hk]
  split
  ·split <;> omega
  ·split
   ·simp only [List.length_append, List.length_cons, List.length_nil]; omega
   ·rw [List.length_append]
    unfold restT
    split
    ·simp only [List.length_nil]; omega
    ·simp only [List.length_append, List.length_cons, List.length_nil]; omega
theorem kids_len0 (xs : List Rw) (d : Nat) (raw : Bool) (i : Int) (hi : i = -1 ∨ 0 ≤ i ∧ i < xs.length) : ((kidsF xs i).flatMap (nodeT xs d raw)).length ≤ sufS xs 0 := by
 rcases hi with rfl | hi
 ·have h := kidsT_len xs (nodeT xs d raw) xs.length (Nat.le_refl _) xs.length 0 (by omega) (by omega) (fun m _ b => endN_le xs m b) (fun m _ b => nodeT_len xs d raw m b)
  rw [kidsF_at (.inl rfl)]
  exact Nat.le_trans (Nat.le_add_right _ _) h
 ·obtain ⟨k, rfl⟩ : ∃ k : Nat, i = k := ⟨i.toNat, by omega⟩
  have hk : k < xs.length := by omega
  have hgt := endN_gt xs k
  have h := kidsT_len xs (nodeT xs d raw) (endN xs k) (endN_le xs k hk) (endN xs k) (k + 1) (by omega) (by omega) (fun m a b => endN_in xs k m (by omega) b hk) (fun m a b => nodeT_len xs d raw m (by have := endN_le xs k hk; omega))
  have h2 := sufS_le xs _ 0 (k + 1) (Nat.le_refl _) (by omega)
  rw [kidsF_nat xs k hk]
  omega
structure SizeP (xs : List Rw) : Prop where
 len : xs.length ≤ 200
 total : sufS xs 0 ≤ 1000000000
 atts : ∀ x ∈ xs, x.f4.length ≤ 6
theorem SizeP.one {xs : List Rw} (h : SizeP xs) (k : Nat) (hk : k < xs.length) : own xs[k] ≤ 1000000000 := by
 have h1 := sufS_le xs _ 0 k (Nat.le_refl _) (by omega)
 have h2 := sufS_cons xs k hk
 have := h.total
 omega
theorem flat_ge {α : Type} (f : α → Txt) : ∀ (l : List α) (a : α), a ∈ l → (f a).length ≤ (l.flatMap f).length
 | [], _, h => by cases h
 | b :: l, a, h => by
  rw [List.flatMap_cons, List.length_append]
  rcases List.mem_cons.1 h with rfl | h
  ·omega
  ·have := flat_ge f l a h; omega
theorem own_val {x : Rw} (h : own x ≤ 1000000000) : (∀ a ∈ x.f4, a.f1.data.toList.length ≤ 1000000000) ∧ (tagT x.f2 x.f4).length ≤ 1000000000 ∧ x.f3.data.toList.length ≤ 1000000000 ∧ x.f2.data.toList.length ≤ 1000000000 := by
 unfold own at h
 refine ⟨fun a ha => ?_, by omega, by omega, by omega⟩
 have h1 := flat_ge atT x.f4 a ha
 have h2 := wr_ge true a.f1.data.toList
 unfold tagT at h
 simp only [List.length_append] at h
 have h3 : (wrL true a.f1.data.toList).length ≤ (atT a).length := by unfold atT; simp only [List.length_append]; omega
 omega
theorem catM_some (f : Nat → Option Txt) (g : Nat → Txt) : ∀ (ks : List Nat), (∀ j ∈ ks, f j = some (g j)) → catM f ks = some (ks.flatMap g)
 | [], _ => rfl
 | j :: ks, h => by
  simp only [catM]
  rw [h j (by simp), Option.bind_some, catM_some f g ks (fun m hm => h m (by simp [hm])), Option.bind_some, List.flatMap_cons]
theorem kids_lt (xs : List Rw) (i : Int) (j : Nat) (hj : j ∈ kidsF xs i) : j < xs.length := by
 have key : ∀ (t d a : Nat), xs.length - a ≤ d → j ∈ kidsW xs t a → j < xs.length := by
  intro t d
  induction d with
  | zero => intro a hd hm; rw [kidsW, dif_neg (by omega)] at hm; cases hm
  | succ d ih =>
   intro a hd hm
   by_cases h : a < t ∧ a < xs.length
   ·rw [kidsW, dif_pos h] at hm
    rcases List.mem_cons.1 hm with rfl | hm
    ·exact h.2
    ·exact ih (endN xs a) (by have := endN_gt xs a; omega) hm
   ·rw [kidsW, dif_neg h] at hm; cases hm
 by_cases hi : i = -1 ∨ 0 ≤ i ∧ i < xs.length
 ·rw [kidsF_at hi] at hj
  exact key _ _ _ (Nat.le_refl _) hj
 ·have : kidsF xs i = [] := by
   unfold kidsF
   rw [if_neg (by omega), if_neg (by omega)]
  rw [this] at hj
  cases hj
theorem nodeM_some (xs : List Rw) (hz : SizeP xs) (hp : RightP xs) : ∀ (d : Nat) (raw : Bool) (k : Nat), k < xs.length → xs.length - k ≤ d → nodeM xs d raw k = some (nodeT xs d raw k) := by
 intro d
 induction d with
 | zero => intro raw k hk hd; omega
 | succ d ih =>
  intro raw k hk hd
  have ho := own_val (hz.one k hk)
  have hkind := (hp k hk).kind
  have hr := rd35_at xs k hk
  have hcat := catM_some (nodeM xs d (memS raws xs[k].f2)) (nodeT xs d (memS raws xs[k].f2)) (kidsF xs k) (fun j hj => ih _ j (kids_lt xs _ j hj) (by have := kids_gt xs k hk j hj; omega))
  simp only [nodeM, nodeT]
  rw [if_pos hk]
  rw [hr] at hkind ⊢
  by_cases h1 : xs[k].f1 = 1
  ·rw [if_pos h1, if_pos h1]
   cases raw with
   | true => rfl
   | false =>
    rw [if_neg (by decide), if_neg (by decide)]
    unfold refs_Text.f
    rw [wrB_at false _ ho.2.2.1]
    rfl
  ·rw [if_neg h1, if_neg h1]
   by_cases h2 : xs[k].f1 = 2
   ·rw [if_pos h2, if_pos h2]
   ·rw [if_neg h2, if_neg h2, if_pos (by omega)]
    obtain ⟨o, e1, e2⟩ := opened_f xs[k] (xs[k].f4.length + 1) (by have := hz.atts _ (List.getElem_mem hk); omega) (by omega) ho.1 (by omega)
    rw [e1, Option.bind_some, void_f _ 100 (by omega), Option.bind_some]
    unfold restT
    cases hv : memS voids xs[k].f2
    ·rw [if_neg (by decide), raw_f _ 100 (by omega), Option.bind_some, hcat, Option.bind_some, if_neg (by decide), e2]
     simp only [List.append_assoc]
    ·rw [if_pos rfl, if_pos rfl, e2, List.append_nil]
def rawAt (xs : List Rw) (i : Int) : Bool := if 0 ≤ i then memS raws (rd_T35 xs i).f2 else false
theorem written_f (xs : List Rw) (hz : SizeP xs) (hp : RightP xs) (i : Int) (hi : i = -1 ∨ 0 ≤ i ∧ i < xs.length) : write_written.f xs i = some ⟨((kidsF xs i).flatMap (nodeT xs xs.length (rawAt xs i))).toArray⟩ := by
 have hlen := hz.len
 have htot := hz.total
 have hra : rawAtF xs i = some (rawAt xs i) := by
  unfold rawAtF rawAt
  rcases hi with rfl | hi
  ·rfl
  ·rw [if_pos hi.1, if_pos hi.2, if_pos hi.1, raw_f _ 100 (by omega)]
 have hc := catM_some (nodeM xs xs.length (rawAt xs i)) (nodeT xs xs.length (rawAt xs i)) (kidsF xs i) (fun j hj => nodeM_some xs hz hp _ _ j (kids_lt xs _ j hj) (by omega))
 have hl := kids_len0 xs xs.length (rawAt xs i) i hi
 unfold write_written.f
 rw [if_pos (by omega), hra, Option.bind_some, hc, Option.bind_some, if_pos (by omega)]
end Go.Proofs.YtdnbaliibiginaaDoorH.W8

/- slices.Clone of attributes, given to the printed walk. -/
namespace Go.Proofs.YtdnbaliibiginaaDoorH.W8
open Go.RowKit Go.Proofs.YtdnbaliibiginaaDoorW.PrintWords Go.Proofs.YtdnbaliibiginaaDoorW.PrintLast Go.Proofs.YtdnbaliibiginaaDoorW.PrintMore
def api_Attr.f (l0 : List S45) : Option (List S45) := if l0.length * 32 ≤ 140737488355328 then some l0 else none
set_option maxHeartbeats 2000000 in
set_option maxRecDepth 100000 in
theorem api_Attr.calls (A0 : Option Addr) (c0 : Nat) (l0 : List S45) (r : List S45) (w : World) (hr0 : Kd.C k45 w A0 l0.length l0) (hc0 : l0.length ≤ c0) (h : api_Attr.f l0 = some r) :
  Calls Tryd.prog 79 #[.slice A0 l0.length c0] w fun e w' => ∃ v0_ : Value, e = .returned (v0_) ∧ Kd.R k45 45 w' w.heap.size (fun _ => True) v0_ r ∧ Below w.heap.size w w' := by
 unfold api_Attr.f at h
 split at h
 ·rename_i hz
  obtain rfl := Option.some.inj h
  clear h
  have HR0 := Aside0.mk hr0
  have HC0 := Aside0.mk hc0
  clear hr0 hc0
  have HB := Aside0.mk (Below.refl w.heap.size w)
  have hu := Tryd.underlying33
  have q22 : ∀ (w : World) (a : Option Addr) (n c n' c' : Nat), (binOp .eql 33 (.slice a n c) (.slice none n' c')).run Tryd.prog w = .ok (.bool a.isNone) w := fun w a n c n' c' => Lib.run_eql_slice_nil w _ _ a n c n' c' hu
  cases A0 with
  | none =>
   have hnil : l0 = [] := by
    cases l0 with
    | nil => rfl
    | cons x xs => obtain ⟨ad, e, _⟩ := HR0.out.2.2 (by simp); cases e
   subst hnil
   go_enter Tryd.func79, Tryd.ntmps79
   go_wp2
   go_ret
   exact ⟨_, rfl, Kd.R_nil _ _ _ _ _, HB.out⟩
  | some ad =>
   go_enter Tryd.func79, Tryd.ntmps79
   go_wp2_with (first | ((with_reducible refine gate_dst (N := 5) rfl ?_); refine Kd.R_lit k45 _ 45 ?hg (N := 5) ?hd (xs := ([] : List (S45))) (inner := []) (ok := fun _ => True) (okp := fun _ => True) ?hr ?hp (fun _ hk => hk) trivial (Below.refl _ _) (Nat.le_refl _) (by simp) ?_; (case hd => rfl); (case hg => rfl); (case hr => first | (go_simp; done) | (go_simp; rfl)); (case hp => exact (Reps.none _ _)); intro v5 w5 ho5 hb5 hg_ hnew_; clear hg_ hnew_; have HO5 := Aside0.mk ho5; have HB5 := Aside0.mk hb5; clear ho5 hb5) | ((with_reducible refine gate_builtin (b := .append) (xs := #[.tmp 5, .tmp 6]) rfl ?_); at_builtin; refine Kd.R_append_rows k45 (w0 := w) w.heap.size rfl (.tmp 5) (.tmp 6) 33 45 (.agg #[(.string ⟨#[]⟩), (.string ⟨#[]⟩)]) 32 rfl Tryd.underlying33 info45 rfl (by decide) (by omega) v5 [] l0 _ _ _ (fun _ => True) (fun _ => False) rfl rfl HO5.out (Kd.C_below HR0.out HB5.out) (fun _ _ h => h) (fun _ h => h.elim) (fun _ _ => trivial) HB5.out HB5.out.size (by simpa using hz) ?_; intro v7 w7 ho7 hb7 hg_ hat_))
   go_ret
   exact ⟨_, rfl, by simpa using ho7, hb7⟩
 ·cases h
end Go.Proofs.YtdnbaliibiginaaDoorH.W8
