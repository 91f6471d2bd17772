/- boltinglaw08.WriteTwo returns true and leaves its arguments as they were, where what it reads is of bulk at most 1048576: the row and its card. Conditions: the row's own (that bulk; the form's reach; the listed variables as the program's text lays them). -/
import Derived.Test.YtdnbaliibiginaaDoorU28
import Derived.Test.YtdnbaliibiginaaDoorU30
import Derived.Test.YtdnbaliibiginaaDoorU32
import Derived.Test.YtdnbaliibiginaaDoorRows
import Derived.Test.YtdnbaliibiginaaDoorU8
import Derived.Lib.LaidU8T
import Derived.WalkKit
import Derived.ProofKit
import Derived.OpenShut
import Derived.SizedLaws
import Derived.Deep.DeepHandedRow
import Derived.Deep.DeepWitnessRowRef
import Derived.Lib.LaidIn
import Derived.Shelf.Vars
import Derived.Test.YtdnbaliibiginaaDoorCards
import Derived.Test.YtdnbaliibiginaaDoorTie
import Derived.Test.YtdnbaliibiginaaDoorU29
import Derived.Carry
import Derived.ShutString
set_option linter.unusedVariables false
set_option linter.unusedSimpArgs false

/- WriteTwo, in numbers and lists alone: legal trees behind legal trees are legal, and written one behind the other. -/
namespace Go.Proofs.YtdnbaliibiginaaDoorH.W8
open Go.RowKit Go.Proofs Go.Proofs.YtdnbaliibiginaaDoorH Go.Proofs.YtdnbaliibiginaaDoor Go.Proofs.YtdnbaliibiginaaDoorW.PrintWords
def iName : ByteArray := ⟨#[105]⟩
def iRow : Rw := ⟨0, 0, iName, ⟨#[]⟩, []⟩
theorem rightGo_up : ∀ (xs : List Rw) (dp dp' : Int), dp ≤ dp' → rightGo xs dp = true → rightGo xs dp' = true
 | [], _, _, _, _ => rfl
 | x :: r, dp, dp', hle, h => by
  simp only [rightGo] at h ⊢
  by_cases c : x.f0 < 0 ∨ dp < x.f0
  ·rw [if_pos c] at h; cases h
  ·rw [if_neg c] at h
   rw [if_neg (by omega)]
   exact h
theorem rightGo_app : ∀ (xs ys : List Rw) (dp : Int), 0 ≤ dp → rightGo xs dp = true → (∀ dq, 0 ≤ dq → rightGo ys dq = true) → rightGo (xs ++ ys) dp = true
 | [], ys, dp, h0, _, h => h dp h0
 | x :: r, ys, dp, h0, hx, h => by
  simp only [List.cons_append, rightGo] at hx ⊢
  by_cases c : x.f0 < 0 ∨ dp < x.f0
  ·rw [if_pos c] at hx; cases hx
  ·rw [if_neg c] at hx ⊢
   by_cases c2 : rowB x = true
   ·rw [if_pos c2] at hx ⊢
    exact rightGo_app r ys _ (by split <;> omega) hx h
   ·rw [if_neg c2] at hx; cases hx
theorem iRow_ok : rowB iRow = true := by
 have h := (row_all iRow (by decide)).1 100 (by omega)
 have : rows_row.f 100 iRow.f0 iRow.f1 iRow.f2 iRow.f3 iRow.f4 = some true := by kernel_rfl
 exact Option.some.inj (h.symm.trans this)
theorem right_two (a b : List Rw) (ha : rightGo a 0 = true) (hb : rightGo b 0 = true) : rightGo (a ++ iRow :: b) 0 = true := by
 refine rightGo_app a _ 0 (by omega) ha (fun dq hq => ?_)
 simp only [rightGo]
 rw [if_neg (by rw [show iRow.f0 = 0 from rfl]; omega), if_pos iRow_ok, if_pos (show iRow.f1 = 0 from rfl)]
 exact rightGo_up b 0 _ (by decide) hb
theorem nj_app : ∀ (xs ys : List Rw) (p : Option Rw), njGo p xs = true → (∀ q, njGo q ys = true) → njGo p (xs ++ ys) = true
 | [], ys, p, _, h => h p
 | x :: r, ys, p, hx, h => by
  simp only [List.cons_append, njGo, Bool.and_eq_true] at hx ⊢
  exact ⟨hx.1, nj_app r ys _ hx.2 h⟩
theorem nj_two (a b : List Rw) (ha : njGo none a = true) (hb : njGo none b = true) : njGo none (a ++ iRow :: b) = true := by
 refine nj_app a _ none ha (fun q => ?_)
 simp only [njGo, Bool.and_eq_true]
 refine ⟨by simp [dropB, iRow], ?_⟩
 cases b with
 | nil => rfl
 | cons x r =>
  simp only [njGo, Bool.and_eq_true] at hb ⊢
  refine ⟨?_, hb.2⟩
  have := hb.1
  simp only [dropB, iRow, Bool.not_eq_true', Bool.and_eq_false_iff, Bool.or_eq_false_iff] at this ⊢
  simpa using this
theorem rd_app_l (a b : List Rw) (j : Nat) (h : j < a.length) : rd_T35 (a ++ b) ((0 + j : Nat) : Int) = rd_T35 a (j : Int) := by
 rw [rd35_at a j h, rd35_at (a ++ b) (0 + j) (by simp; omega)]
 simp only [Nat.zero_add]
 exact List.getElem_append_left h
theorem part_a (a b : List Rw) (ha : RightP a) : Part (a ++ iRow :: b) a 0 := by
 refine ⟨by simp, fun j h => rd_app_l a _ j h, ha.low, fun h => ?_⟩
 unfold depthAt
 rw [rd35_at _ _ h]
 simp [iRow]
theorem part_b (a b : List Rw) (hb : RightP b) : Part (a ++ iRow :: b) b (a.length + 1) := by
 refine ⟨by simp; omega, fun j h => ?_, hb.low, fun h => by simp at h; omega⟩
 rw [rd35_at b j h, rd35_at _ (a.length + 1 + j) (by simp; omega)]
 rw [List.getElem_append_right (by omega)]
 simp only [show a.length + 1 + j - a.length = j + 1 from by omega, List.getElem_cons_succ]
theorem rd_i (a b : List Rw) : rd_T35 (a ++ iRow :: b) ((a.length : Nat) : Int) = iRow := by
 rw [rd35_at _ a.length (by simp), List.getElem_append_right (by omega)]
 simp
theorem kids_i (a b : List Rw) (hb : RightP b) : kidsF (a ++ iRow :: b) (a.length : Int) = [] := by
 have hp := part_b a b hb
 rw [kidsF_nat _ _ (by simp), kidsW_no]
 unfold endN
 rw [rd_i]
 have e : (a ++ iRow :: b).drop (a.length + 1) = b := by simp
 rw [e]
 cases b with
 | nil => simp [spanN]
 | cons x r =>
  have := (hb 0 (by simp)).high
  unfold depthAt at this
  rw [rd35_at _ 0 (by simp)] at this
  simp only [List.getElem_cons_zero] at this
  have h9 : ¬ iRow.f0 < x.f0 := by rw [show iRow.f0 = 0 from rfl]; omega
  simp only [spanN]
  rw [if_neg h9]
  omega
theorem Part.within {xs ys : List Rw} {p : Nat} (h : Part xs ys p) (hl : xs.length < 100000) (i : Nat) (hi : i < ys.length) : write_within.f xs ((p + i : Nat) : Int) = write_within.f ys (i : Int) := by
 have hlen := h.len
 have hat := h.at_ i hi
 rw [rd35_at ys i hi, rd35_at xs (p + i) (by omega)] at hat
 have hk := kids_lt ys (i : Int)
 unfold write_within.f
 rw [dif_pos ⟨by omega, by omega⟩, dif_pos ⟨by omega, by omega⟩]
 unfold rows_Kids.f
 rw [if_pos (by omega), if_pos (by omega), Option.bind_some, Option.bind_some, h.kids i hi]
 simp only [Int.toNat_natCast]
 rw [hat]
 congr 1; funext v
 congr 1; funext rw0
 congr 1; funext sf
 generalize kidsF ys (i : Int) = ks at *
 rcases ks with _ | ⟨k0, _ | ⟨k1, ks⟩⟩
 ·rfl
 ·have h0 := hk k0 (by simp)
  have hat0 := h.at_ k0 h0
  rw [rd35_at ys k0 h0, rd35_at xs (p + k0) (by omega)] at hat0
  simp only [List.map_cons, List.map_nil, wiF]
  congr 1; congr 1
  unfold wiOne
  rw [dif_pos ⟨by omega, by omega⟩, dif_pos ⟨by omega, by omega⟩]
  simp only [Int.toNat_natCast]
  rw [hat0]
 ·simp only [List.map_cons, wiF]
theorem Part.leg {xs ys : List Rw} {p : Nat} (h : Part xs ys p) (hl : xs.length < 100000) (zs : List Rw) : ∀ (d i : Nat) (ar : List ByteArray), i + d = ys.length → legGo ys (ys.drop i) i ar = true → (∀ ar', legGo xs zs (p + ys.length) ar' = true) → legGo xs (ys.drop i ++ zs) (p + i) ar = true := by
 intro d
 induction d with
 | zero =>
  intro i ar hi h1 h2
  rw [List.drop_of_length_le (by omega), List.nil_append, show p + i = p + ys.length from by omega]
  exact h2 ar
 | succ d ih =>
  intro i ar hi h1 h2
  have hlt : i < ys.length := by omega
  rw [List.drop_eq_getElem_cons hlt] at h1 ⊢
  simp only [List.cons_append, legGo] at h1 ⊢
  have hw : withB xs (p + i) = withB ys i := by unfold withB; rw [h.within hl i hlt]
  rw [hw]
  by_cases c1 : ys[i].f1 = 1
  ·rw [if_pos c1] at h1 ⊢
   simp only [Bool.and_eq_true] at h1 ⊢
   exact ⟨h1.1, by have := ih (i + 1) _ (by omega) h1.2 h2; rwa [← Nat.add_assoc] at this⟩
  ·rw [if_neg c1] at h1 ⊢
   by_cases c2 : ys[i].f1 = 2
   ·rw [if_pos c2] at h1 ⊢
    simp only [Bool.and_eq_true] at h1 ⊢
    exact ⟨h1.1, by have := ih (i + 1) _ (by omega) h1.2 h2; rwa [← Nat.add_assoc] at this⟩
   ·rw [if_neg c2] at h1 ⊢
    simp only [Bool.and_eq_true] at h1 ⊢
    exact ⟨h1.1, by have := ih (i + 1) _ (by omega) h1.2 h2; rwa [← Nat.add_assoc] at this⟩
theorem elem_i : elemB iRow [] = true := by
 have h := elem_f iRow 100 (by omega) ⟨by decide, by decide, fun a h => (by cases h), by decide⟩ [] 30000 (by omega)
 have : write_element.f 30000 iRow.f0 iRow.f1 iRow.f2 iRow.f3 iRow.f4 [] = some true := by kernel_rfl
 exact Option.some.inj (h.symm.trans this)
theorem leg_first (b : List Rw) (hb : RightP b) (h : legGo b b 0 [] = true) (ar : List ByteArray) : legGo b b 0 ar = true := by
 cases b with
 | nil => rfl
 | cons x r =>
  have h1 := (hb 0 (by simp)).high
  have h2 := (hb 0 (by simp)).low
  unfold depthAt at h1 h2
  rw [rd35_at _ 0 (by simp)] at h1 h2
  simp only [List.getElem_cons_zero] at h1 h2
  have e : x.f0.toNat = 0 := by omega
  simp only [legGo, e, List.take_zero] at h ⊢
  exact h
theorem leg_two (a b : List Rw) (hl : (a ++ iRow :: b).length < 100000) (pa : RightP a) (pb : RightP b) (ha : legGo a a 0 [] = true) (hb : legGo b b 0 [] = true) : legGo (a ++ iRow :: b) (a ++ iRow :: b) 0 [] = true := by
 have := (part_a a b pa).leg hl (iRow :: b) a.length 0 [] (by omega) (by rw [List.drop_zero]; exact ha) (fun ar => ?_)
 ·rw [List.drop_zero] at this
  exact this
 ·rw [Nat.zero_add]
  simp only [legGo]
  rw [if_neg (by decide), if_neg (by decide), show iRow.f0.toNat = 0 from rfl, List.take_zero, elem_i]
  have hw : withB (a ++ iRow :: b) a.length = true := by
   unfold withB write_within.f
   rw [dif_pos ⟨by omega, by simp⟩]
   unfold rows_Kids.f
   rw [if_pos (by omega), Option.bind_some, kids_i a b pb, void_f _ _ (by omega), Option.bind_some, raw_f _ _ (by omega), Option.bind_some, soft_f _ _ (by omega), Option.bind_some]
   rfl
  rw [hw]
  have := (part_b a b pb).leg hl [] b.length 0 ([] ++ [iRow.f2]) (by omega) (by rw [List.drop_zero]; exact leg_first b pb hb _) (fun ar => rfl)
  rw [List.drop_zero, List.append_nil, Nat.add_zero] at this
  rw [this]
  rfl
theorem legal_parts {xs : List Rw} (h : legalB xs = true) : (decide (4096 < xs.length) || xs.any deepB) = false ∧ rightGo xs 0 = true ∧ njGo none xs = true ∧ legGo xs xs 0 [] = true := by
 unfold legalB at h
 simp only [Bool.and_eq_true] at h
 refine ⟨?_, h.1.1.2, h.1.2, h.2⟩
 have h9 := h.1.1.1
 revert h9
 cases (decide (4096 < xs.length) || xs.any deepB) with
 | false => intro _; rfl
 | true => intro h9; cases h9
theorem legal_two (a b : List Rw) (ha6 : ∀ x ∈ a, x.f4.length ≤ 6) (hb6 : ∀ x ∈ b, x.f4.length ≤ 6) (hl : (a ++ iRow :: b).length ≤ 4096) (ha : legalB a = true) (hb : legalB b = true) : legalB (a ++ iRow :: b) = true := by
 obtain ⟨a1, a2, a3, a4⟩ := legal_parts ha
 obtain ⟨b1, b2, b3, b4⟩ := legal_parts hb
 unfold legalB
 rw [right_two a b a2 b2, nj_two a b a3 b3, leg_two a b (by omega) (rightGo_P a ha6 a2) (rightGo_P b hb6 b2) a4 b4]
 simp only [Bool.or_eq_false_iff] at a1 b1
 rw [List.any_append, List.any_cons, a1.2, b1.2, decide_eq_false (by omega)]
 rfl
theorem tag_i : tagT iRow.f2 iRow.f4 = [60, 105, 62] := rfl
theorem node_i (a b : List Rw) (pb : RightP b) (d : Nat) (raw : Bool) : nodeT (a ++ iRow :: b) (d + 1) raw a.length = [60, 105, 62, 60, 47, 105, 62] := by
 simp only [nodeT]
 rw [rd_i, if_neg (by decide), if_neg (by decide), kids_i a b pb, tag_i]
 unfold restT
 have : memS voids iRow.f2 = false := rfl
 rw [this]
 rfl
theorem flat_two (a b : List Rw) (pa : RightP a) (pb : RightP b) (pc : RightP (a ++ iRow :: b)) : (kidsF (a ++ iRow :: b) (-1)).flatMap (nodeT (a ++ iRow :: b) (a ++ iRow :: b).length false) = (kidsF a (-1)).flatMap (nodeT a a.length false) ++ [60, 105, 62, 60, 47, 105, 62] ++ (kidsF b (-1)).flatMap (nodeT b b.length false) := by
 have hA := part_a a b pa
 have hB := part_b a b pb
 have hlen : (a ++ iRow :: b).length = a.length + (1 + b.length) := by simp; omega
 have e : (List.range' 0 (a ++ iRow :: b).length) = List.range' 0 a.length ++ (a.length :: List.range' (a.length + 1) b.length) := by
  rw [hlen, ← List.range'_append_1, Nat.zero_add, Nat.add_comm 1 b.length, List.range'_succ]
 have hd : depthAt (a ++ iRow :: b) a.length = 0 := by unfold depthAt; rw [rd_i]; rfl
 rw [roots_filter _ pc, e, List.filter_append, List.filter_cons_of_pos (by simpa using hd), List.flatMap_append, List.flatMap_cons, hA.flat pa _ (by omega), hB.flat pb _ (by omega)]
 obtain ⟨m, hm⟩ : ∃ m, (a ++ iRow :: b).length = m + 1 := ⟨_, by rw [hlen, ← Nat.add_assoc, Nat.add_right_comm]⟩
 rw [hm, node_i a b pb, List.append_assoc]
end Go.Proofs.YtdnbaliibiginaaDoorH.W8

/- WriteTwo, in numbers and lists alone: the statement. -/
namespace Go.Proofs.YtdnbaliibiginaaDoorH.W8
open Go.RowKit Go.Proofs Go.Proofs.YtdnbaliibiginaaDoorH Go.Proofs.YtdnbaliibiginaaDoor Go.Proofs.YtdnbaliibiginaaDoorW.PrintWords
theorem refMoved_l0 (xs : List Rw) (hl : xs.length < 1000000) (hd : ∀ x ∈ xs, 0 ≤ x.f0 ∧ x.f0 ≤ 1000000) (ha : ∀ x ∈ xs, x.f4.length ≤ 6) : ∀ (d i k : Nat) (acc : List Rw), i + d = xs.length → acc.length = i → d < k → boltingref04_Moved.l0 k xs 0 acc i = some (acc ++ xs.drop i) := by
 intro d
 induction d with
 | zero =>
  intro i k acc hi hacc hk
  obtain ⟨k, rfl⟩ : ∃ m, k = m + 1 := ⟨k - 1, by omega⟩
  simp only [boltingref04_Moved.l0]
  rw [if_neg (by omega), List.drop_of_length_le (by omega), List.append_nil]
 | succ d ih =>
  intro i k acc hi hacc hk
  obtain ⟨k, rfl⟩ : ∃ m, k = m + 1 := ⟨k - 1, by omega⟩
  have hlt : i < xs.length := by omega
  have h0 := hd xs[i] (List.getElem_mem hlt)
  have h4 := ha xs[i] (List.getElem_mem hlt)
  simp only [boltingref04_Moved.l0]
  rw [if_pos (by omega), if_pos (by omega), Option.bind_some, rd35_at xs i hlt, if_pos (by simp; omega), if_pos (by omega), wN (by omega), w64 (by omega) (by omega), Int.add_zero, List.nil_append]
  rw [ih (i + 1) k _ (by omega) (by simp [hacc]) (by omega), List.append_assoc, List.drop_eq_getElem_cons hlt]
  rfl
theorem refMoved_f (xs : List Rw) (hl : xs.length < 1000000) (hd : ∀ x ∈ xs, 0 ≤ x.f0 ∧ x.f0 ≤ 1000000) (ha : ∀ x ∈ xs, x.f4.length ≤ 6) (k : Nat) (hk : xs.length < k) : boltingref04_Moved.f k xs 0 = some xs := by
 unfold boltingref04_Moved.f
 have := refMoved_l0 xs hl hd ha xs.length 0 k [] (by omega) rfl hk
 simpa using this
theorem depth_all {xs : List Rw} (hp : RightP xs) (hl : xs.length ≤ 1000000) : ∀ x ∈ xs, 0 ≤ x.f0 ∧ x.f0 ≤ 1000000 := by
 intro x hm
 obtain ⟨j, hj, rfl⟩ := List.getElem_of_mem hm
 have h1 := (hp j hj).low
 have h2 := (hp j hj).high
 rw [depth_at xs j hj] at h1 h2
 omega
theorem wt_le {α : Type} (f : α → Nat) : ∀ (l : List α) (a : α), a ∈ l → f a ≤ (l.map f).sum
 | [], _, h => by cases h
 | b :: l, a, h => by
  rw [List.map_cons, List.sum_cons]
  rcases List.mem_cons.1 h with rfl | h
  ·omega
  ·have := wt_le f l a h; omega
theorem szr_of (l : List Rw) (h : (l.map wt35).sum ≤ 2000000) : ∀ x ∈ (l.take 40).map cutR, SzR 2000000 x := by
 intro x hx
 obtain ⟨y, hy, rfl⟩ := List.mem_map.1 hx
 have h1 := wt_le wt35 l y (List.mem_of_mem_take hy)
 have h2 := cutR_wt y
 have h3 := mn6' y.f4.length
 have h4 : ∀ a ∈ (cutR y).f4, wt45 a ≤ ((cutR y).f4.map wt45).sum := fun a ha => wt_le _ _ a ha
 have e2 : ((cutR y).f4.map (fun x => wt45 x)).sum = ((cutR y).f4.map wt45).sum := rfl
 have e0 : wt35 (cutR y) ≤ 2000000 := by omega
 generalize hz : cutR y = z at *
 have hfew : z.f4.length ≤ 6 := by rw [← hz]; simp only [cutR, List.length_take]; omega
 simp only [wt35] at e0
 refine ⟨by omega, by omega, fun a ha => ?_, hfew⟩
 have := h4 a ha
 simp only [wt45] at this e2 e0
 omega
theorem sumS_le : ∀ (l : List Rw), sumS l ≤ (l.map wt35).sum
 | [] => by simp [sumS]
 | x :: l => by
  have := sumS_le l
  simp only [sumS, List.map_cons, List.sum_cons, wt35] at *
  omega
theorem sums_of (l : List Rw) (h : (l.map wt35).sum ≤ 2000000) : sumS ((l.take 40).map cutR) ≤ 2000000 := by
 have h1 := sumS_le ((l.take 40).map cutR)
 have h2 := cutRs_wt (l.take 40)
 have h3 := sum_take' wt35 l 40
 omega
theorem len_of (l : List Rw) : ((l.take 40).map cutR).length ≤ 40 := by rw [List.length_map, List.length_take]; omega
theorem own_of (l : List Rw) (h : (l.map wt35).sum ≤ 2000000) : (((l.take 40).map cutR).map own).sum ≤ 60000000 := by
 have h1 := owns_wt ((l.take 40).map cutR)
 have h2 := cutRs_wt (l.take 40)
 have h3 := sum_take' wt35 l 40
 omega
theorem own_i : own iRow = 24 := rfl
set_option maxRecDepth 100000 in
theorem writeTwo (l m : List Rw) (h : (l.map wt35).sum ≤ 2000000) (h' : (m.map wt35).sum ≤ 2000000) (k : Nat) (hk : 1000000000 ≤ k) : boltinglaw08_WriteTwo.f k l m = some true := by
 have hl := lenR_wt l
 have hm := lenR_wt m
 have za := szr_of l h
 have zb := szr_of m h'
 have sa := sums_of l h
 have sb := sums_of m h'
 have la := len_of l
 have lb := len_of m
 have oa := own_of l h
 have ob := own_of m h'
 unfold boltinglaw08_WriteTwo.f
 rw [bound_f l (by omega) _ (by omega), Option.bind_some, bound_f m (by omega) _ (by omega), Option.bind_some]
 generalize (l.take 40).map cutR = a at *
 generalize (m.take 40).map cutR = b at *
 obtain ⟨k, rfl⟩ : ∃ m, k = m + 1 := ⟨k - 1, by omega⟩
 have hfix : boltinglaw08_WriteTwo.j0 (k + 1) a b true = some true := by
  simp only [boltinglaw08_WriteTwo.j0, if_true]
  rw [fixed_k, Option.bind_some]
 rw [legal_f a 2000000 (by omega) (by omega) za (by omega) _ (by omega), Option.bind_some]
 cases hla : legalB a with
 | false => rw [if_neg (by decide), hfix]
 | true =>
  rw [if_pos rfl, legal_f b 2000000 (by omega) (by omega) zb (by omega) _ (by omega), Option.bind_some]
  cases hlb : legalB b with
  | false => exact hfix
  | true =>
   have a6 : ∀ x ∈ a, x.f4.length ≤ 6 := fun x h => (za x h).few
   have b6 : ∀ x ∈ b, x.f4.length ≤ 6 := fun x h => (zb x h).few
   have pa := rightGo_P a a6 (legal_parts hla).2.1
   have pb := rightGo_P b b6 (legal_parts hlb).2.1
   have lc : (a ++ iRow :: b).length = a.length + (b.length + 1) := by simp
   have hlc := legal_two a b a6 b6 (by omega) hla hlb
   have zc : ∀ x ∈ a ++ iRow :: b, SzR 2000000 x := by
    intro x hx
    rcases List.mem_append.1 hx with h | h
    ·exact za x h
    ·rcases List.mem_cons.1 h with rfl | h
     ·exact ⟨by decide, by decide, fun a h => (by cases h), by decide⟩
     ·exact zb x h
   have pc := rightGo_P _ (fun x h => (zc x h).few) (legal_parts hlc).2.1
   have sc : sumS (a ++ iRow :: b) ≤ 5000000 := by
    have : sumS (a ++ iRow :: b) = sumS a + (iRow.f3.size + sumS b) := by simp [sumS]
    rw [this, show iRow.f3.size = 0 from rfl]
    omega
   have ha' : SizeP a := ⟨by omega, by unfold sufS; rw [List.drop_zero]; omega, a6⟩
   have hb' : SizeP b := ⟨by omega, by unfold sufS; rw [List.drop_zero]; omega, b6⟩
   have hc' : SizeP (a ++ iRow :: b) := by
    refine ⟨by omega, ?_, fun x h => (zc x h).few⟩
    unfold sufS
    rw [List.drop_zero, List.map_append, List.map_cons, List.sum_append, List.sum_cons, own_i]
    omega
   simp only [boltinglaw08_WriteTwo.j0, Bool.not_true]
   rw [if_neg (by decide)]
   have mi : boltingref04_Moved.f k [iRow] 0 = some [iRow] := refMoved_f _ (by simp) (fun x h => by rw [List.mem_singleton] at h; subst h; decide) (fun x h => by rw [List.mem_singleton] at h; subst h; decide) k (by simp; omega)
   have ma := refMoved_f a (by omega) (depth_all pa (by omega)) a6 k (by omega)
   have mb := refMoved_f b (by omega) (depth_all pb (by omega)) b6 k (by omega)
   have hai : RightP (a ++ [iRow]) := by
    have := right_two a [] (legal_parts hla).2.1 rfl
    exact rightGo_P _ (fun x h => by rcases List.mem_append.1 h with h | h; exact a6 x h; rw [List.mem_singleton] at h; subst h; decide) this
   have mai := refMoved_f (a ++ [iRow]) (by simp; omega) (depth_all hai (by simp; omega)) (fun x h => by rcases List.mem_append.1 h with h | h; exact a6 x h; rw [List.mem_singleton] at h; subst h; decide) k (by simp; omega)
   have j1 : boltingref04_Join.f k a [iRow] = some (a ++ [iRow]) := by
    unfold boltingref04_Join.f
    rw [ma, Option.bind_some, mi, Option.bind_some, if_pos (by simp; omega)]
   have j2 : boltingref04_Join.f k (a ++ [iRow]) b = some (a ++ iRow :: b) := by
    unfold boltingref04_Join.f
    rw [mai, Option.bind_some, mb, Option.bind_some, if_pos (by simp; omega), List.append_assoc]
    rfl
   show (boltingref04_Join.f k a [iRow]).bind _ = _
   rw [j1, Option.bind_some, j2, Option.bind_some, legal_f _ 2000000 (by omega) (by omega) zc (by omega) k (by omega), Option.bind_some, hlc, if_pos rfl]
   have fa := kids_len0 a a.length false (-1) (.inl rfl)
   have fb := kids_len0 b b.length false (-1) (.inl rfl)
   have ta := ha'.total
   have tb := hb'.total
   unfold write_Rows.f
   rw [written_f _ hc' pc (-1) (.inl rfl), written_f _ ha' pa (-1) (.inl rfl), written_f _ hb' pb (-1) (.inl rfl)]
   simp only [show ∀ xs : List Rw, rawAt xs (-1) = false from fun xs => rfl]
   rw [flat_two a b pa pb pc]
   generalize (kidsF a (-1)).flatMap (nodeT a a.length false) = x at *
   generalize (kidsF b (-1)).flatMap (nodeT b b.length false) = y at *
   have ex : (⟨x.toArray⟩ : ByteArray).size = x.length := mk_size _
   have ey : (⟨y.toArray⟩ : ByteArray).size = y.length := mk_size _
   rw [Option.bind_some, Option.bind_some, Option.bind_some, Option.bind_some, if_pos (by omega), Option.bind_some, Option.bind_some, if_pos (by rw [ByteArray.size_append, ex, ey]; show _ + 7 + _ ≤ _; omega), if_pos, fixed_k, Option.bind_some]
   refine same_list ?_
   rw [ba_data, ba_data]
end Go.Proofs.YtdnbaliibiginaaDoorH.W8

/- boltinglaw08.WriteTwo is true of any two lists of rows of bulk at most 1048576: its walk (printed) over the plain law. -/
namespace Go.Proofs.YtdnbaliibiginaaDoor
open Go.RowKit Go.Proofs Go.Proofs.YtdnbaliibiginaaDoorH Go.Proofs.YtdnbaliibiginaaDoorH.W8 Go.Proofs.YtdnbaliibiginaaDoorW.PrintWords
theorem writeTwo_w (A : Option Addr) (c : Nat) (l : List S35) {W : World} (hr : k35.C W A l.length l) (hc : l.length ≤ c) (wf : ∀ x ∈ l, wf35 x)
  (A' : Option Addr) (c' : Nat) (l' : List S35) (hr' : k35.C W A' l'.length l') (hc' : l'.length ≤ c') (wf' : ∀ x ∈ l', wf35 x)
  (hb : (l.map wt35).sum ≤ 1048576 ∧ (l'.map wt35).sum ≤ 1048576) (hS : Std8 W) :
  Calls Tryd.prog 5 #[.slice A l.length c, .slice A' l'.length c'] W fun e w' => e = .returned (.bool true) ∧ Below W.heap.size W w' :=
 boltinglaw08_WriteTwo.calls 1000000000 A c l A' c' l' true W hr hc hr' hc' (writeTwo l l' (by omega) (by omega) 1000000000 (Nat.le_refl _)) hS
end Go.Proofs.YtdnbaliibiginaaDoor

/- A world that fits the rows of layer 8: the settled one, the listed variables holding what the program's text lays; and what a row's premises give the walks. -/
namespace Go.Proofs.YtdnbaliibiginaaDoor
open Go.ChangeShapes Go.WideShapes Go.ChangeAt Go.RowKit
theorem own : ownKnob Tryd.prog.godebug = none := by kernel_rfl
def litCell : DataW Unit → Value
 | .lit (.int k n) => .int k n
 | _ => .bool false
def litCells : DataW Unit → List Value
 | .agg l => l.map litCell
 | d => [litCell d]
def dataCells : DataW Unit → Array Value
 | .agg l => (l.flatMap litCells).toArray
 | _ => #[]
noncomputable def laidWorld (os : Os) : World :=
 let w0 := World.holding Tryd.prog os ⟨#[], #[], []⟩
 let put (h : Array Obj) (g : Nat) (cs : Array Value) : Array Obj := h.modify g fun
  | .cells _ t frozen => .cells cs t frozen
  | o => o
 let h1 := put w0.heap 1 (dataCells Rows.laid_unicode_utf8_acceptRanges)
 let h2 := put h1 0 (dataCells Rows.laid_unicode_utf8_first)
 { w0 with heap := h2 }
def listed : List (String × DataW Unit) := [("unicode/utf8.acceptRanges", Rows.laid_unicode_utf8_acceptRanges), ("unicode/utf8.first", Rows.laid_unicode_utf8_first)]
set_option maxRecDepth 100000 in
theorem laid_met (os : Os) (args : Array Value) : laidMet Tryd.prog listed ((laidWorld os).forCall (fun _ _ => 0) ⟨#[], args, []⟩).memory :=
 (LaidIn.of_run [1, 0] 8 (by kernel_rfl) (by kernel_rfl) (by kernel_rfl) (by kernel_rfl)).met
theorem acc_eq : (Rows.laid_unicode_utf8_acceptRanges : DataW Unit) = Lib.acceptData := by kernel_rfl
theorem fst_eq : (Rows.laid_unicode_utf8_first : DataW Unit) = Lib.firstData := by kernel_rfl
theorem std_of {W : World} (hL : laidMetH Tryd.prog listed W) (hsh : W.ShapedOpen Tryd.prog) : Std8 W := by
 have h0 : laidMet Tryd.prog listed W := hL
 unfold listed at h0
 rw [acc_eq, fst_eq] at h0
 refine ⟨Go.Proofs.cell_of_shapedOpen_int (zero := #[.int .i64 0]) (t := 3) hsh (of_decide_eq_true (by kernel_rfl)) (by kernel_rfl) rfl (by kernel_rfl) (by kernel_rfl) Tryd.underlying3, ?_⟩
 exact utf8Tabs_of_readsT (U8Types.of196 valid_lays) ⟨by kernel_rfl, by kernel_rfl, by kernel_rfl, by kernel_rfl, by kernel_rfl, by kernel_rfl, by kernel_rfl⟩ (Lib.laidMet.reads h0 (.tail _ (.head _))) (Lib.laidMet.reads h0 (.head _))
end Go.Proofs.YtdnbaliibiginaaDoor

/- boltinglaw08.WriteTwo returns true and leaves its arguments as they were, where what it reads is of bulk at most 1048576: the row and its card. Conditions: the row's own (that bulk; the form's reach; the listed variables as the program's text lays them). -/
namespace Go.Proofs.YtdnbaliibiginaaDoor.fnWriteTwo
open Go.ChangeShapes Go.WideShapes Go.ChangeAt Go.RowKit Go.Proofs.YtdnbaliibiginaaDoorH.W8
open Go.ChangeMaps (open_string shut_string)
theorem laidOut : laidOutB Tryd.prog = true := by kernel_rfl
set_option maxRecDepth 100000 in
theorem contract (H : Type) (enc : TypeId × Value → H) (W : World) (base : Nat) (args : Array Value) (ds gs : List (DataW H)) (before : List MemPlace)
  (hval : ∀ (j : Nat) t v, Tryd.f5.params[j]? = some t → args[j]? = some v → Value.okWide Tryd.prog W .any base t v)
  (hW : DataW.Whole enc Tryd.prog Tryd.f5.params.toList Rows.writeTwoSpec.vars false W args.toList ds gs before)
  (hk : Rows.uptoSmall H (ds ++ gs) = true)
  (hS : Std8 W) :
  Calls Tryd.prog 5 args W fun e W' => ∃ v, e = .returned v ∧ Rows.writeTwoSpec.post enc Tryd.prog Tryd.f5 false true false false W args v W' := by
 have hW' := hW
 obtain ⟨p, q, hA0, hV, rfl, hfz, hnd⟩ := hW
 have hA : DataW.TrodAll enc Tryd.prog W 0 (fun _ => true) true Tryd.f5.params.toList args.toList ds p := hA0
 rw [Tryd.params5] at hA hval
 obtain ⟨v0, vs0, d0, ds0, p0, q0, hargs, rfl, rfl, h0, r0⟩ := trodAll_cons hA
 obtain ⟨v1, vs1, d1, ds1, p1, q1, rfl, rfl, rfl, h1, r1⟩ := trodAll_cons r0
 obtain ⟨rfl, rfl, rfl⟩ := trodAll_nil r1
 obtain rfl : args = #[v0, v1] := by cases args; simp_all
 obtain ⟨rfl, rfl⟩ := trodVars_none hV
 have hlt : ∀ x ∈ p0 ++ p1, x.block < W.heap.size := fun x hx => hW'.lt x (by simpa using hx)
 have hbulk := of_decide_eq_true hk
 simp only [List.append_nil, List.cons_append, List.nil_append, Rows.uptoBulkAll] at hbulk
 obtain ⟨fuel0, hf0⟩ := id h0
 obtain ⟨a0, n0, m0, rfl⟩ := okWide_slice Tryd.underlying22 (hval 0 22 v0 rfl rfl)
 obtain ⟨l0, ⟨A0, c0, e0, hc0, hr0⟩, b0, w0⟩ := opn22 hf0
 obtain ⟨rfl, rfl, rfl⟩ : a0 = A0 ∧ n0 = l0.length ∧ m0 = c0 := by
  simp only [Value.cells] at e0
  simpa using e0
 obtain ⟨fuel1, hf1⟩ := id h1
 obtain ⟨a1, n1, m1, rfl⟩ := okWide_slice Tryd.underlying22 (hval 1 22 v1 rfl rfl)
 obtain ⟨l1, ⟨A1, c1, e1, hc1, hr1⟩, b1, w1⟩ := opn22 hf1
 obtain ⟨rfl, rfl, rfl⟩ : a1 = A1 ∧ n1 = l1.length ∧ m1 = c1 := by
  simp only [Value.cells] at e1
  simpa using e1
 clear hA0
 simp only [List.append_nil] at hW'
 simp only at b0 b1
 have walk := writeTwo_w a0 m0 l0 hr0 hc0 w0 a1 m1 l1 hr1 hc1 w1 ⟨by omega, by omega⟩ hS
 refine walk.mono fun e W' ⟨he, hb⟩ => ?_
 subst he
 have e1 : Rows.writeTwoSpec.fn H ([d0, d1] ++ []) = { results := [.lit (.bool true)], args := [d0, d1] } := rfl
 refine ⟨_, rfl, _, _, _, [], (p0 ++ (p1 ++ [])), [], hW', ?_, ?_, ?_, hb.frame _, fun h => by cases h⟩
 ·rw [e1]; exact trodAll_cons_mk (shut_bool Tryd.underlying4 _) trodAll_mk0
 ·rw [e1]; exact (trodAll_cons_mk (Below.trod laidOut (by kernel_rfl) (of_decide_eq_true (by kernel_rfl)) h0 hb (fun x hx => hlt x (List.mem_append.2 (.inl hx)))) (trodAll_cons_mk (Below.trod laidOut (by kernel_rfl) (of_decide_eq_true (by kernel_rfl)) h1 hb (fun x hx => hlt x (List.mem_append.2 (.inr hx)))) trodAll_mk0))
 ·rw [e1]; rfl
theorem reads (os : Os) {H : Type} (enc : TypeId × Value → H) : ∃ places, DataW.whole enc Tryd.prog ((laidWorld os).forCall (fun _ _ => 0) ⟨#[], #[.slice none 0 0, .slice none 0 0], []⟩).memory Tryd.f5.params.toList Rows.writeTwoSpec.vars false #[Value.slice none 0 0, Value.slice none 0 0].toList 8 = some ([.nil, .nil], [], places) :=
 ⟨[], by kernel_rfl⟩
set_option maxRecDepth 100000 in
theorem lifted (os : Os) (started : os.Started) (H : Type) (enc : TypeId × Value → H) (F : Stop.Interp) :
  ReturnsInHanded {} Tryd.checked os 5 .any ((Rows.OpenSpec.upto Rows.writeTwoSpec).preRow enc Tryd.prog Tryd.f5 Rows.writeTwoUptoRow.domain false Rows.writeTwoUptoRow.laid) (((Rows.OpenSpec.upto Rows.writeTwoSpec).at F).post enc Tryd.prog Tryd.f5 false true false false) := by
 obtain ⟨places, hx⟩ := reads os enc
 refine returnsInHanded_of_row (C := Tryd.checked) (s := Rows.OpenSpec.upto Rows.writeTwoSpec) own started (by kernel_rfl) Tryd.func5
  (witness_row_atRef (enc := enc) (C := Tryd.checked) false (laidWorld os) #[.slice none 0 0, .slice none 0 0] rfl (by kernel_rfl) (by kernel_rfl) (by kernel_rfl)
   (OpenSpec.preRow_of_cond 8 hx (by kernel_rfl) (fun k hk => by cases hk; kernel_rfl) (by kernel_rfl) (laid_met os #[.slice none 0 0, .slice none 0 0]))) ?_
 intro W base args ds gs before hval hW _ hcond hsz hL hsh _
 exact contract H enc W base args ds gs before hval hW (hcond _ rfl) (std_of hL hsh)
theorem said : Rows.WriteTwoUptoSaid :=
 OpenClaim.holds_of_cond 5 Tryd.f5 rfl rfl rfl rfl rfl rfl rfl ⟨rfl, rfl, rfl, rfl, rfl⟩ rfl rfl rfl rfl rfl (by kernel_rfl) Tryd.func5 (by kernel_rfl)
  (of_decide_eq_true (by kernel_rfl)) (by unfold Func.isWrapper; rw [if_neg (of_decide_eq_false (by kernel_rfl))]; exact ⟨rfl, rfl⟩)
  (fun os started H enc _ F => by rw [OpenClaim.pre_eq_preRow]; exact lifted os started H enc F)
theorem plain (f : FuncId) (fn : Func) (hf : Tryd.pinned.checked.prog.funcNamed "bolting/boltinglaw08.WriteTwo" = some f) (hfn : Tryd.pinned.checked.prog.funcs[f]? = some fn) :
  true = Tryd.pinned.checked.prog.looks [] ∧ ∀ (j : Nat) t, fn.params[j]? = some t → Tryd.pinned.checked.prog.wantsStandIn t = false := by
 obtain rfl : f = 5 := Option.some.inj ((show Tryd.prog.funcNamed "bolting/boltinglaw08.WriteTwo" = some 5 by kernel_rfl).symm.trans hf) |>.symm
 obtain rfl : fn = Tryd.f5 := (Option.some.inj (Tryd.func5.symm.trans hfn)).symm
 refine ⟨by kernel_rfl, fun j t ht => ?_⟩
 rw [Tryd.params5] at ht
 have hm := Array.mem_of_getElem? ht
 simp only [List.mem_toArray, List.mem_cons, List.mem_nil_iff, or_false] at hm
 rcases hm with rfl | rfl
 ·exact (show Tryd.prog.wantsStandIn 22 = false by kernel_rfl)
 ·exact (show Tryd.prog.wantsStandIn 22 = false by kernel_rfl)
theorem writeTwo_card : Rows.WriteTwoUptoCardSaid :=
 Claim7.holds_tied_plain_at .later [] _ _ _ _ said (fun _ h => by cases h) (by kernel_rfl) (fun _ h => by cases h) writeTwoUpto_row_tie rfl ⟨rfl, rfl⟩ (by kernel_rfl) rfl plain (by kernel_rfl)
end Go.Proofs.YtdnbaliibiginaaDoor.fnWriteTwo
namespace Go.Proofs.YtdnbaliibiginaaDoor
theorem writeTwo_holds : Rows.WriteTwoUptoCardSaid := fnWriteTwo.writeTwo_card
end Go.Proofs.YtdnbaliibiginaaDoor
