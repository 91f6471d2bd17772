/- Lemmas and walks: the last part. -/
import Derived.Test.YtkcmghlhpbepcaaGreatDoorB79
import Derived.Test.YtkcmghlhpbepcaaGreatDoorB726
import Derived.Test.YtkcmghlhpbepcaaGreatDoorB711
import Derived.Test.YtkcmghlhpbepcaaGreatDoorB712
import Derived.Test.YtkcmghlhpbepcaaGreatDoorB725
import Derived.Test.YtkcmghlhpbepcaaGreatDoorB724
import Derived.Test.YtkcmghlhpbepcaaGreatDoorRows
import Derived.Test.YtkcmghlhpbepcaaGreatDoorB72
import Derived.WalkKit
import Derived.ProofKit
import Derived.OpenShut
import Derived.SizedLaws
import Derived.Deep.DeepHandedRow
import Derived.Deep.DeepWitnessRowRef
import Derived.Stop.LaidErr
import Derived.Lib.LaidIn
import Derived.Lib.LaidU8T
import Derived.Shelf.Vars
import Derived.Test.YtkcmghlhpbepcaaGreatDoorB75
import Derived.Test.YtkcmghlhpbepcaaGreatDoorB71
import Derived.Test.YtkcmghlhpbepcaaGreatDoorB73
import Derived.Test.YtkcmghlhpbepcaaGreatDoorB76
import Derived.Test.YtkcmghlhpbepcaaGreatDoorB716
import Derived.Test.YtkcmghlhpbepcaaGreatDoorB717
import Derived.Test.YtkcmghlhpbepcaaGreatDoorB723
import Derived.Test.YtkcmghlhpbepcaaGreatDoorB74
import Derived.Test.YtkcmghlhpbepcaaGreatDoorB719
import Derived.Test.YtkcmghlhpbepcaaGreatDoorB710
import Derived.Test.YtkcmghlhpbepcaaGreatDoorB713
import Derived.Test.YtkcmghlhpbepcaaGreatDoorB714
import Derived.Test.YtkcmghlhpbepcaaGreatDoorB715
import Derived.Test.YtkcmghlhpbepcaaGreatDoorB718
import Derived.Test.YtkcmghlhpbepcaaGreatDoorB720
import Derived.Test.YtkcmghlhpbepcaaGreatDoorB721
import Derived.Test.YtkcmghlhpbepcaaGreatDoorB722
import Derived.Test.YtkcmghlhpbepcaaGreatDoorB78
import Derived.Test.YtkcmghlhpbepcaaGreatDoorB77
set_option linter.unusedVariables false
set_option linter.unusedSimpArgs false

/- Words and walks used below. -/
namespace Go.Proofs.YtkcmghlhpbepcaaGreatDoorH.W7
open Go.RowKit Go.Proofs.YtkcmghlhpbepcaaGreatDoorW.PrintWords Go.Proofs.YtkcmghlhpbepcaaGreatDoorW.PrintLast Go.Proofs.YtkcmghlhpbepcaaGreatDoorW.PrintMore
attribute [local go_sem] max2_int min2_int max_two min_two max_three min_three max_four min_four   -- for this text's walks alone
def boltingref07_opened.f (k : Nat) (l0 : List ByteArray) (a1 : ByteArray) : Option (List ByteArray) := (boltingref05_Closes.f k a1).bind fun t288 => ((boltingref05_Walls.f k a1).bind fun t291 => ((boltingref07_closed.f k l0 t288 t291).bind fun t294 => ((boltingref07_para.f a1).bind fun t297 => (if t297 = true then ((boltingref05_Walls.f k (⟨#[112]⟩ : ByteArray)).bind fun t301 => ((boltingref07_closed.f k t294 (([(⟨#[112]⟩ : ByteArray)] : List ByteArray)) t301).bind fun t304 => (some t304))) else (some t294)))))
end Go.Proofs.YtkcmghlhpbepcaaGreatDoorH.W7

/- Words and walks used below. -/
namespace Go.Proofs.YtkcmghlhpbepcaaGreatDoorH.W7
open Go.RowKit Go.Proofs.YtkcmghlhpbepcaaGreatDoorW.PrintWords Go.Proofs.YtkcmghlhpbepcaaGreatDoorW.PrintLast Go.Proofs.YtkcmghlhpbepcaaGreatDoorW.PrintMore
attribute [local go_sem] max2_int min2_int max_two min_two max_three min_three max_four min_four   -- for this text's walks alone
def boltingref07_Nested.f (k : Nat) (a0 : ByteArray) (l1 : List ByteArray) : Option (Bool) := (boltingref07_opened.f k l1 a0).bind fun t307 => (some ((t307.length : Int) == (l1.length : Int)))
end Go.Proofs.YtkcmghlhpbepcaaGreatDoorH.W7

/- Names in lists: the printed questions come to whether a name is in a list. -/
namespace Go.Proofs.YtkcmghlhpbepcaaGreatDoorH.W7
open Go.RowKit Go.Proofs Go.Proofs.YtkcmghlhpbepcaaGreatDoorH Go.Proofs.YtkcmghlhpbepcaaGreatDoor Go.Proofs.YtkcmghlhpbepcaaGreatDoorW.PrintWords
theorem wN {i : Nat} (h : i < 1000000000) : wrap64 ((i : Int) + 1) = ((i + 1 : Nat) : Int) := by unfold wrap64; omega
theorem bIff (a b : ByteArray) : a.toList = b.toList ↔ a.data.toList = b.data.toList := by rw [Lib.toList_data, Lib.toList_data]
def memS (l : List ByteArray) (s : ByteArray) : Bool := l.any fun x => x.data.toList == s.data.toList
theorem rdOf_at (l : List ByteArray) (i : Nat) (h : i < l.length) : rdOf ByteArray.empty l (i : Int) = l[i] := by simp [rdOf, h]
theorem among_l0 (s : ByteArray) (l : List ByteArray) (hl : l.length < 100000) : ∀ (d i k : Nat), l.length - i ≤ d → i ≤ l.length → d < k → names_among.l0 k s l (l.length : Int) i = some (memS (l.drop i) s) := by
 intro d
 induction d with
 | zero =>
   intro i k hd hi hk
   obtain ⟨k, rfl⟩ : ∃ m, k = m + 1 := ⟨k - 1, by omega⟩
   simp only [names_among.l0]
   rw [if_neg (by omega), List.drop_of_length_le (by omega)]
   rfl
 | succ d ih =>
   intro i k hd hi hk
   obtain ⟨k, rfl⟩ : ∃ m, k = m + 1 := ⟨k - 1, by omega⟩
   by_cases h : i < l.length
   ·simp only [names_among.l0]
    rw [if_pos (by omega), if_pos (by omega), if_pos (by omega), rdOf_at l i h, wN (by omega), ih (i + 1) k (by omega) (by omega) (by omega), List.drop_eq_getElem_cons h]
    simp only [memS, List.any_cons]
    by_cases e : l[i].data.toList = s.data.toList
    ·rw [if_pos ((bIff _ _).2 e), e]; simp
    ·rw [if_neg (fun h => e ((bIff _ _).1 h)), beq_eq_false_iff_ne.2 e, Bool.false_or]
   ·simp only [names_among.l0]
    rw [if_neg (by omega), List.drop_of_length_le (by omega)]
    rfl
theorem among_f (s : ByteArray) (l : List ByteArray) (k : Nat) (hl : l.length < 100000) (hk : l.length < k) : names_among.f k s l = some (memS l s) := among_l0 s l hl l.length 0 k (by omega) (by omega) hk
end Go.Proofs.YtkcmghlhpbepcaaGreatDoorH.W7

/- Names and nesting, in lists alone: the printed questions about names of both sides are the same. -/
namespace Go.Proofs.YtkcmghlhpbepcaaGreatDoorH.W7
open Go.RowKit Go.Proofs Go.Proofs.YtkcmghlhpbepcaaGreatDoorH Go.Proofs.YtkcmghlhpbepcaaGreatDoor Go.Proofs.YtkcmghlhpbepcaaGreatDoorW.PrintWords
def tabR : List ByteArray := (boltingref05_Table.f).getD []
theorem table_f (s : ByteArray) (k : Nat) (hk : 20 ≤ k) : names_table.f k s = some (memS tabR s) := by
 unfold names_table.f
 rw [among_f _ _ _ (by simp) (by simp; omega), Option.bind_some]
 congr 1
 show memS _ s = memS ((boltingref05_Table.f).getD []) s
 simp only [boltingref05_Table.f, Option.getD_some, memS, List.any_cons, List.any_nil, Bool.or_false]
 ac_rfl
def blkR : List ByteArray := (boltingref05_Block.f).getD []
theorem block_f (s : ByteArray) (k : Nat) (hk : 90 ≤ k) : names_Block.f k s = some (memS blkR s) := by
 unfold names_Block.f
 rw [among_f _ _ _ (by simp) (by simp; omega), Option.bind_some]
 rfl
def closeR (a b : List ByteArray) : Nat → List ByteArray → List ByteArray
 | 0, op => op
 | n + 1, op => if foundK op a b op.length < 0 then op else closeR a b n (op.take (foundK op a b op.length).toNat)
theorem closes_some (s : ByteArray) (k : Nat) (hk : 101 ≤ k) : ∃ c, names_Closes.f k s = some c ∧ c.length < 1000 := by
 obtain ⟨k, rfl⟩ : ∃ m, k = m + 1 := ⟨k - 1, by omega⟩
 have h : ∀ b, ∃ c, names_Closes.j0 (k + 1) s s b = some c ∧ c.length < 1000 := by
  intro b
  simp only [names_Closes.j0]
  rw [table_f _ _ (by omega), Option.bind_some, block_f _ _ (by omega), Option.bind_some]
  repeat' split
  all_goals exact ⟨_, rfl, by simp⟩
 unfold names_Closes.f
 split
 ·exact h _
 ·exact h _
theorem walls_some (s : ByteArray) (k : Nat) (hk : 101 ≤ k) : ∃ c, names_Walls.f k s = some c ∧ c.length < 1000 := by
 unfold names_Walls.f
 rw [among_f _ _ _ (by simp) (by simp; omega), Option.bind_some, among_f _ _ _ (by simp) (by simp; omega), Option.bind_some, table_f _ _ (by omega), Option.bind_some]
 repeat' split
 all_goals exact ⟨_, rfl, by simp⟩
theorem par_some (s : ByteArray) : ∃ p, build_paragraph.f s = some p := by
 unfold build_paragraph.f
 repeat' split
 all_goals exact ⟨_, rfl⟩
end Go.Proofs.YtkcmghlhpbepcaaGreatDoorH.W7

/- Rows that are normal come back from Normal as they are: in lists alone. -/
namespace Go.Proofs.YtkcmghlhpbepcaaGreatDoorH.W7
open Go.RowKit Go.Proofs Go.Proofs.YtkcmghlhpbepcaaGreatDoorH Go.Proofs.YtkcmghlhpbepcaaGreatDoor Go.Proofs.YtkcmghlhpbepcaaGreatDoorW.PrintWords
def dropB (p : Option Rw) (x : Rw) : Bool := decide (x.f1 = 1) && (decide (x.f3.data.toList = []) || match p with | none => false | some y => decide (y.f1 = 1) && decide (y.f0 = x.f0))
def njGo : Option Rw → List Rw → Bool
 | _, [] => true
 | p, x :: r => !dropB p x && njGo (some x) r
theorem rd35_at (xs : List Rw) (i : Nat) (h : i < xs.length) : rd_T34 xs i = xs[i] := by simp [rd_T34, h]
theorem last_rd (outs : List Rw) (h : 0 < outs.length) : outs.getLast? = some (rd_T34 outs ((outs.length : Int) - 1)) := by
 have e : (((outs.length : Int) - 1)) = ((outs.length - 1 : Nat) : Int) := by omega
 rw [e, rd35_at outs (outs.length - 1) (by omega), List.getLast?_eq_getElem?, List.getElem?_eq_getElem (by omega)]
theorem step_app (outs : List Rw) (x : Rw) (h : dropB outs.getLast? x = false) (hl : outs.length < 1000000000000) : normStep outs x = some (outs ++ [x]) := by
 unfold normStep
 rw [if_neg, if_neg, if_pos hl]
 ·rintro ⟨h1, h2, h3, h4⟩
  rw [last_rd outs h2] at h
  simp [dropB, h1, h3, h4] at h
 ·rintro ⟨h1, h2⟩
  simp [dropB, h1, h2] at h
theorem last_app (outs : List Rw) (x : Rw) : (outs ++ [x]).getLast? = some x := by simp
theorem norm_id : ∀ (xs outs : List Rw), outs.length + xs.length ≤ 1000000 → njGo outs.getLast? xs = true → normAll outs xs = some (outs ++ xs)
 | [], outs, _, _ => by simp [normAll]
 | x :: xs, outs, h1, h2 => by
   simp only [List.length_cons] at h1
   simp only [njGo, Bool.and_eq_true, Bool.not_eq_true'] at h2
   simp only [normAll]
   rw [step_app outs x h2.1 (by omega), Option.bind_some, norm_id xs (outs ++ [x]) (by simp; omega) (by rw [last_app]; exact h2.2)]
   simp
theorem wM {x : Int} (h0 : 0 ≤ x) (h1 : x ≤ 1000000000) : wrap64 x = x := by unfold wrap64; omega
theorem moved_l1 (xs : List Rw) (hl : xs.length < 1000000) (hd : ∀ x ∈ xs, 0 ≤ x.f0 ∧ x.f0 ≤ 1000000) (ha : ∀ x ∈ xs, x.f4.length ≤ 1000000) : ∀ (d i k : Nat) (acc : List Rw), i + d = xs.length → acc.length = i → d < k → rows_moved.l0 k 0 acc xs (xs.length : Int) i = some (acc ++ xs.drop i) := by
 intro d
 induction d with
 | zero =>
   intro i k acc hi hacc hk
   obtain ⟨k, rfl⟩ : ∃ m, k = m + 1 := ⟨k - 1, by omega⟩
   simp only [rows_moved.l0]
   rw [if_neg (by omega), List.drop_of_length_le (by omega), List.append_nil]
 | succ d ih =>
   intro i k acc hi hacc hk
   obtain ⟨k, rfl⟩ : ∃ m, k = m + 1 := ⟨k - 1, by omega⟩
   have hlt : i < xs.length := by omega
   have h0 := hd xs[i] (List.getElem_mem hlt)
   have h4 := ha xs[i] (List.getElem_mem hlt)
   simp only [rows_moved.l0]
   rw [if_pos (by omega), if_pos (by omega), if_pos (by omega), rd35_at xs i hlt]
   unfold api_Attr.f
   rw [if_pos (by omega), Option.bind_some, if_pos (by omega), wM (by omega) (by omega), wM (by omega) (by omega), Int.add_zero]
   rw [show ((i : Int) + 1) = ((i + 1 : Nat) : Int) from by omega, ih (i + 1) k _ (by omega) (by simp [hacc]) (by omega), List.append_assoc, List.drop_eq_getElem_cons hlt]
   rfl
theorem normal_id (xs : List Rw) (hl : xs.length < 1000000) (hd : ∀ x ∈ xs, 0 ≤ x.f0 ∧ x.f0 ≤ 1000000) (ha : ∀ x ∈ xs, x.f4.length ≤ 1000000) (hn : njGo none xs = true) : rows_Normal.f xs = some xs := by
 unfold rows_Normal.f rows_moved.f
 have := moved_l1 xs hl hd ha xs.length 0 (xs.length + 1) [] (by omega) rfl (by omega)
 simp only [Int.ofNat_zero, Int.natCast_zero, List.drop_zero, List.nil_append] at this
 rw [this, Option.bind_some]
 exact norm_id xs [] (by simp; omega) hn
theorem njGo_app : ∀ (xs ys : List Rw) (p : Option Rw), njGo p (xs ++ ys) = (njGo p xs && njGo (xs.getLast?.or p) ys)
 | [], ys, p => by simp [njGo]
 | x :: xs, ys, p => by
   simp only [List.cons_append, njGo]
   rw [njGo_app xs ys (some x)]
   have : (x :: xs).getLast?.or p = xs.getLast?.or (some x) := by
    cases xs with
    | nil => rfl
    | cons y r => simp [List.getLast?_cons_cons, List.getLast?_cons]
   rw [this, Bool.and_assoc]
end Go.Proofs.YtkcmghlhpbepcaaGreatDoorH.W7

/- Trees of tokens, in lists alone: what the builder comes to has a value, and its rows are normal. -/
namespace Go.Proofs.YtkcmghlhpbepcaaGreatDoorH.W7
open Go.RowKit Go.Proofs Go.Proofs.YtkcmghlhpbepcaaGreatDoorH Go.Proofs.YtkcmghlhpbepcaaGreatDoor Go.Proofs.YtkcmghlhpbepcaaGreatDoorW.PrintWords
def goneT : List ByteArray := [⟨#[98, 111, 100, 121]⟩, ⟨#[102, 114, 97, 109, 101, 115, 101, 116]⟩, ⟨#[104, 101, 97, 100]⟩, ⟨#[104, 116, 109, 108]⟩]
def voidT : List ByteArray := [[97, 114, 101, 97], [98, 97, 115, 101], [98, 114], [99, 111, 108], [101, 109, 98, 101, 100], [104, 114], [105, 109, 103], [105, 110, 112, 117, 116], [108, 105, 110, 107], [109, 101, 116, 97], [112, 97, 114, 97, 109], [115, 111, 117, 114, 99, 101], [116, 114, 97, 99, 107], [119, 98, 114]].map fun l => ⟨l.toArray⟩
theorem goneT_f (s : ByteArray) (k : Nat) (hk : 20 ≤ k) : names_Gone.f k s = some (memS goneT s) := by
 unfold names_Gone.f
 rw [among_f _ _ _ (by simp) (by simp; omega), Option.bind_some]
 rfl
theorem voidT_f (s : ByteArray) (k : Nat) (hk : 20 ≤ k) : names_Void.f k s = some (memS voidT s) := by
 unfold names_Void.f
 rw [among_f _ _ _ (by simp) (by simp; omega), Option.bind_some]
 rfl
theorem nmB_all (s : ByteArray) : nmB s = true := by
 unfold nmB
 obtain ⟨c, hc, -⟩ := closes_some s 200 (by omega)
 obtain ⟨w, hw, -⟩ := walls_some s 200 (by omega)
 obtain ⟨p, hp⟩ := par_some s
 rw [hc, hw, hp, goneT_f _ _ (by omega), voidT_f _ _ (by omega)]
 rfl
theorem goneL_eq (s : ByteArray) : goneL s = memS goneT s := by unfold goneL; rw [goneT_f _ _ (by omega)]; rfl
theorem voidL_eq (s : ByteArray) : voidL s = memS voidT s := by unfold voidL; rw [voidT_f _ _ (by omega)]; rfl
def treeP : List Tk → List ByteArray → List Rw → Option (List Rw)
 | [], _, out => some out
 | t :: r, op, out => if (stepF op out t).2.2 then none else treeP r (stepF op out t).1 (stepF op out t).2.1
inductive Grown (t : Tk) (out : List Rw) : List Rw → Prop
 | same : Grown t out out
 | app (x : Rw) (h0 : 0 ≤ x.f0) (h1 : x.f0 < 60) (hd : dropB out.getLast? x = false) (hs : x.f3.size ≤ t.f2.size) (ha : x.f4.length ≤ t.f3.length) : Grown t out (out ++ [x])
 | text (pre : List Rw) (y : Rw) (he : out = pre ++ [y]) (hy : y.f1 = 1) (hn : t.f2.data.toList ≠ []) : Grown t out (pre ++ [addT y t.f2])
theorem onceG_len : ∀ (l out : List At), (onceG out l).length ≤ out.length + l.length
 | [], out => by simp [onceG]
 | a :: r, out => by
   simp only [onceG]
   have := onceG_len r (if hasN out a then out else out ++ [a])
   split at this
   ·rename_i h
    rw [if_pos h]
    simp only [List.length_cons]
    omega
   ·rename_i h
    rw [if_neg h]
    simp only [List.length_append, List.length_cons, List.length_nil] at this ⊢
    omega
theorem lay_grown (t : Tk) (op : List ByteArray) (out : List Rw) (x : Rw) (h : (layF op out false x).2 = false) (hd : ∀ d, dropB out.getLast? ⟨op.length, x.f1, x.f2, x.f3, d⟩ = false) (hs : x.f3.size ≤ t.f2.size) (ha : x.f4.length ≤ t.f3.length) : Grown t out (layF op out false x).1 := by
 have hl := lay_small op out x h
 unfold layF at h ⊢
 split
 ·rename_i g
  rw [if_pos g] at h
  cases h
 ·exact .app _ (by simp) (by simp; omega) (hd _) hs ha
theorem drop_el (p : Option Rw) (x : Rw) (h : x.f1 ≠ 1) : dropB p x = false := by simp [dropB, h]
theorem step_grown (op : List ByteArray) (out : List Rw) (t : Tk) (h : (stepF op out t).2.2 = false) : Grown t out (stepF op out t).2.1 := by
 unfold stepF at h ⊢
 by_cases k0 : t.f0 = 0
 ·rw [if_pos k0] at h ⊢
  unfold textF at h ⊢
  by_cases e : t.f2.data.toList = []
  ·rw [if_pos e]; exact .same
  rw [if_neg e] at h ⊢
  cases hj : joinB op out with
  | true =>
    rw [if_pos rfl]
    unfold joinB at hj
    cases hL : out.getLast? with
    | none => rw [hL] at hj; cases hj
    | some y =>
      rw [hL] at hj
      simp only [Bool.and_eq_true, decide_eq_true_eq] at hj
      have hpos : 0 < out.length := by cases out with | nil => cases hL | cons a l => simp
      have hr := last_rd out hpos
      rw [hL] at hr
      rw [← Option.some.inj hr]
      obtain ⟨pre, rfl⟩ := List.getLast?_eq_some_iff.1 hL
      have : (pre ++ [y]).set ((pre ++ [y]).length - 1) (addT y t.f2) = pre ++ [addT y t.f2] := by
       simp
      show Grown t _ ((pre ++ [y]).set ((pre ++ [y]).length - 1) (addT y t.f2))
      rw [this]
      exact .text pre y rfl hj.1 e
  | false =>
    rw [hj] at h
    rw [if_neg (by decide)] at h ⊢
    refine lay_grown t op out ⟨0, 1, ⟨#[]⟩, t.f2, []⟩ h ?_ (Nat.le_refl _) (Nat.zero_le _)
    intro d
    unfold joinB at hj
    simp only [dropB, e, decide_true, decide_false, Bool.true_and, Bool.false_or]
    exact hj
 rw [if_neg k0] at h ⊢
 by_cases k3 : t.f0 = 3
 ·rw [if_pos k3] at h ⊢
  exact lay_grown t op out ⟨0, 2, ⟨#[]⟩, t.f2, []⟩ h (fun d => drop_el _ _ (by simp)) (Nat.le_refl _) (Nat.zero_le _)
 rw [if_neg k3] at h ⊢
 by_cases k1 : t.f0 = 1
 ·rw [if_pos k1] at h ⊢
  unfold startF at h ⊢
  by_cases e1 : t.f1.data.toList = []
  ·rw [if_pos e1]; exact .same
  rw [if_neg e1] at h ⊢
  by_cases e2 : goneL t.f1 = true
  ·rw [if_pos e2]; exact .same
  rw [if_neg e2] at h ⊢
  refine lay_grown t _ out ⟨0, 0, t.f1, ⟨#[]⟩, onceA t.f3⟩ h (fun d => drop_el _ _ (by simp)) (Nat.zero_le _) ?_
  have := onceG_len t.f3 []
  simpa [onceA] using this
 rw [if_neg k1] at h ⊢
 by_cases k2 : t.f0 = 2
 ·rw [if_pos k2] at h ⊢
  unfold endF at h ⊢
  by_cases e1 : t.f1.data.toList = []
  ·rw [if_pos e1]; exact .same
  rw [if_neg e1] at h ⊢
  by_cases e2 : goneL t.f1 = true
  ·rw [if_pos e2]; exact .same
  rw [if_neg e2] at h ⊢
  by_cases e3 : voidL t.f1 = true
  ·rw [if_pos e3]; exact .same
  rw [if_neg e3] at h ⊢
  by_cases e4 : 0 ≤ foundK op [t.f1] (endW t.f1) op.length
  ·rw [if_pos e4]; exact .same
  rw [if_neg e4] at h ⊢
  by_cases e5 : t.f1.data.toList = [112]
  ·rw [if_pos e5] at h ⊢
   exact lay_grown t op out ⟨0, 0, t.f1, ⟨#[]⟩, []⟩ h (fun d => drop_el _ _ (by simp)) (Nat.zero_le _) (Nat.zero_le _)
  ·rw [if_neg e5]; exact .same
 rw [if_neg k2]
 exact .same
structure Built (op : List ByteArray) (out : List Rw) (S : Nat) : Prop where
 len : out.length ≤ 4096
 open_ : op.length ≤ 60
 depth : ∀ x ∈ out, 0 ≤ x.f0 ∧ x.f0 < 60
 normal : njGo none out = true
 size : ∀ x ∈ out, x.f3.size ≤ S
 attrs : ∀ x ∈ out, x.f4.length ≤ 1000000
theorem built_nil : Built [] [] 0 := ⟨by simp, by simp, by simp, rfl, by simp, by simp⟩
theorem ba_nil (a : ByteArray) : a.data.toList = [] ↔ a.size = 0 := by
 show _ ↔ a.data.size = 0
 rw [← Array.length_toList, List.length_eq_zero_iff]
theorem built_step {op : List ByteArray} {out : List Rw} {S : Nat} (hB : Built op out S) (t : Tk) (ht : t.f3.length ≤ 1000000) (h : (stepF op out t).2.2 = false) : Built (stepF op out t).1 (stepF op out t).2.1 (S + t.f2.size) := by
 have hs := step_small op out t hB.len hB.open_ h
 have hg := step_grown op out t h
 generalize stepF op out t = R at *
 obtain ⟨op2, out2, big⟩ := R
 simp only at hs hg h ⊢
 cases hg with
 | same => exact ⟨hs.1, hs.2, hB.depth, hB.normal, fun x hx => by have := hB.size x hx; omega, hB.attrs⟩
 | app x h0 h1 hd hz ha =>
   refine ⟨hs.1, hs.2, ?_, ?_, ?_, ?_⟩
   ·intro y hy
    rcases List.mem_append.1 hy with hy | hy
    ·exact hB.depth y hy
    ·obtain rfl := List.mem_singleton.1 hy
     exact ⟨h0, h1⟩
   ·rw [njGo_app, hB.normal]
    simp [njGo, hd]
   ·intro y hy
    rcases List.mem_append.1 hy with hy | hy
    ·have := hB.size y hy; omega
    ·obtain rfl := List.mem_singleton.1 hy
     omega
   ·intro y hy
    rcases List.mem_append.1 hy with hy | hy
    ·exact hB.attrs y hy
    ·obtain rfl := List.mem_singleton.1 hy
     omega
 | text pre y he hy hn =>
   subst he
   have hy0 := hB.depth y (by simp)
   have hy1 := hB.size y (by simp)
   have hy2 := hB.attrs y (by simp)
   refine ⟨hs.1, hs.2, ?_, ?_, ?_, ?_⟩
   ·intro x hx
    rcases List.mem_append.1 hx with hx | hx
    ·exact hB.depth x (by simp [hx])
    ·obtain rfl := List.mem_singleton.1 hx
     exact hy0
   ·have := hB.normal
    rw [njGo_app] at this ⊢
    simp only [Bool.and_eq_true] at this ⊢
    refine ⟨this.1, ?_⟩
    have h2 := this.2
    simp only [njGo, Bool.and_true, Bool.not_eq_true'] at h2 ⊢
    simp only [dropB, hy, addT, decide_true, Bool.true_and, Bool.or_eq_false_iff, decide_eq_false_iff_not] at h2 ⊢
    refine ⟨?_, h2.2⟩
    rw [ba_nil, ByteArray.size_append]
    rw [Ne, ba_nil] at hn
    omega
   ·intro x hx
    rcases List.mem_append.1 hx with hx | hx
    ·have := hB.size x (by simp [hx]); omega
    ·obtain rfl := List.mem_singleton.1 hx
     show (y.f3 ++ t.f2).size ≤ _
     rw [ByteArray.size_append]
     omega
   ·intro x hx
    rcases List.mem_append.1 hx with hx | hx
    ·exact hB.attrs x (by simp [hx])
    ·obtain rfl := List.mem_singleton.1 hx
     exact hy2
def sumT (l : List Tk) : Nat := (l.map fun t => t.f2.size).sum
theorem treeG_val : ∀ (l : List Tk) (op : List ByteArray) (out : List Rw) (S : Nat), Built op out S → S + sumT l ≤ 9223372036854775807 → (∀ t ∈ l, t.f3.length ≤ 1000000) →
 treeG l op out = some (match treeP l op out with | none => ([], 2) | some o => (o, 0)) ∧ ∀ o, treeP l op out = some o → ∃ op2, Built op2 o (S + sumT l)
 | [], op, out, S, hB, _, _ => by
   simp only [treeG, treeP]
   rw [normal_id out (by have := hB.len; omega) (fun x hx => by have := hB.depth x hx; omega) hB.attrs hB.normal, Option.bind_some]
   refine ⟨rfl, fun o ho => ?_⟩
   obtain rfl := Option.some.inj ho
   exact ⟨op, hB⟩
 | t :: r, op, out, S, hB, hS, ha => by
   have e : sumT (t :: r) = t.f2.size + sumT r := by simp [sumT]
   rw [e] at hS ⊢
   have hok : okT out t = true := by
    unfold okT
    split
    ·unfold szB
     rw [List.all_eq_true]
     intro x hx
     have := hB.size x hx
     exact decide_eq_true (by omega)
    ·split
     ·rw [nmB_all, decide_eq_true (ha t (by simp))]
      rfl
     ·split
      ·exact nmB_all _
      ·rfl
   simp only [treeG, treeP]
   rw [if_pos hok]
   cases hb : (stepF op out t).2.2 with
   | true => exact ⟨rfl, fun o ho => by cases ho⟩
   | false =>
     rw [if_neg (by decide), if_neg (by decide)]
     obtain ⟨h1, h2⟩ := treeG_val r _ _ _ (built_step hB t (ha t (by simp)) hb) (by omega) (fun x hx => ha x (List.mem_cons_of_mem _ hx))
     refine ⟨h1, fun o ho => ?_⟩
     obtain ⟨op2, h3⟩ := h2 o ho
     exact ⟨op2, by rw [← Nat.add_assoc]; exact h3⟩
theorem tree_f (l : List Tk) (hS : sumT l ≤ 9223372036854775807) (ha : ∀ t ∈ l, t.f3.length ≤ 1000000) :
 build_Tree.f l = some (match treeP l [] [] with | none => ([], 2) | some o => (o, 0)) := by
 unfold build_Tree.f
 rw [nmB_all, nmB_all, nmB_all]
 exact (treeG_val l [] [] 0 built_nil (by omega) ha).1
theorem tree_built (l : List Tk) (hS : sumT l ≤ 9223372036854775807) (ha : ∀ t ∈ l, t.f3.length ≤ 1000000) (o : List Rw) (h : treeP l [] [] = some o) : ∃ op, Built op o (sumT l) := by
 obtain ⟨op, hb⟩ := (treeG_val l [] [] 0 built_nil (by omega) ha).2 o h
 exact ⟨op, by rwa [Nat.zero_add] at hb⟩
end Go.Proofs.YtkcmghlhpbepcaaGreatDoorH.W7

/- A world that fits the rows of layer 7: the settled one, the listed variables holding what the program's text lays; and what a row's premises give the walks. -/
namespace Go.Proofs.YtkcmghlhpbepcaaGreatDoor
open Go.ChangeShapes Go.WideShapes Go.ChangeAt Go.RowKit
theorem own : ownKnob Tryz.prog.godebug = none := by kernel_rfl
theorem gER : Tryz.prog.globalNamed "strconv.ErrRange" = some 4 := by kernel_rfl
theorem gERType : (Tryz.prog.globals[4]?).map (·.type) = some 109 := by kernel_rfl
theorem cellsES : Tryz.prog.cellsOf 199 = 1 := by kernel_rfl
theorem cellsStr : Tryz.prog.cellsOf 9 = 1 := by kernel_rfl
theorem starES : "*" ++ "errors.errorString" = "*errors.errorString" := by decide
theorem rowES (u : TypeId) (h : Tryz.prog.typeName? 3 u = some "*errors.errorString") : u = 197 :=
 typeName_ptr_named (nm := "errors.errorString") (by rw [starES]; kernel_rfl) (by kernel_rfl) (by decide) u (by rw [starES]; exact h)
def litCell : DataW Unit → Value
 | .lit (.int k n) => .int k n
 | _ => .bool false
def litCells : DataW Unit → List Value
 | .agg l => l.map litCell
 | d => [litCell d]
def dataCells : DataW Unit → Array Value
 | .agg l => (l.flatMap litCells).toArray
 | _ => #[]
abbrev synS : ByteArray := { data := #[105, 110, 118, 97, 108, 105, 100, 32, 115, 121, 110, 116, 97, 120] }
abbrev rngS : ByteArray := { data := #[118, 97, 108, 117, 101, 32, 111, 117, 116, 32, 111, 102, 32, 114, 97, 110, 103, 101] }
noncomputable def low : Nat := (World.holding Tryz.prog default ⟨#[], #[], []⟩).heap.size
noncomputable def laidWorld (os : Os) : World :=
 let w0 := World.holding Tryz.prog os ⟨#[.cells #[.string synS] 199, .cells #[.string rngS] 199], #[], []⟩
 let put (h : Array Obj) (g : Nat) (cs : Array Value) : Array Obj := h.modify g fun
  | .cells _ t frozen => .cells cs t frozen
  | o => o
 let h1 := put w0.heap 6 (dataCells Rows.laid_math_bits_deBruijn32tab)
 let h2 := put h1 7 (dataCells Rows.laid_math_bits_deBruijn64tab)
 let h3 := put h2 5 (dataCells Rows.laid_internal_strconv_uint64pow10)
 let h4 := put h3 1 (dataCells Rows.laid_unicode_utf8_acceptRanges)
 let h5 := put h4 3 #[.iface 197 (.pointer (some ⟨low, 0, none⟩))]
 let h6 := put h5 4 #[.iface 197 (.pointer (some ⟨low + 1, 0, none⟩))]
 let h7 := put h6 0 (dataCells Rows.laid_unicode_utf8_first)
 { w0 with heap := h7 }
def listed : List (String × DataW Unit) := [("math/bits.deBruijn32tab", Rows.laid_math_bits_deBruijn32tab), ("math/bits.deBruijn64tab", Rows.laid_math_bits_deBruijn64tab), ("internal/strconv.uint64pow10", Rows.laid_internal_strconv_uint64pow10), ("unicode/utf8.acceptRanges", Rows.laid_unicode_utf8_acceptRanges), ("strconv.ErrRange", Rows.laid_strconv_ErrRange), ("strconv.ErrSyntax", Rows.laid_strconv_ErrSyntax), ("unicode/utf8.first", Rows.laid_unicode_utf8_first)]
set_option maxRecDepth 100000 in
theorem laid_met (os : Os) (args : Array Value) : laidMet Tryz.prog listed ((laidWorld os).forCall (fun _ _ => 0) ⟨#[], args, []⟩).memory :=
 (LaidIn.of_run [6, 7, 5, 1, 4, 3, low, low + 1, 0] 8 (by kernel_rfl) (by kernel_rfl) (by kernel_rfl) (by kernel_rfl)).met
theorem std_of {W : World} (hL : laidMetH Tryz.prog listed W) (hsh : W.ShapedOpen Tryz.prog) : Std W := by
 have h0 : laidMet Tryz.prog listed W := hL
 have h3 := h0.tail.tail.tail.tail
 obtain ⟨a1, s1, hv1, -, -, -⟩ := laid_sentinel h3 gER gERType Tryz.underlying109 rowES Tryz.underlying197 Tryz.underlying199 rfl rfl Tryz.underlying9 cellsES cellsStr
 exact ⟨Go.Proofs.cell_of_shapedOpen_int (zero := #[.int .i64 0]) (t := 3) hsh (of_decide_eq_true (by kernel_rfl)) (by kernel_rfl) rfl (by kernel_rfl) (by kernel_rfl) Tryz.underlying3, ⟨_, _, by have h0 := World.var?_cell gER hv1 0; simpa using h0⟩⟩
end Go.Proofs.YtkcmghlhpbepcaaGreatDoor

/- Lemmas and walks: the last part. -/
namespace Go.Proofs.YtkcmghlhpbepcaaGreatDoor
end Go.Proofs.YtkcmghlhpbepcaaGreatDoor
