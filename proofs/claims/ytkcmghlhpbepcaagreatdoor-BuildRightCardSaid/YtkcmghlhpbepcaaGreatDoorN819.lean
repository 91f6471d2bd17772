/- Lemmas and walks, part 19: QW7L, QPW7x49, QPW7x48, QPW7x46, QPW7x47, QW7S, QW7V. -/
import Derived.Test.YtkcmghlhpbepcaaGreatDoorN818
import Derived.Test.YtkcmghlhpbepcaaGreatDoorN814
import Derived.Test.YtkcmghlhpbepcaaGreatDoorN83
import Derived.Test.YtkcmghlhpbepcaaGreatDoorN810
set_option linter.unusedVariables false
set_option linter.unusedSimpArgs false

/- Nesting below others, in lists alone. -/
namespace Go.Proofs.YtkcmghlhpbepcaaGreatDoorH.W7
open Go.RowKit Go.Proofs Go.Proofs.YtkcmghlhpbepcaaGreatDoorH Go.Proofs.YtkcmghlhpbepcaaGreatDoor Go.Proofs.YtkcmghlhpbepcaaGreatDoorW.PrintWords
theorem nmOk (s : ByteArray) : NmOk s := nmB_ok (nmB_all s)
theorem up_to {α : Type} {f : Nat → Option α} (hm : ∀ k, LeO (f k) (f (k + 1))) {n : Nat} {b : α} (h : f n = some b) : ∀ k, n ≤ k → f k = some b := by
 intro k hk
 obtain ⟨d, rfl⟩ : ∃ d, k = n + d := ⟨k - n, by omega⟩
 induction d with
 | zero => exact h
 | succ d ih => exact hm (n + d) _ (ih (by omega))
theorem closesL_f (s : ByteArray) (k : Nat) (hk : 200 ≤ k) : names_Closes.f k s = some (closesL s) := up_to (f := fun k => names_Closes.f k s) (fun k => names_Closes.mono s k) (nmOk s).closes k hk
theorem wallsL_f (s : ByteArray) (k : Nat) (hk : 200 ≤ k) : names_Walls.f k s = some (wallsL s) := up_to (f := fun k => names_Walls.f k s) (fun k => names_Walls.mono s k) (nmOk s).walls k hk
def nestB (s : ByteArray) (l : List ByteArray) : Bool := !(parL s && decide (0 ≤ foundK l [pN] (wallsL pN) l.length)) && decide (foundK l (closesL s) (wallsL s) l.length < 0)
theorem nested_val (s : ByteArray) (l : List ByteArray) (k : Nat) (hk : 200 ≤ k) : build_Nested.f k s l = some (nestB s l) := by
 unfold build_Nested.f build_found.f nestB
 rw [(nmOk s).par, Option.bind_some, closesL_f s k hk, Option.bind_some, wallsL_f s k hk, Option.bind_some, wallsL_f ⟨#[112]⟩ k hk, Option.bind_some, Option.bind_some, Option.bind_some]
 cases parL s with
 | false => simp
 | true =>
   rw [if_pos rfl]
   by_cases h : 0 ≤ foundK l [pN] (wallsL pN) l.length
   ·rw [if_pos h]; simp [h]
   ·rw [if_neg h]; simp [h]
end Go.Proofs.YtkcmghlhpbepcaaGreatDoorH.W7

/- Words and walks used below. -/
namespace Go.Proofs.YtkcmghlhpbepcaaGreatDoorH.W7
open Go.RowKit Go.Proofs.YtkcmghlhpbepcaaGreatDoorW.PrintWords Go.Proofs.YtkcmghlhpbepcaaGreatDoorW.PrintLast Go.Proofs.YtkcmghlhpbepcaaGreatDoorW.PrintMore
attribute [local go_sem] max2_int min2_int max_two min_two max_three min_three max_four min_four   -- for this text's walks alone
def boltingref07_ended.j0 : Nat → List ByteArray → ByteArray → List ByteArray → Bool → Option (List ByteArray × Bool)
 | 0, _, _, _, _ => none
 | k + 1, x0, x1, x6, x15 => if x15 = true then ((boltingref05_Walls.f k (⟨#[116, 114]⟩ : ByteArray)).bind fun t480 => ((boltingref07_Found.f k x0 (([x1] : List ByteArray)) t480).bind fun t486 => (if t486 < 0 then (some (x0, false)) else ((some (([] : List ByteArray) : List ByteArray)).bind fun y487 => (if 0 ≤ t486 then (if t486 ≤ (x0.length : Int) then ((some (x0.take (t486 : Int).toNat : List ByteArray)).bind fun y490 => (if y487.length + y490.length < 8796093022208 then (some ((y487 ++ y490), true)) else (none))) else (none)) else (none)))))) else ((boltingref07_Found.f k x0 (([x1] : List ByteArray)) x6).bind fun t500 => (if t500 < 0 then (some (x0, false)) else ((some (([] : List ByteArray) : List ByteArray)).bind fun y501 => (if 0 ≤ t500 then (if t500 ≤ (x0.length : Int) then ((some (x0.take (t500 : Int).toNat : List ByteArray)).bind fun y504 => (if y501.length + y504.length < 8796093022208 then (some ((y501 ++ y504), true)) else (none))) else (none)) else (none)))))
def boltingref07_ended.f (k : Nat) (l0 : List ByteArray) (a1 : ByteArray) : Option (List ByteArray × Bool) := (boltingref05_Walls.f k (⟨#[112]⟩ : ByteArray)).bind fun t473 => (if a1.toList = ([116, 97, 98, 108, 101] : List UInt8) then (boltingref07_ended.j0 k l0 a1 t473 true) else ((boltingref05_Table.f).bind fun t476 => ((boltingref02_Has.f k t476 a1).bind fun t479 => (boltingref07_ended.j0 k l0 a1 t473 t479))))
end Go.Proofs.YtkcmghlhpbepcaaGreatDoorH.W7

/- Words and walks used below. -/
namespace Go.Proofs.YtkcmghlhpbepcaaGreatDoorH.W7
open Go.RowKit Go.Proofs.YtkcmghlhpbepcaaGreatDoorW.PrintWords Go.Proofs.YtkcmghlhpbepcaaGreatDoorW.PrintLast Go.Proofs.YtkcmghlhpbepcaaGreatDoorW.PrintMore
attribute [local go_sem] max2_int min2_int max_two min_two max_three min_three max_four min_four   -- for this text's walks alone
mutual
def boltingref07_once.l0 : Nat → List (S36) → List (S36) → Int → Option ((List (S36)))
 | 0, _, _, _ => none
 | k + 1, x0, x3, x4 => if x4 < (x0.length : Int) then (boltingref07_once.l1 k x0 x3 x4 true 0) else (some x3)
def boltingref07_once.l1 : Nat → List (S36) → List (S36) → Int → Bool → Int → Option ((List (S36)))
 | 0, _, _, _, _, _ => none
 | k + 1, x0, x3, x4, x5, x6 => if x6 < x4 then (if x5 = true then (if 0 ≤ x6 then (if x6 < (x0.length : Int) then (if 0 ≤ x4 then (if x4 < (x0.length : Int) then (boltingref07_once.l1 k x0 x3 x4 (((rd_T36 x0 x6).f0).toList != ((rd_T36 x0 x4).f0).toList) (wrap64 (x6 + 1))) else (none)) else (none)) else (none)) else (none)) else (boltingref07_once.l1 k x0 x3 x4 false (wrap64 (x6 + 1)))) else (if x5 = true then (if 0 ≤ x4 then (if x4 < (x0.length : Int) then (if x3.length < 4398046511104 then (boltingref07_once.l0 k x0 (x3 ++ [(⟨(rd_T36 x0 x4).f0, (rd_T36 x0 x4).f1⟩ : S36)]) (wrap64 (x4 + 1))) else (none)) else (none)) else (none)) else (boltingref07_once.l0 k x0 x3 (wrap64 (x4 + 1))))
end
def boltingref07_once.f (k : Nat) (l0 : List (S36)) : Option ((List (S36))) := boltingref07_once.l0 k l0 (([] : List (S36))) 0
end Go.Proofs.YtkcmghlhpbepcaaGreatDoorH.W7

/- Words and walks used below. -/
namespace Go.Proofs.YtkcmghlhpbepcaaGreatDoorH.W7
open Go.RowKit Go.Proofs.YtkcmghlhpbepcaaGreatDoorW.PrintWords Go.Proofs.YtkcmghlhpbepcaaGreatDoorW.PrintLast Go.Proofs.YtkcmghlhpbepcaaGreatDoorW.PrintMore
attribute [local go_sem] max2_int min2_int max_two min_two max_three min_three max_four min_four   -- for this text's walks alone
def boltingref05_Gone.f  : Option (List ByteArray) := some (([(⟨#[98, 111, 100, 121]⟩ : ByteArray), (⟨#[102, 114, 97, 109, 101, 115, 101, 116]⟩ : ByteArray), (⟨#[104, 101, 97, 100]⟩ : ByteArray), (⟨#[104, 116, 109, 108]⟩ : ByteArray)] : List ByteArray))
end Go.Proofs.YtkcmghlhpbepcaaGreatDoorH.W7

/- Words and walks used below. -/
namespace Go.Proofs.YtkcmghlhpbepcaaGreatDoorH.W7
open Go.RowKit Go.Proofs.YtkcmghlhpbepcaaGreatDoorW.PrintWords Go.Proofs.YtkcmghlhpbepcaaGreatDoorW.PrintLast Go.Proofs.YtkcmghlhpbepcaaGreatDoorW.PrintMore
attribute [local go_sem] max2_int min2_int max_two min_two max_three min_three max_four min_four   -- for this text's walks alone
def boltingref05_Void.f  : Option (List ByteArray) := some (([(⟨#[97, 114, 101, 97]⟩ : ByteArray), (⟨#[98, 97, 115, 101]⟩ : ByteArray), (⟨#[98, 114]⟩ : ByteArray), (⟨#[99, 111, 108]⟩ : ByteArray), (⟨#[101, 109, 98, 101, 100]⟩ : ByteArray), (⟨#[104, 114]⟩ : ByteArray), (⟨#[105, 109, 103]⟩ : ByteArray), (⟨#[105, 110, 112, 117, 116]⟩ : ByteArray), (⟨#[108, 105, 110, 107]⟩ : ByteArray), (⟨#[109, 101, 116, 97]⟩ : ByteArray), (⟨#[112, 97, 114, 97, 109]⟩ : ByteArray), (⟨#[115, 111, 117, 114, 99, 101]⟩ : ByteArray), (⟨#[116, 114, 97, 99, 107]⟩ : ByteArray), (⟨#[119, 98, 114]⟩ : ByteArray)] : List ByteArray))
end Go.Proofs.YtkcmghlhpbepcaaGreatDoorH.W7

/- The document's tree, in lists alone: it is the builder's. -/
namespace Go.Proofs.YtkcmghlhpbepcaaGreatDoorH.W7
open Go.RowKit Go.Proofs Go.Proofs.YtkcmghlhpbepcaaGreatDoorH Go.Proofs.YtkcmghlhpbepcaaGreatDoor Go.Proofs.YtkcmghlhpbepcaaGreatDoorW.PrintWords
theorem eqN_iff (a b : At) : eqN a b = true ↔ a.f0.toList = b.f0.toList := by unfold eqN; exact beq_iff_eq
theorem rd36_at (l : List At) (i : Nat) (h : i < l.length) : rd_T36 l i = l[i] := by simp [rd_T36, h]
end Go.Proofs.YtkcmghlhpbepcaaGreatDoorH.W7

/- What is true of the builder's rows, in lists alone: each row is right where it stands, and may stand there. -/
namespace Go.Proofs.YtkcmghlhpbepcaaGreatDoorH.W7
open Go.RowKit Go.Proofs Go.Proofs.YtkcmghlhpbepcaaGreatDoorH Go.Proofs.YtkcmghlhpbepcaaGreatDoor Go.Proofs.YtkcmghlhpbepcaaGreatDoorW.PrintWords
def distinct (l : List At) : Prop := ∀ i j : Nat, (hi : i < l.length) → (hj : j < l.length) → l[i].f0.toList = l[j].f0.toList → i = j
structure RowOk (x : Rw) : Prop where
 kind : x.f1 = 0 ∨ x.f1 = 1 ∨ x.f1 = 2
 el : x.f1 = 0 → x.f2.data.toList ≠ [] ∧ x.f3.data.toList = [] ∧ distinct x.f4
 no : x.f1 ≠ 0 → x.f2.data.toList = [] ∧ x.f4 = []
structure Stands (st : List ByteArray) (x : Rw) : Prop where
 lo : 0 ≤ x.f0
 hi : x.f0 ≤ st.length
 ok : RowOk x
 void : ∀ n, (st.take x.f0.toNat).getLast? = some n → voidL n = false
 nest : x.f1 = 0 → nestB x.f2 (st.take x.f0.toNat) = true ∧ goneL x.f2 = false
def after (st : List ByteArray) (x : Rw) : List ByteArray := if x.f1 = 0 then st.take x.f0.toNat ++ [x.f2] else st.take x.f0.toNat
inductive Laws : List Rw → List ByteArray → Prop
 | nil : Laws [] []
 | snoc (out : List Rw) (st : List ByteArray) (x : Rw) (h : Laws out st) (hx : Stands st x) : Laws (out ++ [x]) (after st x)
def Chain (op : List ByteArray) : Prop := ∀ i : Nat, (h : i < op.length) → nestB op[i] (op.take i) = true ∧ voidL op[i] = false
theorem Chain.take {op : List ByteArray} (h : Chain op) (n : Nat) : Chain (op.take n) := by
 intro i hi
 rw [List.length_take] at hi
 have := h i (by omega)
 rw [List.getElem_take, List.take_take, Nat.min_eq_left (by omega)]
 exact this
theorem Chain.push {op : List ByteArray} (h : Chain op) {n : ByteArray} (hn : nestB n op = true) (hv : voidL n = false) : Chain (op ++ [n]) := by
 intro i hi
 rw [List.length_append] at hi
 simp only [List.length_cons, List.length_nil] at hi
 rcases Nat.lt_or_ge i op.length with e | e
 ·rw [List.getElem_append_left e, List.take_append_of_le_length (by omega)]
  exact h i e
 ·obtain rfl : i = op.length := by omega
  rw [List.getElem_append_right (Nat.le_refl _), List.take_append_of_le_length (Nat.le_refl _), List.take_length]
  simpa using ⟨hn, hv⟩
structure Fits (op : List ByteArray) (out : List Rw) (st : List ByteArray) : Prop where
 laws : Laws out st
 pre : op = st.take op.length
 chain : Chain op
theorem Fits.len {op : List ByteArray} {out : List Rw} {st : List ByteArray} (h : Fits op out st) : op.length ≤ st.length := by
 have := congrArg List.length h.pre
 rw [List.length_take] at this
 omega
theorem Fits.take {op : List ByteArray} {out : List Rw} {st : List ByteArray} (h : Fits op out st) (n : Nat) : Fits (op.take n) out st := by
 refine ⟨h.laws, ?_, h.chain.take n⟩
 have hl := h.len
 rw [List.length_take]
 conv => lhs; rw [h.pre]
 rw [List.take_take]
theorem Fits.row {op : List ByteArray} {out : List Rw} {st : List ByteArray} (h : Fits op out st) (x : Rw) (hd : x.f0 = op.length) (hk : RowOk x) (hn : x.f1 = 0 → nestB x.f2 op = true ∧ goneL x.f2 = false) : Stands st x := by
 have hl := h.len
 have ht : st.take x.f0.toNat = op := by rw [hd, Int.toNat_natCast]; exact h.pre.symm
 refine ⟨by omega, by omega, hk, fun n hn2 => ?_, fun h0 => by rw [ht]; exact hn h0⟩
 rw [ht] at hn2
 obtain ⟨ys, rfl⟩ := List.getLast?_eq_some_iff.1 hn2
 have := (h.chain ys.length (by simp)).2
 simpa using this
theorem Fits.lay {op : List ByteArray} {out : List Rw} {st : List ByteArray} (h : Fits op out st) (x : Rw) (hd : x.f0 = op.length) (hk : RowOk x) (hn : x.f1 = 0 → nestB x.f2 op = true ∧ goneL x.f2 = false) : Fits op (out ++ [x]) (after st x) ∧ (x.f1 = 0 → voidL x.f2 = false → Fits (op ++ [x.f2]) (out ++ [x]) (after st x)) := by
 have hs := h.row x hd hk hn
 have ht : st.take x.f0.toNat = op := by rw [hd, Int.toNat_natCast]; exact h.pre.symm
 refine ⟨⟨.snoc out st x h.laws hs, ?_, h.chain⟩, fun h0 hv => ⟨.snoc out st x h.laws hs, ?_, h.chain.push (hn h0).1 hv⟩⟩
 ·unfold after
  rw [ht]
  split
  ·rw [List.take_append_of_le_length (Nat.le_refl _), List.take_length]
  ·rw [List.take_length]
 ·unfold after
  rw [if_pos h0, ht, List.take_length]
theorem found_at (xs a b : List ByteArray) : ∀ k, k ≤ xs.length → 0 ≤ foundK xs a b k → ∃ j : Nat, foundK xs a b k = j ∧ j < k ∧ Lib.containsS a (xs.getD j ⟨#[]⟩) = true ∧ ∀ i, j < i → i < k → Lib.containsS a (xs.getD i ⟨#[]⟩) = false ∧ Lib.containsS b (xs.getD i ⟨#[]⟩) = false
 | 0, _, h => by simp [foundK] at h
 | k + 1, hk, h => by
   simp only [foundK] at h ⊢
   cases h1 : Lib.containsS a (xs.getD k ⟨#[]⟩) with
   | true =>
     rw [if_pos rfl]
     exact ⟨k, rfl, by omega, h1, fun i h2 h3 => by omega⟩
   | false =>
     rw [h1, if_neg (by decide)] at h
     rw [if_neg (by decide)]
     cases h2 : Lib.containsS b (xs.getD k ⟨#[]⟩) with
     | true => rw [h2, if_pos rfl] at h; omega
     | false =>
       rw [h2, if_neg (by decide)] at h
       rw [if_neg (by decide)]
       obtain ⟨j, e, hj, hc, hf⟩ := found_at xs a b k (by omega) h
       refine ⟨j, e, by omega, hc, fun i h3 h4 => ?_⟩
       by_cases e2 : i = k
       ·subst e2; exact ⟨h1, h2⟩
       ·exact hf i h3 (by omega)
theorem found_of (xs a b : List ByteArray) : ∀ k j, j < k → Lib.containsS a (xs.getD j ⟨#[]⟩) = true → (∀ i, j < i → i < k → Lib.containsS b (xs.getD i ⟨#[]⟩) = false) → 0 ≤ foundK xs a b k
 | 0, j, h, _, _ => by omega
 | k + 1, j, h, hc, hf => by
   simp only [foundK]
   cases h1 : Lib.containsS a (xs.getD k ⟨#[]⟩) with
   | true => rw [if_pos rfl]; omega
   | false =>
     rw [if_neg (by decide)]
     have hjk : j < k := by
      rcases Nat.lt_or_ge j k with e | e
      ·exact e
      ·have : j = k := by omega
       subst this
       rw [h1] at hc
       cases hc
     rw [hf k hjk (by omega), if_neg (by decide)]
     exact found_of xs a b k j hjk hc (fun i h2 h3 => hf i h2 (by omega))
theorem found_take (xs a b : List ByteArray) (n : Nat) : ∀ k, k ≤ n → foundK (xs.take n) a b k = foundK xs a b k
 | 0, _ => rfl
 | k + 1, h => by
   have e : (xs.take n).getD k ⟨#[]⟩ = xs.getD k ⟨#[]⟩ := by simp [List.getD_eq_getElem?_getD, List.getElem?_take, show k < n by omega]
   simp only [foundK]
   rw [e, found_take xs a b n k (by omega)]
theorem close_pre (a b : List ByteArray) : ∀ (n : Nat) (op : List ByteArray), op.length < n → ∃ m, m ≤ op.length ∧ closeF a b n op = op.take m ∧ foundK (closeF a b n op) a b (closeF a b n op).length < 0
 | 0, op, h => by omega
 | n + 1, op, h => by
   simp only [closeF]
   have hle := foundK_le op a b op.length
   by_cases hneg : foundK op a b op.length < 0
   ·rw [if_pos hneg]
    exact ⟨op.length, Nat.le_refl _, (List.take_length).symm, hneg⟩
   ·rw [if_neg hneg]
    generalize hj : foundK op a b op.length = j at *
    obtain ⟨m, hm, e, hf⟩ := close_pre a b n (op.take j.toNat) (by rw [List.length_take]; omega)
    rw [List.length_take] at hm
    refine ⟨m, by omega, ?_, hf⟩
    rw [e, List.take_take, Nat.min_eq_left (by omega)]
theorem close_keeps (a b : List ByteArray) (hW : ∀ w, Lib.containsS b w = true → Lib.containsS (wallsL pN) w = true ∨ (closesL w = [pN] ∧ wallsL w = wallsL pN)) (hp : Lib.containsS b pN = false) : ∀ (n : Nat) (op : List ByteArray), Chain op → foundK op a b op.length < 0 → foundK (closeF [pN] (wallsL pN) n op) a b (closeF [pN] (wallsL pN) n op).length < 0
 | 0, op, _, h => h
 | n + 1, op, hc, h => by
   simp only [closeF]
   by_cases hneg : foundK op [pN] (wallsL pN) op.length < 0
   ·rw [if_pos hneg]; exact h
   ·rw [if_neg hneg]
    obtain ⟨j, e, hj, hpj, hf⟩ := found_at op [pN] (wallsL pN) op.length (Nat.le_refl _) (by omega)
    rw [e, Int.toNat_natCast]
    refine close_keeps a b hW hp n (op.take j) (hc.take j) ?_
    have hl : (op.take j).length = j := by rw [List.length_take]; omega
    rw [hl, found_take op a b j j (Nat.le_refl _)]
    rcases Int.lt_or_le (foundK op a b j) 0 with h0 | h0
    ·exact h0
    ·exfalso
     obtain ⟨q, eq, hq, hqa, hqf⟩ := found_at op a b j (by omega) h0
     have hpn : op.getD j ⟨#[]⟩ = pN := by
      rw [Lib.containsS_iff] at hpj
      simpa using hpj
     have hwall : ∀ i, q < i → i < op.length → Lib.containsS b (op.getD i ⟨#[]⟩) = false := by
      intro i h1 h2
      rcases Nat.lt_or_ge i j with h3 | h3
      ·exact (hqf i h1 h3).2
      ·by_cases h4 : i = j
       ·subst h4; rw [hpn]; exact hp
       ·cases hb : Lib.containsS b (op.getD i ⟨#[]⟩) with
        | false => rfl
        | true =>
          exfalso
          have hno := (hf i (by omega) h2).2
          rcases hW _ hb with h5 | ⟨h5, h6⟩
          ·rw [h5] at hno; cases hno
          ·have hch := (hc i h2).1
           have eg : op.getD i ⟨#[]⟩ = op[i] := by simp [List.getD_eq_getElem?_getD, List.getElem?_eq_getElem h2]
           rw [eg] at h5 h6
           unfold nestB at hch
           rw [h5, h6] at hch
           simp only [Bool.and_eq_true, decide_eq_true_eq] at hch
           have hlt : (op.take i).length = i := by rw [List.length_take]; omega
           have := found_of (op.take i) [pN] (wallsL pN) i j (by omega) (by
            rw [show (op.take i).getD j ⟨#[]⟩ = op.getD j ⟨#[]⟩ from by simp [List.getD_eq_getElem?_getD, List.getElem?_take, show j < i by omega]]
            exact hpj) (fun t h7 h8 => by
            rw [show (op.take i).getD t ⟨#[]⟩ = op.getD t ⟨#[]⟩ from by simp [List.getD_eq_getElem?_getD, List.getElem?_take, show t < i by omega]]
            exact (hf t h7 (by omega)).2)
           have h9 := hch.2
           rw [hlt] at h9
           omega
     have := found_of op a b op.length q (by omega) hqa hwall
     omega
theorem par_names (n : ByteArray) (h : parL n = true) : n = ⟨#[108, 105]⟩ ∨ n = ⟨#[100, 100]⟩ ∨ n = ⟨#[100, 116]⟩ := by
 have e : n.data.toList = [108, 105] ∨ n.data.toList = [100, 100] ∨ n.data.toList = [100, 116] := by
  unfold parL build_paragraph.f at h
  by_cases h1 : n.toList = [108, 105]
  ·rw [Lib.toList_data] at h1; exact Or.inl h1
  rw [if_neg h1] at h
  by_cases h2 : n.toList = [100, 100]
  ·rw [Lib.toList_data] at h2; exact Or.inr (Or.inl h2)
  rw [if_neg h2] at h
  rw [Lib.toList_data] at h
  exact Or.inr (Or.inr (by simpa using h))
 have hn : ∀ x : List UInt8, n.data.toList = x → n = ⟨x.toArray⟩ := fun x hx => by
  obtain ⟨⟨y⟩⟩ := n
  simp only at hx
  rw [hx]
 rcases e with e | e | e
 ·exact .inl (hn _ e)
 ·exact .inr (.inl (hn _ e))
 ·exact .inr (.inr (hn _ e))
def isIn (L : List ByteArray) (w : ByteArray) : Bool := L.any fun x => x.data.toList == w.data.toList
theorem walls_par (n : ByteArray) (h : parL n = true) : (∀ w, Lib.containsS (wallsL n) w = true → Lib.containsS (wallsL pN) w = true ∨ (closesL w = [pN] ∧ wallsL w = wallsL pN)) ∧ Lib.containsS (wallsL n) pN = false := by
 have key : ∀ L : List ByteArray, (L.all fun w => Lib.containsS (wallsL pN) w || (decide (closesL w = [pN]) && decide (wallsL w = wallsL pN))) = true → ∀ w, Lib.containsS L w = true → Lib.containsS (wallsL pN) w = true ∨ (closesL w = [pN] ∧ wallsL w = wallsL pN) := by
  intro L hL w hw
  rw [Lib.containsS_iff] at hw
  have := List.all_eq_true.1 hL w hw
  simp only [Bool.or_eq_true, Bool.and_eq_true, decide_eq_true_eq] at this
  exact this
 rcases par_names n h with rfl | rfl | rfl
 ·exact ⟨key _ (by kernel_rfl), by kernel_rfl⟩
 ·exact ⟨key _ (by kernel_rfl), by kernel_rfl⟩
 ·exact ⟨key _ (by kernel_rfl), by kernel_rfl⟩
theorem start_pre (op : List ByteArray) (nm : ByteArray) (hc : Chain op) : ∃ m, m ≤ op.length ∧ startOp op nm = op.take m ∧ nestB nm (startOp op nm) = true := by
 obtain ⟨m, hm, e, hf⟩ := close_pre (closesL nm) (wallsL nm) (op.length + 1) op (Nat.lt_succ_self _)
 unfold startOp closeA nestB
 cases hp : parL nm with
 | false =>
   rw [if_neg (by decide)]
   exact ⟨m, hm, e, by simp [hf]⟩
 | true =>
   rw [if_pos rfl]
   obtain ⟨hW, hpw⟩ := walls_par nm hp
   have hk := close_keeps (closesL nm) (wallsL nm) hW hpw ((closeF (closesL nm) (wallsL nm) (op.length + 1) op).length + 1) (closeF (closesL nm) (wallsL nm) (op.length + 1) op) (by rw [e]; exact hc.take m) hf
   obtain ⟨m2, hm2, e2, hf2⟩ := close_pre [pN] (wallsL pN) ((closeF (closesL nm) (wallsL nm) (op.length + 1) op).length + 1) (closeF (closesL nm) (wallsL nm) (op.length + 1) op) (Nat.lt_succ_self _)
   generalize closeF [pN] (wallsL pN) ((closeF (closesL nm) (wallsL nm) (op.length + 1) op).length + 1) (closeF (closesL nm) (wallsL nm) (op.length + 1) op) = op2 at *
   rw [e] at e2 hm2
   rw [List.length_take] at hm2
   refine ⟨m2, by omega, by rw [e2, List.take_take, Nat.min_eq_left (by omega)], ?_⟩
   have h1 : ¬ 0 ≤ foundK op2 [pN] (wallsL pN) op2.length := by omega
   simp [h1, hk]
theorem distinct_nil : distinct [] := fun i j hi => by simp at hi
theorem once_distinct : ∀ (l out : List At), distinct out → distinct (onceG out l)
 | [], out, h => h
 | a :: r, out, h => by
   simp only [onceG]
   refine once_distinct r _ ?_
   cases hh : hasN out a with
   | true => rw [if_pos rfl]; exact h
   | false =>
     rw [if_neg (by decide)]
     have hno : ∀ i : Nat, (hi : i < out.length) → out[i].f0.toList ≠ a.f0.toList := by
      intro i hi e
      have : hasN out a = true := by
       unfold hasN
       rw [List.any_eq_true]
       exact ⟨out[i], List.getElem_mem hi, (eqN_iff _ _).2 e.symm⟩
      rw [hh] at this
      cases this
     intro i j hi hj e
     rw [List.length_append] at hi hj
     simp only [List.length_cons, List.length_nil] at hi hj
     rcases Nat.lt_or_ge i out.length with h1 | h1 <;> rcases Nat.lt_or_ge j out.length with h2 | h2
     ·rw [List.getElem_append_left h1, List.getElem_append_left h2] at e
      exact h i j h1 h2 e
     ·rw [List.getElem_append_left h1, List.getElem_append_right h2] at e
      simp only [show j - out.length = 0 from by omega, List.getElem_cons_zero] at e
      exact absurd e (hno i h1)
     ·rw [List.getElem_append_right h1, List.getElem_append_left h2] at e
      simp only [show i - out.length = 0 from by omega, List.getElem_cons_zero] at e
      exact absurd e.symm (hno j h2)
     ·omega
theorem end_walls_p : endW pN = wallsL pN := by kernel_rfl
theorem nest_p (op : List ByteArray) (h : ¬ 0 ≤ foundK op [pN] (endW pN) op.length) : nestB pN op = true ∧ goneL pN = false := by
 have h1 : parL pN = false := by kernel_rfl
 have h2 : closesL pN = [pN] := by kernel_rfl
 have h3 : goneL pN = false := by kernel_rfl
 refine ⟨?_, h3⟩
 unfold nestB
 rw [h1, h2, ← end_walls_p]
 simp
 omega
theorem fits_step {op : List ByteArray} {out st : List _} (h : Fits op out st) (t : Tk) (hb : (stepF op out t).2.2 = false) : ∃ st2, Fits (stepF op out t).1 (stepF op out t).2.1 st2 := by
 have layer : ∀ (op2 : List ByteArray) (x : Rw), (layF op2 out false x).2 = false → (layF op2 out false x).1 = out ++ [⟨(op2.length : Int), x.f1, x.f2, x.f3, x.f4⟩] := by
  intro op2 x hl
  unfold layF at hl ⊢
  split
  ·rename_i g
   rw [if_pos g] at hl
   cases hl
  ·rfl
 unfold stepF at hb ⊢
 by_cases k0 : t.f0 = 0
 ·rw [if_pos k0] at hb ⊢
  unfold Go.Proofs.YtkcmghlhpbepcaaGreatDoorH.W7.textF at hb ⊢
  by_cases e : t.f2.data.toList = []
  ·rw [if_pos e]; exact ⟨st, h⟩
  rw [if_neg e] at hb ⊢
  cases hj : joinB op out with
  | true =>
    rw [if_pos rfl]
    unfold joinB at hj
    cases hL : out.getLast? with
    | none => rw [hL] at hj; cases hj
    | some y =>
      rw [hL] at hj
      simp only [Bool.and_eq_true, decide_eq_true_eq] at hj
      have hpos : 0 < out.length := by cases out with | nil => cases hL | cons a l => simp
      have hr := last_rd out hpos
      rw [hL] at hr
      rw [← Option.some.inj hr]
      obtain ⟨pre, rfl⟩ := List.getLast?_eq_some_iff.1 hL
      have e2 : (pre ++ [y]).set ((pre ++ [y]).length - 1) (addT y t.f2) = pre ++ [addT y t.f2] := by simp
      show ∃ st2, Fits op ((pre ++ [y]).set ((pre ++ [y]).length - 1) (addT y t.f2)) st2
      rw [e2]
      refine ⟨st, ?_, h.pre, h.chain⟩
      generalize hout : pre ++ [y] = o at *
      cases h.laws with
      | nil => simp at hout
      | snoc o2 st2 x hl hs =>
        obtain ⟨rfl, hyx⟩ := List.append_inj' hout rfl
        obtain rfl : y = x := by simpa using hyx
        have ha : after st2 y = after st2 (addT y t.f2) := rfl
        rw [ha]
        refine .snoc pre st2 _ hl ⟨hs.lo, hs.hi, ⟨hs.ok.kind, fun h0 => ?_, hs.ok.no⟩, hs.void, hs.nest⟩
        have : y.f1 = 0 := h0
        omega
  | false =>
    rw [hj, if_neg (by decide)] at hb
    rw [if_neg (by decide)]
    show ∃ st2, Fits op (layF op out false ⟨0, 1, ⟨#[]⟩, t.f2, []⟩).1 st2
    rw [layer op _ hb]
    exact ⟨_, (h.lay ⟨(op.length : Int), 1, ⟨#[]⟩, t.f2, []⟩ rfl ⟨by simp, by simp, by simp⟩ (by simp)).1⟩
 rw [if_neg k0] at hb ⊢
 by_cases k3 : t.f0 = 3
 ·rw [if_pos k3] at hb ⊢
  show ∃ st2, Fits op (layF op out false ⟨0, 2, ⟨#[]⟩, t.f2, []⟩).1 st2
  rw [layer op _ hb]
  exact ⟨_, (h.lay ⟨(op.length : Int), 2, ⟨#[]⟩, t.f2, []⟩ rfl ⟨by simp, by simp, by simp⟩ (by simp)).1⟩
 rw [if_neg k3] at hb ⊢
 by_cases k1 : t.f0 = 1
 ·rw [if_pos k1] at hb ⊢
  unfold startF at hb ⊢
  by_cases e1 : t.f1.data.toList = []
  ·rw [if_pos e1]; exact ⟨st, h⟩
  rw [if_neg e1] at hb ⊢
  cases e2 : goneL t.f1 with
  | true => rw [if_pos rfl]; exact ⟨st, h⟩
  | false =>
    rw [e2, if_neg (by decide)] at hb
    rw [if_neg (by decide)]
    obtain ⟨m, hm, em, hn⟩ := start_pre op t.f1 h.chain
    have h2 : Fits (startOp op t.f1) out st := by rw [em]; exact h.take m
    have h3 := h2.lay ⟨((startOp op t.f1).length : Int), 0, t.f1, ⟨#[]⟩, onceA t.f3⟩ rfl ⟨by simp, fun _ => ⟨e1, rfl, once_distinct t.f3 [] distinct_nil⟩, by simp⟩ (fun _ => ⟨hn, e2⟩)
    show ∃ st2, Fits (if voidL t.f1 then startOp op t.f1 else startOp op t.f1 ++ [t.f1]) (layF (startOp op t.f1) out false ⟨0, 0, t.f1, ⟨#[]⟩, onceA t.f3⟩).1 st2
    rw [layer _ _ hb]
    cases hv : voidL t.f1 with
    | true => exact ⟨_, h3.1⟩
    | false => exact ⟨_, h3.2 rfl hv⟩
 rw [if_neg k1] at hb ⊢
 by_cases k2 : t.f0 = 2
 ·rw [if_pos k2] at hb ⊢
  unfold Go.Proofs.YtkcmghlhpbepcaaGreatDoorH.W7.endF at hb ⊢
  by_cases e1 : t.f1.data.toList = []
  ·rw [if_pos e1]; exact ⟨st, h⟩
  rw [if_neg e1] at hb ⊢
  by_cases e2 : goneL t.f1 = true
  ·rw [if_pos e2]; exact ⟨st, h⟩
  rw [if_neg e2] at hb ⊢
  by_cases e3 : voidL t.f1 = true
  ·rw [if_pos e3]; exact ⟨st, h⟩
  rw [if_neg e3] at hb ⊢
  by_cases e4 : 0 ≤ foundK op [t.f1] (endW t.f1) op.length
  ·rw [if_pos e4]; exact ⟨st, h.take _⟩
  rw [if_neg e4] at hb ⊢
  by_cases e5 : t.f1.data.toList = [112]
  ·rw [if_pos e5] at hb ⊢
   have hnm : t.f1 = pN := by
    obtain ⟨f0, ⟨⟨x⟩⟩, f2, f3, f4⟩ := t
    simp only at e5
    simp only [e5]
   rw [hnm] at e4 hb ⊢
   show ∃ st2, Fits op (layF op out false ⟨0, 0, pN, ⟨#[]⟩, []⟩).1 st2
   rw [layer op _ hb]
   exact ⟨_, (h.lay ⟨(op.length : Int), 0, pN, ⟨#[]⟩, []⟩ rfl ⟨by simp, fun _ => ⟨by simp, rfl, distinct_nil⟩, by simp⟩ (fun _ => nest_p op e4)).1⟩
  ·rw [if_neg e5]; exact ⟨st, h⟩
 rw [if_neg k2]
 exact ⟨st, h⟩
theorem fits_tree : ∀ (l : List Tk) (op : List ByteArray) (out : List Rw) (st : List ByteArray), Fits op out st → ∀ o, treeP l op out = some o → ∃ st2, Laws o st2
 | [], op, out, st, h, o, ho => by
   obtain rfl := Option.some.inj ho
   exact ⟨st, h.laws⟩
 | t :: r, op, out, st, h, o, ho => by
   simp only [treeP] at ho
   cases hb : (stepF op out t).2.2 with
   | true => rw [hb, if_pos rfl] at ho; cases ho
   | false =>
     rw [hb, if_neg (by decide)] at ho
     obtain ⟨st2, h2⟩ := fits_step h t hb
     exact fits_tree r _ _ st2 h2 o ho
theorem tree_laws (l : List Tk) (o : List Rw) (h : treeP l [] [] = some o) : ∃ st, Laws o st := fits_tree l [] [] [] ⟨.nil, rfl, fun i hi => by simp at hi⟩ o h
end Go.Proofs.YtkcmghlhpbepcaaGreatDoorH.W7
