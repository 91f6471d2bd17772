/- Lemmas and walks, part 32: QW8G, QE8J, QW8D, QW8P, QKOpn, QKOp8, QPW8x37. -/
import Derived.Test.YtdnbaliibiginaaDoorY19
import Derived.Test.YtdnbaliibiginaaDoorY22
import Derived.Test.YtdnbaliibiginaaDoorY23
import Derived.Test.YtdnbaliibiginaaDoorY24
import Derived.Test.YtdnbaliibiginaaDoorY26
import Derived.Test.YtdnbaliibiginaaDoorY31
import Derived.Deep.RegionHeld3
import Derived.Test.YtdnbaliibiginaaDoorY12
import Derived.Test.YtdnbaliibiginaaDoorY8
import Derived.Test.YtdnbaliibiginaaDoorY11
import Derived.Test.YtdnbaliibiginaaDoorRows
import Derived.Test.YtdnbaliibiginaaDoorY1
import Derived.WalkKit
import Derived.ProofKit
import Derived.OpenShut
import Derived.ChangeArms
import Derived.Test.YtdnbaliibiginaaDoorY4
import Derived.Test.YtdnbaliibiginaaDoorY10
set_option linter.unusedVariables false
set_option linter.unusedSimpArgs false

/- Legal rows, in numbers and lists alone, part 1: rows by themselves, what an element has, and texts side by side. -/
namespace Go.Proofs.YtdnbaliibiginaaDoorH.W8
open Go.RowKit Go.Proofs Go.Proofs.YtdnbaliibiginaaDoorH Go.Proofs.YtdnbaliibiginaaDoor Go.Proofs.YtdnbaliibiginaaDoorW.PrintWords
noncomputable def evB (f : Nat → Option Bool) : Bool := open Classical in if h : ∃ b, ∃ n, ∀ k, n ≤ k → f k = some b then h.choose else false
def cleanB (s : ByteArray) : Bool := Lib.validD s.data.toList && !Lib.containsAny s.data.toList nulcr.data.toList
def commB (s : ByteArray) : Bool := cleanB s && !Lib.contains s.data.toList [45, 45, 62] && !Lib.contains s.data.toList [45, 45, 33, 62] && !Lib.hasPrefix s.data.toList [62] && !Lib.hasPrefix s.data.toList [45, 62]
structure SzR (M : Nat) (x : Rw) : Prop where
 name : x.f2.size ≤ M
 data : x.f3.size ≤ M
 atts : ∀ a ∈ x.f4, a.f0.size ≤ M ∧ a.f1.size ≤ M
 few : x.f4.length ≤ 6
noncomputable def elemB (x : Rw) (ar : List ByteArray) : Bool := evB fun k => write_element.f k x.f0 x.f1 x.f2 x.f3 x.f4 ar
noncomputable def rowB (x : Rw) : Bool := evB fun k => rows_row.f k x.f0 x.f1 x.f2 x.f3 x.f4
noncomputable def rightGo : List Rw → Int → Bool
 | [], _ => true
 | x :: r, dp => if x.f0 < 0 ∨ dp < x.f0 then false else if rowB x then rightGo r (if x.f1 = 0 then x.f0 + 1 else x.f0) else false
def dropB (p : Option Rw) (x : Rw) : Bool := decide (x.f1 = 1) && (decide (x.f3.data.toList = []) || match p with | none => false | some y => decide (y.f1 = 1) && decide (y.f0 = x.f0))
def njGo : Option Rw → List Rw → Bool
 | _, [] => true
 | p, x :: r => !dropB p x && njGo (some x) r
def lastS (outs : List Rw) : Nat := match outs.getLast? with | none => 0 | some y => y.f3.size
def sumS (xs : List Rw) : Nat := (xs.map fun x => x.f3.size).sum
def withB (xs : List Rw) (i : Nat) : Bool := (write_within.f xs i).getD false
noncomputable def legGo (xs : List Rw) : List Rw → Nat → List ByteArray → Bool
 | [], _, _ => true
 | x :: r, i, ar =>
  if x.f1 = 1 then cleanB x.f3 && legGo xs r (i + 1) (ar.take x.f0.toNat)
  else if x.f1 = 2 then commB x.f3 && legGo xs r (i + 1) (ar.take x.f0.toNat)
  else elemB x (ar.take x.f0.toNat) && withB xs i && legGo xs r (i + 1) (ar.take x.f0.toNat ++ [x.f2])
noncomputable def legalB (xs : List Rw) : Bool := !(decide (4096 < xs.length) || xs.any deepB) && rightGo xs 0 && njGo none xs && legGo xs xs 0 []
end Go.Proofs.YtdnbaliibiginaaDoorH.W8

/- Contract of the document's Within: what a node has, written. Nothing that lay in memory turns. -/
namespace Go.Proofs.YtdnbaliibiginaaDoorH.W8
open Go.RowKit Go.Proofs Go.Proofs.YtdnbaliibiginaaDoor Go.Proofs.YtdnbaliibiginaaDoorW.PrintWords Go.Proofs.YtdnbaliibiginaaDoorW.PrintLast Go.Proofs.YtdnbaliibiginaaDoorW.PrintMore
def loopB (f : Int → Option ByteArray) : ByteArray → List Int → Option ByteArray
 | acc, [] => some acc
 | acc, j :: js => (f j).bind fun t => if acc.size + t.size ≤ 9223372036854775807 then loopB f (acc ++ t) js else none
def nodeB (xs : List Rw) (raw : Bool) (again : Int → Option ByteArray) (j : Int) : Option ByteArray :=
 if 0 ≤ j ∧ j < (xs.length : Int) then
  if (rd_T35 xs j).f1 = 1 then (if raw then some (rd_T35 xs j).f3 else boltingref03_Write.f (rd_T35 xs j).f3 false)
  else if (rd_T35 xs j).f1 = 2 then (if (rd_T35 xs j).f3.size ≤ 1000000000000 then some (((⟨#[60, 33, 45, 45]⟩ : ByteArray) ++ (rd_T35 xs j).f3) ++ (⟨#[45, 45, 62]⟩ : ByteArray)) else none)
  else (boltingref05_Void.f).bind fun vs => (boltingref02_Has.f 100 vs (rd_T35 xs j).f2).bind fun v =>
   (boltingref08_tag.f ((rd_T35 xs j).f4.length + 1) (rd_T35 xs j).f0 (rd_T35 xs j).f1 (rd_T35 xs j).f2 (rd_T35 xs j).f3 (rd_T35 xs j).f4).bind fun t =>
    if v then some t else (again j).bind fun u => if t.size + u.size + (rd_T35 xs j).f2.size ≤ 1000000000000 then some ((((t ++ u) ++ (⟨#[60, 47]⟩ : ByteArray)) ++ (rd_T35 xs j).f2) ++ (⟨#[62]⟩ : ByteArray)) else none
 else none
def rawW (xs : List Rw) (i : Int) : Option Bool := if 0 ≤ i then (if i < (xs.length : Int) then (boltingref05_Raw.f).bind fun rs => boltingref02_Has.f 100 rs (rd_T35 xs i).f2 else none) else if i = -1 then some false else none
def withN (xs : List Rw) : Nat → Int → Option ByteArray
 | 0, _ => none
 | d + 1, i => (boltingref04_Kids.f xs i).bind fun ks => (rawW xs i).bind fun raw => loopB (nodeB xs raw (withN xs d)) ⟨#[]⟩ ks
def boltingref08_Within.f (l0 : List Rw) (a1 : Int) : Option ByteArray := withN l0 (l0.length + 1) a1
def WithC (A : Option Addr) (c : Nat) (xs : List Rw) (w0 : World) (f : Int → Option ByteArray) : Prop := ∀ (j : Int) (r : ByteArray) (W : World), Below w0.heap.size w0 W → f j = some r →
 Calls Tryd.prog 11 #[.slice A xs.length c, .int .i64 j] W fun e w' => e = .returned (.string r) ∧ Below W.heap.size W w'
def wi_T3 : Bool × List (List Nat × List Nat) := (true, [([], []), ([0], [0]), ([1], [1]), ([2, 2], [2]), ([2], [2]), ([2], [2]), ([4, 5, 2], [2, 4, 5]), ([6, 2], [2, 6]), ([7, 2], [2, 7]), ([3, 8, 3, 2], [2, 3, 8]), ([2, 9], [2, 9]), ([10, 9, 0, 1, 2, 3, 4, 5, 6, 7, 8, 9, 10], [10])])
def wi_B3 : List Nat := [0, 1, 3, 7, 7, 7, 55, 119, 247, 511, 1023, 2047]
end Go.Proofs.YtdnbaliibiginaaDoorH.W8

/- What is written of right rows, by both, is one text: the document's side. Plain. -/
namespace Go.Proofs.YtdnbaliibiginaaDoorH.W8
open Go.RowKit Go.Proofs Go.Proofs.YtdnbaliibiginaaDoorH Go.Proofs.YtdnbaliibiginaaDoor Go.Proofs.YtdnbaliibiginaaDoorW.PrintWords
def Valid (xs : List Rw) (i : Int) : Prop := i = -1 ∨ 0 ≤ i ∧ i < xs.length
def WithinP (xs : List Rw) (d : Nat) : Prop := ∀ (i : Int), Valid xs i → (∀ j ∈ kidsF xs i, xs.length - j ≤ d) → ∃ r, withN xs (d + 1) i = some r ∧ r.data.toList = (kidsF xs i).flatMap (nodeT xs d (rawAt xs i))
end Go.Proofs.YtdnbaliibiginaaDoorH.W8

/- A part of rows that no row behind it belongs to, in numbers and lists alone: its trees end, and are written, as they are alone. -/
namespace Go.Proofs.YtdnbaliibiginaaDoorH.W8
open Go.RowKit Go.Proofs Go.Proofs.YtdnbaliibiginaaDoorH Go.Proofs.YtdnbaliibiginaaDoor Go.Proofs.YtdnbaliibiginaaDoorW.PrintWords
structure Part (xs ys : List Rw) (p : Nat) : Prop where
 len : p + ys.length ≤ xs.length
 at_ : ∀ j, j < ys.length → rd_T35 xs ((p + j : Nat) : Int) = rd_T35 ys (j : Int)
 low : ∀ j, j < ys.length → 0 ≤ depthAt ys j
 next : p + ys.length < xs.length → depthAt xs (p + ys.length) ≤ 0
theorem Part.depth {xs ys : List Rw} {p : Nat} (h : Part xs ys p) (j : Nat) (hj : j < ys.length) : depthAt xs (p + j) = depthAt ys j := by unfold depthAt; rw [h.at_ j hj]
theorem Part.end_ {xs ys : List Rw} {p : Nat} (h : Part xs ys p) (j : Nat) (hj : j < ys.length) : endN xs (p + j) = p + endN ys j := by
 have hl := h.len
 have e1 := endN_gt ys j
 have e2 := endN_le ys j hj
 have f1 := endN_gt xs (p + j)
 have f2 := endN_le xs (p + j) (by omega)
 have hd := h.depth j hj
 by_cases c1 : endN xs (p + j) < p + endN ys j
 ·have a := in_tree ys j (endN xs (p + j) - p) (by omega) (by omega) (by omega)
  have b := at_end xs (p + j) (by omega)
  have c := h.depth (endN xs (p + j) - p) (by omega)
  rw [show p + (endN xs (p + j) - p) = endN xs (p + j) from by omega] at c
  omega
 ·by_cases c2 : p + endN ys j < endN xs (p + j)
  ·have a := in_tree xs (p + j) (p + endN ys j) (by omega) (by omega) (by omega)
   by_cases c3 : endN ys j < ys.length
   ·have b := at_end ys j c3
    have c := h.depth _ c3
    omega
   ·have b := h.next (by omega)
    rw [show endN ys j = ys.length from by omega] at a
    have := h.low j hj
    omega
  ·omega
theorem Part.kidsW {xs ys : List Rw} {p : Nat} (h : Part xs ys p) (t : Nat) (ht : t ≤ ys.length) : ∀ (d j : Nat), ys.length - j ≤ d → kidsW xs (p + t) (p + j) = (kidsW ys t j).map (p + ·) := by
 have hl := h.len
 intro d
 induction d with
 | zero =>
  intro j hd
  rw [kidsW_no (by omega), kidsW_no (by omega)]
  rfl
 | succ d ih =>
  intro j hd
  by_cases c : j < t
  ·have := endN_gt ys j
   rw [kidsW_yes (by omega) (by omega), kidsW_yes c (by omega), h.end_ j (by omega), ih _ (by omega)]
   rfl
  ·rw [kidsW_no (by omega), kidsW_no c]
   rfl
theorem Part.kids {xs ys : List Rw} {p : Nat} (h : Part xs ys p) (k : Nat) (hk : k < ys.length) : kidsF xs ((p + k : Nat) : Int) = (kidsF ys (k : Int)).map (p + ·) := by
 have hl := h.len
 rw [kidsF_nat xs (p + k) (by omega), kidsF_nat ys k hk, h.end_ k hk]
 exact h.kidsW _ (endN_le ys k hk) ys.length (k + 1) (by omega)
theorem flat_map {α β : Type} (l : List α) (g : α → β) (f : β → Txt) : (l.map g).flatMap f = l.flatMap fun x => f (g x) := by
 induction l with
 | nil => rfl
 | cons a l ih => simp only [List.map_cons, List.flatMap_cons, ih]
theorem flat_congr {α : Type} (f g : α → Txt) : ∀ (l : List α), (∀ a ∈ l, f a = g a) → l.flatMap f = l.flatMap g
 | [], _ => rfl
 | a :: l, h => by rw [List.flatMap_cons, List.flatMap_cons, h a (by simp), flat_congr f g l (fun b hb => h b (by simp [hb]))]
theorem Part.node {xs ys : List Rw} {p : Nat} (h : Part xs ys p) : ∀ (d d' : Nat) (raw : Bool) (k : Nat), k < ys.length → ys.length - k ≤ d → ys.length - k ≤ d' → nodeT xs d raw (p + k) = nodeT ys d' raw k := by
 intro d
 induction d with
 | zero => intro d' raw k hk hd; omega
 | succ d ih =>
  intro d' raw k hk hd hd'
  obtain ⟨d', rfl⟩ : ∃ m, d' = m + 1 := ⟨d' - 1, by omega⟩
  have hk2 : (kidsF xs ((p + k : Nat) : Int)).flatMap (nodeT xs d (memS raws (rd_T35 ys (k : Int)).f2)) = (kidsF ys (k : Int)).flatMap (nodeT ys d' (memS raws (rd_T35 ys (k : Int)).f2)) := by
   rw [h.kids k hk, flat_map]
   refine flat_congr _ _ _ (fun j hj => ?_)
   have h1 := kids_gt ys k hk j hj
   have h2 := kids_lt ys _ j hj
   exact ih d' _ j h2 (by omega) (by omega)
  simp only [nodeT]
  rw [h.at_ k hk, hk2]
theorem Part.refl (xs : List Rw) (h : ∀ j, j < xs.length → 0 ≤ depthAt xs j) : Part xs xs 0 := ⟨by omega, fun j _ => by rw [Nat.zero_add], h, fun a => by omega⟩
theorem RightP.low {xs : List Rw} (h : RightP xs) : ∀ j, j < xs.length → 0 ≤ depthAt xs j := fun j hj => (h j hj).low
theorem roots_filter (xs : List Rw) (h : RightP xs) : kidsF xs (-1) = (List.range' 0 xs.length).filter fun k : Nat => decide (depthAt xs k = 0) := by
 rw [kidsF_at (.inl rfl), show toI xs (-1) = xs.length from rfl, show fromI (-1) = 0 from rfl]
 refine kidsW_filter xs 0 xs.length (Nat.le_refl _) xs.length 0 (by omega) (by omega) (fun m _ hm => (h m hm).low) (fun h0 => ?_)
 have := (h 0 h0).low
 have := (h 0 h0).high
 omega
end Go.Proofs.YtdnbaliibiginaaDoorH.W8

/- What came in, in the words of the printed walks: kind by kind, what a datum's cells say, how much it is at the least, and that its numbers fit. -/
namespace Go.Proofs.YtdnbaliibiginaaDoorH
open Go.RowKit Go.Proofs Go.Proofs.YtdnbaliibiginaaDoorW.PrintWords
open Go.ChangeShapes Go.WideShapes Go.ChangeAt
open Go.Proofs.YtdnbaliibiginaaDoor (Rows.uptoBulk Rows.uptoBulkAll)
theorem cells_at {w : World} {base n : Nat} {a : Addr} {cs : List Value} (h : w.cells? base a n = some cs) : cs.length = n ∧ ∀ j, j < n → w.cell? (a.add j) = cs[j]? := by
 unfold World.cells? at h
 split at h
 ·have hl := mapM_some_length h
  refine ⟨by simpa using hl, fun j hj => ?_⟩
  have := mapM_some_get h j j (by simp [hj])
  exact this
 ·cases h
theorem add_add (a : Addr) (n m : Nat) : (a.add n).add m = a.add (n + m) := by
 unfold Addr.add
 by_cases hm : m = 0
 ·subst hm; simp
 ·by_cases hn : n = 0
  ·subst hn; simp
  ·simp [hm, hn, Nat.add_assoc]
theorem list_of {α : Type} (P : Nat → α → Prop) : ∀ (n : Nat), (∀ i, i < n → ∃ x, P i x) → ∃ L : List α, L.length = n ∧ ∀ i (h : i < L.length), P i L[i]
 | 0, _ => ⟨[], rfl, fun i h => by simp at h⟩
 | n + 1, h => by
  obtain ⟨L, hl, hp⟩ := list_of P n (fun i hi => h i (by omega))
  obtain ⟨x, hx⟩ := h n (by omega)
  refine ⟨L ++ [x], by simp [hl], fun i hi => ?_⟩
  rcases Nat.lt_or_ge i L.length with e | e
  ·rw [List.getElem_append_left e]
   exact hp i e
  ·have e2 : i = L.length := by simp at hi; omega
   subst e2
   rw [List.getElem_append_right (by omega)]
   simp only [Nat.sub_self, List.getElem_cons_zero]
   rw [hl]
   exact hx
def Opn {α : Type} (P : Program) (t : TypeId) (d : Kd α) (wt : α → Nat) (Wf : α → Prop) : Prop :=
 ∀ {H : Type} {enc : TypeId × Value → H} {w : World} {base : Nat} {spare : Nat → Bool} {held : Bool} {fuel : Nat} {cs : List Value} {x : DataW H × List MemPlace},
  DataW.trod enc P w base spare held fuel t cs = some x → ∃ a : α, d.K w a cs ∧ wt a ≤ Rows.uptoBulk x.1 ∧ Wf a
section
variable {P : Program} {t e : TypeId}
theorem opn_int {k : IntKind} (hu : P.underlying t = some (.int k)) : Opn P t (Kd.int k) (fun _ => 1) (fun n => (Lit.int k n).wf = true) := by
 intro H enc w base spare held fuel cs x h
 obtain ⟨n, rfl, rfl, hw⟩ := DataW.trod_int hu h
 exact ⟨n, rfl, by simp [Rows.uptoBulk], hw⟩
theorem opn_string (hu : P.underlying t = some .string) : Opn P t Kd.string (fun s => s.size + 1) (fun s => s.size ≤ maxLen) := by
 intro H enc w base spare held fuel cs x h
 obtain ⟨s, rfl, rfl, hs⟩ := DataW.trod_string hu h
 refine ⟨s, rfl, ?_, hs⟩
 simp only [Rows.uptoBulk, Array.length_toList]
 exact Nat.le_refl _
theorem bulk_all {H : Type} {α : Type} (wt : α → Nat) : ∀ (l : List α) (es : List (DataW H × List MemPlace)), l.length = es.length → (∀ i (h : i < l.length) (h' : i < es.length), wt l[i] ≤ Rows.uptoBulk es[i].1) → (l.map wt).sum ≤ Rows.uptoBulkAll (es.map (·.1))
 | [], _, _, _ => by simp
 | _ :: _, [], h, _ => by simp at h
 | a :: l, y :: es, h, hp => by
  have h0 := hp 0 (by simp) (by simp)
  have ih := bulk_all wt l es (by simpa using h) (fun i h1 h2 => by
   have := hp (i + 1) (by simp; omega) (by simp; omega)
   simpa using this)
  simp only [List.map_cons, List.sum_cons, Rows.uptoBulkAll]
  simp only [List.getElem_cons_zero] at h0
  omega
theorem opn_slice {α : Type} {d : Kd α} {wt : α → Nat} {Wf : α → Prop} (hu : P.underlying t = some (.slice e)) (hsz : P.cellsOf e = d.sz) (ho : Opn P e d wt Wf) :
  Opn P t (Kd.slice e d) (fun l => (l.map wt).sum + 1) (fun l => ∀ x ∈ l, Wf x) := by
 intro H enc w base spare held fuel cs x h
 rcases DataW.trod_slice hu h with ⟨rfl, rfl⟩ | ⟨a, len, cap, elems, rest, n, _, rfl, rfl, hb, hle, hc, hlen, hel, _, _⟩
 ·exact ⟨[], ⟨none, 0, rfl, Nat.le_refl _, ⟨rfl, by simp, fun h => by simp at h⟩⟩, by simp [Rows.uptoBulk], by simp⟩
 ·obtain ⟨L, hL, hp⟩ := list_of (fun i (y : α) => ∃ c : List Value, c.length = d.sz ∧ d.K w y c ∧ (∀ j u, c[j]? = some u → w.cell? (a.add (i * d.sz + j)) = some u) ∧ (∀ (h' : i < elems.length), wt y ≤ Rows.uptoBulk elems[i].1) ∧ Wf y) len (by
   intro i hi
   have h1 := hel i hi
   have hi2 : i < elems.length := by omega
   rw [List.getElem?_eq_getElem hi2, Option.bind_eq_some_iff] at h1
   obtain ⟨c, h2, h3⟩ := h1
   obtain ⟨y, hK, hw, hf⟩ := ho h3
   obtain ⟨hcl, h6⟩ := cells_at h2
   rw [hsz] at h2 hcl h6
   refine ⟨y, c, hcl, hK, fun j u hj => ?_, fun _ => hw, hf⟩
   have hjl : j < c.length := by
    rcases Nat.lt_or_ge j c.length with h7 | h7
    ·exact h7
    ·rw [List.getElem?_eq_none h7] at hj; cases hj
   have := h6 j (by omega)
   rw [add_add] at this
   exact this.trans hj)
  refine ⟨L, ⟨some a, cap, by rw [hL], by rw [hL]; exact hle, ⟨rfl, ?_, fun _ => ⟨a, rfl, fun j p hj => ?_⟩⟩⟩, ?_, fun y hy => ?_⟩
  ·unfold maxLen at hc; omega
  ·obtain ⟨hj1, rfl⟩ := List.getElem?_eq_some_iff.1 hj
   obtain ⟨c, g1, g2, g3, _⟩ := hp j hj1
   exact ⟨c, g1, g2, g3⟩
  ·have := bulk_all wt L elems (by omega) (fun i h1 h2 => by obtain ⟨_, _, _, _, g4, _⟩ := hp i h1; exact g4 h2)
   simp only [Rows.uptoBulk]
   omega
  ·obtain ⟨i, hi, rfl⟩ := List.getElem_of_mem hy
   obtain ⟨_, _, _, _, _, g⟩ := hp i hi
   exact g
theorem pair_at {α β : Type} {d1 : Kd α} {d2 : Kd β} {w : World} {a : α} {b : β} {cs : List Value} {o s : Nat} (h1 : d1.K w a ((cs.drop o).take s)) (h2 : d2.K w b (cs.drop (o + s))) : (Kd.pair d1 d2).K w (a, b) (cs.drop o) :=
 ⟨(cs.drop o).take s, cs.drop (o + s), by rw [← List.drop_drop, List.take_append_drop], h1, h2⟩
theorem last_at {α : Type} {d : Kd α} {w : World} {a : α} {cs : List Value} {o s : Nat} (hl : cs.length = o + s) (h : d.K w a ((cs.drop o).take s)) : d.K w a (cs.drop o) := by
 rw [List.take_of_length_le (by simp; omega)] at h
 exact h
theorem ex_of {α : Type} {cs : List α} {n : Nat} (i : Nat) (h : cs.length = n) (hi : i < n) : ∃ a, cs[i]? = some a := ⟨cs[i], List.getElem?_eq_getElem (by omega)⟩
end
end Go.Proofs.YtdnbaliibiginaaDoorH

/- What came in, struct by struct: openings of the types that the statements take (printed by gen_kopn.py). -/
namespace Go.Proofs.YtdnbaliibiginaaDoorH.W8
open Go.RowKit Go.Proofs Go.Proofs.YtdnbaliibiginaaDoorH Go.Proofs.YtdnbaliibiginaaDoorW.PrintWords
open Go.Proofs.YtdnbaliibiginaaDoor (Rows.uptoBulk Rows.uptoBulkAll)
theorem opn9 : Opn Tryd.prog 9 Kd.string (fun s => s.size + 1) (fun s => s.size ≤ maxLen) := opn_string Tryd.underlying9
def wt45 (x : S45) : Nat := (fun s => s.size + 1) x.f0 + (fun s => s.size + 1) x.f1 + 1
def wf45 (x : S45) : Prop := (fun s => s.size ≤ maxLen) x.f0 ∧ (fun s => s.size ≤ maxLen) x.f1
theorem opn45 : Opn Tryd.prog 45 k45 wt45 wf45 := by
 intro H enc w base spare held fuel cs x h
 obtain ⟨xs, n, _, rfl, hl, hlen, hf⟩ := DataW.trod_struct Tryd.underlying45 h
 rw [show Tryd.prog.cellsOf 45 = 2 from by kernel_rfl] at hl
 replace hlen : xs.length = 2 := hlen
 obtain ⟨y0, hy0⟩ := ex_of 0 hlen (by omega)
 have g0 : DataW.trod enc Tryd.prog w base spare held n 9 ((cs.drop 0).take (Tryd.prog.cellsOf 9)) = some y0 := (hf 0 _ rfl).trans hy0
 rw [show Tryd.prog.cellsOf 9 = 1 from by kernel_rfl] at g0
 obtain ⟨a0, k0, b0, p0⟩ := opn9 g0
 obtain ⟨y1, hy1⟩ := ex_of 1 hlen (by omega)
 have g1 : DataW.trod enc Tryd.prog w base spare held n 9 ((cs.drop 1).take (Tryd.prog.cellsOf 9)) = some y1 := (hf 1 _ rfl).trans hy1
 rw [show Tryd.prog.cellsOf 9 = 1 from by kernel_rfl] at g1
 obtain ⟨a1, k1, b1, p1⟩ := opn9 g1
 obtain rfl : xs = [y0, y1] := by
  apply List.ext_getElem?
  intro i
  match i with
  | 0 => exact hy0
  | 1 => exact hy1
  | k + 2 => rw [List.getElem?_eq_none (by omega), List.getElem?_eq_none (by simp)]
 refine ⟨⟨a0, a1⟩, (pair_at (o := 0) (s := 1) k0 (last_at (o := 1) (s := 1) hl k1)), ?_, ⟨p0, p1⟩⟩
 simp only [wt45, List.map_cons, List.map_nil, Rows.uptoBulk, Rows.uptoBulkAll]
 simp only at b0 b1
 omega
theorem opn3 : Opn Tryd.prog 3 (Kd.int .i64) (fun _ => 1) (fun n => (Lit.int .i64 n).wf = true) := opn_int Tryd.underlying3
theorem opn33 : Opn Tryd.prog 33 (Kd.slice 45 k45) (fun l => (l.map wt45).sum + 1) (fun l => ∀ x ∈ l, wf45 x) := opn_slice Tryd.underlying33 (by kernel_rfl) opn45
def wt35 (x : S35) : Nat := (fun _ => 1) x.f0 + (fun _ => 1) x.f1 + (fun s => s.size + 1) x.f2 + (fun s => s.size + 1) x.f3 + (fun l => (l.map wt45).sum + 1) x.f4 + 1
def wf35 (x : S35) : Prop := (fun n => (Lit.int .i64 n).wf = true) x.f0 ∧ (fun n => (Lit.int .i64 n).wf = true) x.f1 ∧ (fun s => s.size ≤ maxLen) x.f2 ∧ (fun s => s.size ≤ maxLen) x.f3 ∧ (fun l => ∀ x ∈ l, wf45 x) x.f4
theorem opn35 : Opn Tryd.prog 35 k35 wt35 wf35 := by
 intro H enc w base spare held fuel cs x h
 obtain ⟨xs, n, _, rfl, hl, hlen, hf⟩ := DataW.trod_struct Tryd.underlying35 h
 rw [show Tryd.prog.cellsOf 35 = 5 from by kernel_rfl] at hl
 replace hlen : xs.length = 5 := hlen
 obtain ⟨y0, hy0⟩ := ex_of 0 hlen (by omega)
 have g0 : DataW.trod enc Tryd.prog w base spare held n 3 ((cs.drop 0).take (Tryd.prog.cellsOf 3)) = some y0 := (hf 0 _ rfl).trans hy0
 rw [show Tryd.prog.cellsOf 3 = 1 from by kernel_rfl] at g0
 obtain ⟨a0, k0, b0, p0⟩ := opn3 g0
 obtain ⟨y1, hy1⟩ := ex_of 1 hlen (by omega)
 have g1 : DataW.trod enc Tryd.prog w base spare held n 3 ((cs.drop 1).take (Tryd.prog.cellsOf 3)) = some y1 := (hf 1 _ rfl).trans hy1
 rw [show Tryd.prog.cellsOf 3 = 1 from by kernel_rfl] at g1
 obtain ⟨a1, k1, b1, p1⟩ := opn3 g1
 obtain ⟨y2, hy2⟩ := ex_of 2 hlen (by omega)
 have g2 : DataW.trod enc Tryd.prog w base spare held n 9 ((cs.drop 2).take (Tryd.prog.cellsOf 9)) = some y2 := (hf 2 _ rfl).trans hy2
 rw [show Tryd.prog.cellsOf 9 = 1 from by kernel_rfl] at g2
 obtain ⟨a2, k2, b2, p2⟩ := opn9 g2
 obtain ⟨y3, hy3⟩ := ex_of 3 hlen (by omega)
 have g3 : DataW.trod enc Tryd.prog w base spare held n 9 ((cs.drop 3).take (Tryd.prog.cellsOf 9)) = some y3 := (hf 3 _ rfl).trans hy3
 rw [show Tryd.prog.cellsOf 9 = 1 from by kernel_rfl] at g3
 obtain ⟨a3, k3, b3, p3⟩ := opn9 g3
 obtain ⟨y4, hy4⟩ := ex_of 4 hlen (by omega)
 have g4 : DataW.trod enc Tryd.prog w base spare held n 33 ((cs.drop 4).take (Tryd.prog.cellsOf 33)) = some y4 := (hf 4 _ rfl).trans hy4
 rw [show Tryd.prog.cellsOf 33 = 1 from by kernel_rfl] at g4
 obtain ⟨a4, k4, b4, p4⟩ := opn33 g4
 obtain rfl : xs = [y0, y1, y2, y3, y4] := by
  apply List.ext_getElem?
  intro i
  match i with
  | 0 => exact hy0
  | 1 => exact hy1
  | 2 => exact hy2
  | 3 => exact hy3
  | 4 => exact hy4
  | k + 5 => rw [List.getElem?_eq_none (by omega), List.getElem?_eq_none (by simp)]
 refine ⟨⟨a0, a1, a2, a3, a4⟩, (pair_at (o := 0) (s := 1) k0 (pair_at (o := 1) (s := 1) k1 (pair_at (o := 2) (s := 1) k2 (pair_at (o := 3) (s := 1) k3 (last_at (o := 4) (s := 1) hl k4))))), ?_, ⟨p0, p1, p2, p3, p4⟩⟩
 simp only [wt35, List.map_cons, List.map_nil, Rows.uptoBulk, Rows.uptoBulkAll]
 simp only at b0 b1 b2 b3 b4
 omega
theorem opn22 : Opn Tryd.prog 22 (Kd.slice 35 k35) (fun l => (l.map wt35).sum + 1) (fun l => ∀ x ∈ l, wf35 x) := opn_slice Tryd.underlying22 (by kernel_rfl) opn35
end Go.Proofs.YtdnbaliibiginaaDoorH.W8

/- Words and walks used below. -/
namespace Go.Proofs.YtdnbaliibiginaaDoorH.W8
open Go.RowKit Go.Proofs.YtdnbaliibiginaaDoorW.PrintWords Go.Proofs.YtdnbaliibiginaaDoorW.PrintLast Go.Proofs.YtdnbaliibiginaaDoorW.PrintMore
attribute [local go_sem] max2_int min2_int max_two min_two max_three min_three max_four min_four   -- for this text's walks alone
def write_Rows.f (l0 : List (S35)) : Option (ByteArray) := (write_written.f l0 (-1)).bind fun t292 => (some t292)
set_option maxHeartbeats 8000000 in
set_option maxRecDepth 100000 in
theorem write_Rows.calls (A0 : Option Addr) (c0 : Nat) (l0 : List (S35)) (r : ByteArray) (w : World) (hr0 : Kd.C k35 w A0 l0.length l0) (hc0 : l0.length ≤ c0) (h : write_Rows.f l0 = some r) (hS_ : Go.Proofs.YtdnbaliibiginaaDoor.Std8 w) :
  Calls Tryd.prog 10 #[.slice A0 l0.length c0] w fun e w' => e = .returned (.string r) ∧ Below w.heap.size w w' := by
 have HS_ := Aside0.mk hS_
 clear hS_
 have HR0 := Aside0.mk hr0
 have HC0 := Aside0.mk hc0
 clear hr0 hc0
 have HB := Aside0.mk (Below.refl w.heap.size w)
 have H : ((write_written.f l0 (-1)).bind fun t292 => (some t292)) = some r := h
 clear h
 replace H := Option.bind_eq_some_iff.mp H
 obtain ⟨t292, A20, H⟩ := H
 replace H : (some t292) = some r := H
 have A2 := Aside0.mk A20
 clear A20
 obtain rfl := Option.some.inj H
 go_enter Tryd.func10, Tryd.ntmps10
 go_wp2_with (first | ((with_reducible refine gate_callee (f := 25) rfl ?_); refine goesL_ (some 4) rfl rfl Tryd.func25 (by kernel_rfl) rfl #[.slice A0 l0.length c0, .int .i64 (-1)] rfl (by (try simp only [List.map_toArray, List.map_cons, List.map_nil]); first | done | rfl | (simp only [List.length_drop, List.length_take]; rfl)) ?_; (with_reducible refine (write_written.calls _ _ l0 (-1) t292 _ ?side1 ?side2 A2.out (Go.Proofs.YtdnbaliibiginaaDoor.Std8.below HS_.out bz)).mono ?_); (case side1 => repeat (first | exact HR0.out | (with_reducible refine Kd.C_alloc ?_ _) | (with_reducible refine Kd.C_drewN ?_ _) | (with_reducible refine Kd.C_drew ?_))); (case side2 => exact HC0.out); rintro e w3 ⟨rfl, hb⟩; refine ⟨_, rfl, ?_⟩; have n0_ := Aside0.mk (below_step bz hb); clear HB; have HB := n0_; clear n0_; (try clear hb); (try clear hb2); (try clear hk); (try clear hi)))
 go_ret
 exact ⟨by first | rfl | (simp [errW_none, errW_some] <;> rfl) | (simp [*, errW_none, errW_some] <;> rfl), bz⟩
end Go.Proofs.YtdnbaliibiginaaDoorH.W8
