/- Lemmas and walks, part 19: QW8D, QKOpn, QKOp8, QPW8x37. -/
import Derived.Test.YtdnbaliibiginaaDoorV17
import Derived.Test.YtdnbaliibiginaaDoorV18
import Derived.Test.YtdnbaliibiginaaDoorRows
import Derived.Test.YtdnbaliibiginaaDoorV1
import Derived.WalkKit
import Derived.ProofKit
import Derived.OpenShut
import Derived.ChangeArms
import Derived.Test.YtdnbaliibiginaaDoorV4
import Derived.Test.YtdnbaliibiginaaDoorV10
set_option linter.unusedVariables false
set_option linter.unusedSimpArgs false

/- What is written of right rows, by both, is one text: the document's side. Plain. -/
namespace Go.Proofs.YtdnbaliibiginaaDoorH.W8
open Go.RowKit Go.Proofs Go.Proofs.YtdnbaliibiginaaDoorH Go.Proofs.YtdnbaliibiginaaDoor Go.Proofs.YtdnbaliibiginaaDoorW.PrintWords
theorem l4b : (⟨#[60, 33, 45, 45]⟩ : ByteArray).data.toList = [60, 33, 45, 45] := rfl
theorem l3b : (⟨#[45, 45, 62]⟩ : ByteArray).data.toList = [45, 45, 62] := rfl
theorem l2b : (⟨#[60, 47]⟩ : ByteArray).data.toList = [60, 47] := rfl
theorem l1b : (⟨#[62]⟩ : ByteArray).data.toList = [62] := rfl
theorem nodeT_succ (xs : List Rw) (d : Nat) (raw : Bool) (k : Nat) : nodeT xs (d + 1) raw k = if (rd_T35 xs k).f1 = 1 then (if raw then (rd_T35 xs k).f3.data.toList else wrL false (rd_T35 xs k).f3.data.toList)
  else if (rd_T35 xs k).f1 = 2 then ([60, 33, 45, 45] ++ (rd_T35 xs k).f3.data.toList) ++ [45, 45, 62]
  else tagT (rd_T35 xs k).f2 (rd_T35 xs k).f4 ++ restT (rd_T35 xs k) ((kidsF xs k).flatMap (nodeT xs d (memS raws (rd_T35 xs k).f2))) := rfl
def Valid (xs : List Rw) (i : Int) : Prop := i = -1 ∨ 0 ≤ i ∧ i < xs.length
def WithinP (xs : List Rw) (d : Nat) : Prop := ∀ (i : Int), Valid xs i → (∀ j ∈ kidsF xs i, xs.length - j ≤ d) → ∃ r, withN xs (d + 1) i = some r ∧ r.data.toList = (kidsF xs i).flatMap (nodeT xs d (rawAt xs i))
theorem nodeB_some (xs : List Rw) (hz : SizeP xs) (hp : RightP xs) (e : Nat) (hW : WithinP xs e) (raw : Bool) (j : Nat) (hj : j < xs.length) (hd : xs.length - j ≤ e + 1) : ∃ t, nodeB xs raw (withN xs (e + 1)) (j : Int) = some t ∧ t.data.toList = nodeT xs (e + 1) raw j := by
 have ho := own_val (hz.one j hj)
 have hkind := (hp j hj).kind
 have hr := rd35_at xs j hj
 have hn := nodeT_succ xs e raw j
 rw [hr] at hkind hn
 unfold nodeB
 rw [if_pos ⟨by omega, by omega⟩, hr]
 by_cases h1 : xs[j].f1 = 1
 ·rw [if_pos h1] at hn ⊢
  cases raw with
  | true => exact ⟨_, rfl, by rw [hn]; rfl⟩
  | false =>
   rw [if_neg (by decide)] at hn ⊢
   unfold boltingref03_Write.f
   rw [wrB_at false _ ho.2.2.1]
   exact ⟨_, rfl, by rw [hn]⟩
 ·rw [if_neg h1] at hn ⊢
  by_cases h2 : xs[j].f1 = 2
  ·rw [if_pos h2] at hn ⊢
   rw [if_pos (by rw [ba_size]; omega)]
   exact ⟨_, rfl, by rw [hn, ba_data, ba_data, l4b, l3b]⟩
  ·rw [if_neg h2] at hn ⊢
   obtain ⟨o, e1, e2⟩ := tag_f xs[j] (xs[j].f4.length + 1) (by have := hz.atts _ (List.getElem_mem hj); omega) (by omega) ho.1 (by omega)
   obtain ⟨u, w1, w2⟩ := hW j (.inr ⟨by omega, by omega⟩) (fun m hm => by have := kids_gt xs j hj m hm; omega)
   have hraw : rawAt xs ((j : Nat) : Int) = memS raws xs[j].f2 := by unfold rawAt; rw [if_pos (by omega), hr]
   have hul := kids_len0 xs e (rawAt xs (j : Int)) j (.inr ⟨by omega, by omega⟩)
   have htot := hz.total
   rw [show boltingref05_Void.f = some voids from rfl, Option.bind_some, voidR_f _ 100 (by omega), Option.bind_some, e1, Option.bind_some, w1]
   unfold restT at hn
   cases hv : memS voids xs[j].f2
   ·rw [hv, if_neg (by decide)] at hn
    rw [if_neg (by decide), Option.bind_some, if_pos (by rw [ba_size o, ba_size u, ba_size xs[j].f2, e2, w2]; omega)]
    refine ⟨_, rfl, ?_⟩
    rw [hn, ba_data, ba_data, ba_data, ba_data, l2b, l1b, e2, w2, hraw]
    simp only [List.append_assoc]
   ·rw [hv, if_pos rfl, List.append_nil] at hn
    rw [if_pos rfl]
    exact ⟨_, rfl, by rw [e2, hn]⟩
theorem loop_some (xs : List Rw) (f : Int → Option ByteArray) (g : Nat → Txt) : ∀ (ks : List Nat) (acc : ByteArray), (∀ j ∈ ks, ∃ t, f (j : Int) = some t ∧ t.data.toList = g j) → acc.data.toList.length + (ks.flatMap g).length ≤ 1000000000 →
  ∃ r, loopB f acc (ks.map (fun k : Nat => (k : Int))) = some r ∧ r.data.toList = acc.data.toList ++ ks.flatMap g
 | [], acc, _, _ => ⟨acc, rfl, by simp⟩
 | j :: ks, acc, h, hs => by
  obtain ⟨t, ht, hg⟩ := h j (by simp)
  rw [List.flatMap_cons, List.length_append] at hs
  obtain ⟨r, h1, h2⟩ := loop_some xs f g ks (acc ++ t) (fun m hm => h m (by simp [hm])) (by rw [ba_data, List.length_append, hg]; omega)
  refine ⟨r, ?_, by rw [h2, ba_data, hg, List.flatMap_cons, List.append_assoc]⟩
  rw [List.map_cons]
  simp only [loopB]
  rw [ht, Option.bind_some, if_pos (by rw [ba_size, ba_size, hg]; omega)]
  exact h1
theorem rawW_some (xs : List Rw) (i : Int) (hi : Valid xs i) : rawW xs i = some (rawAt xs i) := by
 unfold rawW rawAt
 rcases hi with rfl | hi
 ·rfl
 ·rw [if_pos hi.1, if_pos hi.2, if_pos hi.1, show boltingref05_Raw.f = some raws from rfl, Option.bind_some, rawR_f _ 100 (by omega)]
theorem within_all (xs : List Rw) (hz : SizeP xs) (hp : RightP xs) : ∀ d, WithinP xs d := by
 intro d
 induction d with
 | zero =>
  intro i hi hks
  have hnil : kidsF xs i = [] := by
   cases hq : kidsF xs i with
   | nil => rfl
   | cons j l => have h1 := kids_lt xs i j (by rw [hq]; simp); have h2 := hks j (by rw [hq]; simp); omega
  simp only [withN]
  rw [kids_f xs (by have := hz.len; omega) hp, Option.bind_some, rawW_some xs i hi, Option.bind_some, hnil]
  exact ⟨_, rfl, rfl⟩
 | succ d ih =>
  intro i hi hks
  have htot := hz.total
  have hl := kids_len0 xs (d + 1) (rawAt xs i) i hi
  rw [withN, kids_f xs (by have := hz.len; omega) hp, Option.bind_some, rawW_some xs i hi, Option.bind_some]
  obtain ⟨r, h1, h2⟩ := loop_some xs (nodeB xs (rawAt xs i) (withN xs (d + 1))) (nodeT xs (d + 1) (rawAt xs i)) (kidsF xs i) ⟨#[]⟩ (fun j hj => nodeB_some xs hz hp d ih _ j (kids_lt xs i j hj) (hks j hj)) (by
   show 0 + _ ≤ _
   omega)
  exact ⟨r, h1, by rw [h2]; rfl⟩
theorem within_f (xs : List Rw) (hz : SizeP xs) (hp : RightP xs) (i : Int) (hi : Valid xs i) : ∃ r, boltingref08_Within.f xs i = some r ∧ r.data.toList = (kidsF xs i).flatMap (nodeT xs xs.length (rawAt xs i)) :=
 within_all xs hz hp xs.length i hi (fun j hj => by omega)
end Go.Proofs.YtdnbaliibiginaaDoorH.W8

/- What came in, in the words of the printed walks: kind by kind, what a datum's cells say, how much it is at the least, and that its numbers fit. -/
namespace Go.Proofs.YtdnbaliibiginaaDoorH
open Go.RowKit Go.Proofs Go.Proofs.YtdnbaliibiginaaDoorW.PrintWords
open Go.ChangeShapes Go.WideShapes Go.ChangeAt
open Go.Proofs.YtdnbaliibiginaaDoor (Rows.uptoBulk Rows.uptoBulkAll)
theorem cells_at {w : World} {base n : Nat} {a : Addr} {cs : List Value} (h : w.cells? base a n = some cs) : cs.length = n ∧ ∀ j, j < n → w.cell? (a.add j) = cs[j]? := by
 unfold World.cells? at h
 split at h
 ·have hl := mapM_some_length h
  refine ⟨by simpa using hl, fun j hj => ?_⟩
  have := mapM_some_get h j j (by simp [hj])
  exact this
 ·cases h
theorem add_add (a : Addr) (n m : Nat) : (a.add n).add m = a.add (n + m) := by
 unfold Addr.add
 by_cases hm : m = 0
 ·subst hm; simp
 ·by_cases hn : n = 0
  ·subst hn; simp
  ·simp [hm, hn, Nat.add_assoc]
theorem list_of {α : Type} (P : Nat → α → Prop) : ∀ (n : Nat), (∀ i, i < n → ∃ x, P i x) → ∃ L : List α, L.length = n ∧ ∀ i (h : i < L.length), P i L[i]
 | 0, _ => ⟨[], rfl, fun i h => by simp at h⟩
 | n + 1, h => by
  obtain ⟨L, hl, hp⟩ := list_of P n (fun i hi => h i (by omega))
  obtain ⟨x, hx⟩ := h n (by omega)
  refine ⟨L ++ [x], by simp [hl], fun i hi => ?_⟩
  rcases Nat.lt_or_ge i L.length with e | e
  ·rw [List.getElem_append_left e]
   exact hp i e
  ·have e2 : i = L.length := by simp at hi; omega
   subst e2
   rw [List.getElem_append_right (by omega)]
   simp only [Nat.sub_self, List.getElem_cons_zero]
   rw [hl]
   exact hx
def Opn {α : Type} (P : Program) (t : TypeId) (d : Kd α) (wt : α → Nat) (Wf : α → Prop) : Prop :=
 ∀ {H : Type} {enc : TypeId × Value → H} {w : World} {base : Nat} {spare : Nat → Bool} {held : Bool} {fuel : Nat} {cs : List Value} {x : DataW H × List MemPlace},
  DataW.trod enc P w base spare held fuel t cs = some x → ∃ a : α, d.K w a cs ∧ wt a ≤ Rows.uptoBulk x.1 ∧ Wf a
section
variable {P : Program} {t e : TypeId}
theorem opn_int {k : IntKind} (hu : P.underlying t = some (.int k)) : Opn P t (Kd.int k) (fun _ => 1) (fun n => (Lit.int k n).wf = true) := by
 intro H enc w base spare held fuel cs x h
 obtain ⟨n, rfl, rfl, hw⟩ := DataW.trod_int hu h
 exact ⟨n, rfl, by simp [Rows.uptoBulk], hw⟩
theorem opn_string (hu : P.underlying t = some .string) : Opn P t Kd.string (fun s => s.size + 1) (fun s => s.size ≤ maxLen) := by
 intro H enc w base spare held fuel cs x h
 obtain ⟨s, rfl, rfl, hs⟩ := DataW.trod_string hu h
 refine ⟨s, rfl, ?_, hs⟩
 simp only [Rows.uptoBulk, Array.length_toList]
 exact Nat.le_refl _
theorem bulk_all {H : Type} {α : Type} (wt : α → Nat) : ∀ (l : List α) (es : List (DataW H × List MemPlace)), l.length = es.length → (∀ i (h : i < l.length) (h' : i < es.length), wt l[i] ≤ Rows.uptoBulk es[i].1) → (l.map wt).sum ≤ Rows.uptoBulkAll (es.map (·.1))
 | [], _, _, _ => by simp
 | _ :: _, [], h, _ => by simp at h
 | a :: l, y :: es, h, hp => by
  have h0 := hp 0 (by simp) (by simp)
  have ih := bulk_all wt l es (by simpa using h) (fun i h1 h2 => by
   have := hp (i + 1) (by simp; omega) (by simp; omega)
   simpa using this)
  simp only [List.map_cons, List.sum_cons, Rows.uptoBulkAll]
  simp only [List.getElem_cons_zero] at h0
  omega
theorem opn_slice {α : Type} {d : Kd α} {wt : α → Nat} {Wf : α → Prop} (hu : P.underlying t = some (.slice e)) (hsz : P.cellsOf e = d.sz) (ho : Opn P e d wt Wf) :
  Opn P t (Kd.slice e d) (fun l => (l.map wt).sum + 1) (fun l => ∀ x ∈ l, Wf x) := by
 intro H enc w base spare held fuel cs x h
 rcases DataW.trod_slice hu h with ⟨rfl, rfl⟩ | ⟨a, len, cap, elems, rest, n, _, rfl, rfl, hb, hle, hc, hlen, hel, _, _⟩
 ·exact ⟨[], ⟨none, 0, rfl, Nat.le_refl _, ⟨rfl, by simp, fun h => by simp at h⟩⟩, by simp [Rows.uptoBulk], by simp⟩
 ·obtain ⟨L, hL, hp⟩ := list_of (fun i (y : α) => ∃ c : List Value, c.length = d.sz ∧ d.K w y c ∧ (∀ j u, c[j]? = some u → w.cell? (a.add (i * d.sz + j)) = some u) ∧ (∀ (h' : i < elems.length), wt y ≤ Rows.uptoBulk elems[i].1) ∧ Wf y) len (by
   intro i hi
   have h1 := hel i hi
   have hi2 : i < elems.length := by omega
   rw [List.getElem?_eq_getElem hi2, Option.bind_eq_some_iff] at h1
   obtain ⟨c, h2, h3⟩ := h1
   obtain ⟨y, hK, hw, hf⟩ := ho h3
   obtain ⟨hcl, h6⟩ := cells_at h2
   rw [hsz] at h2 hcl h6
   refine ⟨y, c, hcl, hK, fun j u hj => ?_, fun _ => hw, hf⟩
   have hjl : j < c.length := by
    rcases Nat.lt_or_ge j c.length with h7 | h7
    ·exact h7
    ·rw [List.getElem?_eq_none h7] at hj; cases hj
   have := h6 j (by omega)
   rw [add_add] at this
   exact this.trans hj)
  refine ⟨L, ⟨some a, cap, by rw [hL], by rw [hL]; exact hle, ⟨rfl, ?_, fun _ => ⟨a, rfl, fun j p hj => ?_⟩⟩⟩, ?_, fun y hy => ?_⟩
  ·unfold maxLen at hc; omega
  ·obtain ⟨hj1, rfl⟩ := List.getElem?_eq_some_iff.1 hj
   obtain ⟨c, g1, g2, g3, _⟩ := hp j hj1
   exact ⟨c, g1, g2, g3⟩
  ·have := bulk_all wt L elems (by omega) (fun i h1 h2 => by obtain ⟨_, _, _, _, g4, _⟩ := hp i h1; exact g4 h2)
   simp only [Rows.uptoBulk]
   omega
  ·obtain ⟨i, hi, rfl⟩ := List.getElem_of_mem hy
   obtain ⟨_, _, _, _, _, g⟩ := hp i hi
   exact g
theorem pair_at {α β : Type} {d1 : Kd α} {d2 : Kd β} {w : World} {a : α} {b : β} {cs : List Value} {o s : Nat} (h1 : d1.K w a ((cs.drop o).take s)) (h2 : d2.K w b (cs.drop (o + s))) : (Kd.pair d1 d2).K w (a, b) (cs.drop o) :=
 ⟨(cs.drop o).take s, cs.drop (o + s), by rw [← List.drop_drop, List.take_append_drop], h1, h2⟩
theorem last_at {α : Type} {d : Kd α} {w : World} {a : α} {cs : List Value} {o s : Nat} (hl : cs.length = o + s) (h : d.K w a ((cs.drop o).take s)) : d.K w a (cs.drop o) := by
 rw [List.take_of_length_le (by simp; omega)] at h
 exact h
theorem ex_of {α : Type} {cs : List α} {n : Nat} (i : Nat) (h : cs.length = n) (hi : i < n) : ∃ a, cs[i]? = some a := ⟨cs[i], List.getElem?_eq_getElem (by omega)⟩
end
end Go.Proofs.YtdnbaliibiginaaDoorH

/- What came in, struct by struct: openings of the types that the statements take (printed by gen_kopn.py). -/
namespace Go.Proofs.YtdnbaliibiginaaDoorH.W8
open Go.RowKit Go.Proofs Go.Proofs.YtdnbaliibiginaaDoorH Go.Proofs.YtdnbaliibiginaaDoorW.PrintWords
open Go.Proofs.YtdnbaliibiginaaDoor (Rows.uptoBulk Rows.uptoBulkAll)
theorem opn9 : Opn Tryd.prog 9 Kd.string (fun s => s.size + 1) (fun s => s.size ≤ maxLen) := opn_string Tryd.underlying9
def wt45 (x : S45) : Nat := (fun s => s.size + 1) x.f0 + (fun s => s.size + 1) x.f1 + 1
def wf45 (x : S45) : Prop := (fun s => s.size ≤ maxLen) x.f0 ∧ (fun s => s.size ≤ maxLen) x.f1
theorem opn45 : Opn Tryd.prog 45 k45 wt45 wf45 := by
 intro H enc w base spare held fuel cs x h
 obtain ⟨xs, n, _, rfl, hl, hlen, hf⟩ := DataW.trod_struct Tryd.underlying45 h
 rw [show Tryd.prog.cellsOf 45 = 2 from by kernel_rfl] at hl
 replace hlen : xs.length = 2 := hlen
 obtain ⟨y0, hy0⟩ := ex_of 0 hlen (by omega)
 have g0 : DataW.trod enc Tryd.prog w base spare held n 9 ((cs.drop 0).take (Tryd.prog.cellsOf 9)) = some y0 := (hf 0 _ rfl).trans hy0
 rw [show Tryd.prog.cellsOf 9 = 1 from by kernel_rfl] at g0
 obtain ⟨a0, k0, b0, p0⟩ := opn9 g0
 obtain ⟨y1, hy1⟩ := ex_of 1 hlen (by omega)
 have g1 : DataW.trod enc Tryd.prog w base spare held n 9 ((cs.drop 1).take (Tryd.prog.cellsOf 9)) = some y1 := (hf 1 _ rfl).trans hy1
 rw [show Tryd.prog.cellsOf 9 = 1 from by kernel_rfl] at g1
 obtain ⟨a1, k1, b1, p1⟩ := opn9 g1
 obtain rfl : xs = [y0, y1] := by
  apply List.ext_getElem?
  intro i
  match i with
  | 0 => exact hy0
  | 1 => exact hy1
  | k + 2 => rw [List.getElem?_eq_none (by omega), List.getElem?_eq_none (by simp)]
 refine ⟨⟨a0, a1⟩, (pair_at (o := 0) (s := 1) k0 (last_at (o := 1) (s := 1) hl k1)), ?_, ⟨p0, p1⟩⟩
 simp only [wt45, List.map_cons, List.map_nil, Rows.uptoBulk, Rows.uptoBulkAll]
 simp only at b0 b1
 omega
theorem opn3 : Opn Tryd.prog 3 (Kd.int .i64) (fun _ => 1) (fun n => (Lit.int .i64 n).wf = true) := opn_int Tryd.underlying3
theorem opn33 : Opn Tryd.prog 33 (Kd.slice 45 k45) (fun l => (l.map wt45).sum + 1) (fun l => ∀ x ∈ l, wf45 x) := opn_slice Tryd.underlying33 (by kernel_rfl) opn45
def wt35 (x : S35) : Nat := (fun _ => 1) x.f0 + (fun _ => 1) x.f1 + (fun s => s.size + 1) x.f2 + (fun s => s.size + 1) x.f3 + (fun l => (l.map wt45).sum + 1) x.f4 + 1
def wf35 (x : S35) : Prop := (fun n => (Lit.int .i64 n).wf = true) x.f0 ∧ (fun n => (Lit.int .i64 n).wf = true) x.f1 ∧ (fun s => s.size ≤ maxLen) x.f2 ∧ (fun s => s.size ≤ maxLen) x.f3 ∧ (fun l => ∀ x ∈ l, wf45 x) x.f4
theorem opn35 : Opn Tryd.prog 35 k35 wt35 wf35 := by
 intro H enc w base spare held fuel cs x h
 obtain ⟨xs, n, _, rfl, hl, hlen, hf⟩ := DataW.trod_struct Tryd.underlying35 h
 rw [show Tryd.prog.cellsOf 35 = 5 from by kernel_rfl] at hl
 replace hlen : xs.length = 5 := hlen
 obtain ⟨y0, hy0⟩ := ex_of 0 hlen (by omega)
 have g0 : DataW.trod enc Tryd.prog w base spare held n 3 ((cs.drop 0).take (Tryd.prog.cellsOf 3)) = some y0 := (hf 0 _ rfl).trans hy0
 rw [show Tryd.prog.cellsOf 3 = 1 from by kernel_rfl] at g0
 obtain ⟨a0, k0, b0, p0⟩ := opn3 g0
 obtain ⟨y1, hy1⟩ := ex_of 1 hlen (by omega)
 have g1 : DataW.trod enc Tryd.prog w base spare held n 3 ((cs.drop 1).take (Tryd.prog.cellsOf 3)) = some y1 := (hf 1 _ rfl).trans hy1
 rw [show Tryd.prog.cellsOf 3 = 1 from by kernel_rfl] at g1
 obtain ⟨a1, k1, b1, p1⟩ := opn3 g1
 obtain ⟨y2, hy2⟩ := ex_of 2 hlen (by omega)
 have g2 : DataW.trod enc Tryd.prog w base spare held n 9 ((cs.drop 2).take (Tryd.prog.cellsOf 9)) = some y2 := (hf 2 _ rfl).trans hy2
 rw [show Tryd.prog.cellsOf 9 = 1 from by kernel_rfl] at g2
 obtain ⟨a2, k2, b2, p2⟩ := opn9 g2
 obtain ⟨y3, hy3⟩ := ex_of 3 hlen (by omega)
 have g3 : DataW.trod enc Tryd.prog w base spare held n 9 ((cs.drop 3).take (Tryd.prog.cellsOf 9)) = some y3 := (hf 3 _ rfl).trans hy3
 rw [show Tryd.prog.cellsOf 9 = 1 from by kernel_rfl] at g3
 obtain ⟨a3, k3, b3, p3⟩ := opn9 g3
 obtain ⟨y4, hy4⟩ := ex_of 4 hlen (by omega)
 have g4 : DataW.trod enc Tryd.prog w base spare held n 33 ((cs.drop 4).take (Tryd.prog.cellsOf 33)) = some y4 := (hf 4 _ rfl).trans hy4
 rw [show Tryd.prog.cellsOf 33 = 1 from by kernel_rfl] at g4
 obtain ⟨a4, k4, b4, p4⟩ := opn33 g4
 obtain rfl : xs = [y0, y1, y2, y3, y4] := by
  apply List.ext_getElem?
  intro i
  match i with
  | 0 => exact hy0
  | 1 => exact hy1
  | 2 => exact hy2
  | 3 => exact hy3
  | 4 => exact hy4
  | k + 5 => rw [List.getElem?_eq_none (by omega), List.getElem?_eq_none (by simp)]
 refine ⟨⟨a0, a1, a2, a3, a4⟩, (pair_at (o := 0) (s := 1) k0 (pair_at (o := 1) (s := 1) k1 (pair_at (o := 2) (s := 1) k2 (pair_at (o := 3) (s := 1) k3 (last_at (o := 4) (s := 1) hl k4))))), ?_, ⟨p0, p1, p2, p3, p4⟩⟩
 simp only [wt35, List.map_cons, List.map_nil, Rows.uptoBulk, Rows.uptoBulkAll]
 simp only at b0 b1 b2 b3 b4
 omega
theorem opn22 : Opn Tryd.prog 22 (Kd.slice 35 k35) (fun l => (l.map wt35).sum + 1) (fun l => ∀ x ∈ l, wf35 x) := opn_slice Tryd.underlying22 (by kernel_rfl) opn35
end Go.Proofs.YtdnbaliibiginaaDoorH.W8

/- Words and walks used below. -/
namespace Go.Proofs.YtdnbaliibiginaaDoorH.W8
open Go.RowKit Go.Proofs.YtdnbaliibiginaaDoorW.PrintWords Go.Proofs.YtdnbaliibiginaaDoorW.PrintLast Go.Proofs.YtdnbaliibiginaaDoorW.PrintMore
attribute [local go_sem] max2_int min2_int max_two min_two max_three min_three max_four min_four   -- for this text's walks alone
def write_Rows.f (l0 : List (S35)) : Option (ByteArray) := (write_written.f l0 (-1)).bind fun t292 => (some t292)
set_option maxHeartbeats 8000000 in
set_option maxRecDepth 100000 in
theorem write_Rows.calls (A0 : Option Addr) (c0 : Nat) (l0 : List (S35)) (r : ByteArray) (w : World) (hr0 : Kd.C k35 w A0 l0.length l0) (hc0 : l0.length ≤ c0) (h : write_Rows.f l0 = some r) (hS_ : Go.Proofs.YtdnbaliibiginaaDoor.Std8 w) :
  Calls Tryd.prog 10 #[.slice A0 l0.length c0] w fun e w' => e = .returned (.string r) ∧ Below w.heap.size w w' := by
 have HS_ := Aside0.mk hS_
 clear hS_
 have HR0 := Aside0.mk hr0
 have HC0 := Aside0.mk hc0
 clear hr0 hc0
 have HB := Aside0.mk (Below.refl w.heap.size w)
 have H : ((write_written.f l0 (-1)).bind fun t292 => (some t292)) = some r := h
 clear h
 replace H := Option.bind_eq_some_iff.mp H
 obtain ⟨t292, A20, H⟩ := H
 replace H : (some t292) = some r := H
 have A2 := Aside0.mk A20
 clear A20
 obtain rfl := Option.some.inj H
 go_enter Tryd.func10, Tryd.ntmps10
 go_wp2_with (first | ((with_reducible refine gate_callee (f := 25) rfl ?_); refine goesL_ (some 4) rfl rfl Tryd.func25 (by kernel_rfl) rfl #[.slice A0 l0.length c0, .int .i64 (-1)] rfl (by (try simp only [List.map_toArray, List.map_cons, List.map_nil]); first | done | rfl | (simp only [List.length_drop, List.length_take]; rfl)) ?_; (with_reducible refine (write_written.calls _ _ l0 (-1) t292 _ ?side1 ?side2 A2.out (Go.Proofs.YtdnbaliibiginaaDoor.Std8.below HS_.out bz)).mono ?_); (case side1 => repeat (first | exact HR0.out | (with_reducible refine Kd.C_alloc ?_ _) | (with_reducible refine Kd.C_drewN ?_ _) | (with_reducible refine Kd.C_drew ?_))); (case side2 => exact HC0.out); rintro e w3 ⟨rfl, hb⟩; refine ⟨_, rfl, ?_⟩; have n0_ := Aside0.mk (below_step bz hb); clear HB; have HB := n0_; clear n0_; (try clear hb); (try clear hb2); (try clear hk); (try clear hi)))
 go_ret
 exact ⟨by first | rfl | (simp [errW_none, errW_some] <;> rfl) | (simp [*, errW_none, errW_some] <;> rfl), bz⟩
end Go.Proofs.YtdnbaliibiginaaDoorH.W8
