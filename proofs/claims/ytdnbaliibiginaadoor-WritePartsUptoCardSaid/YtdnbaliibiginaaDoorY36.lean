/- boltinglaw08.WriteParts returns true and leaves its arguments as they were, where what it reads is of bulk at most 1048576: the row and its card. Conditions: the row's own (that bulk; the form's reach; the listed variables as the program's text lays them). -/
import Derived.Test.YtdnbaliibiginaaDoorY34
import Derived.Test.YtdnbaliibiginaaDoorY35
import Derived.Test.YtdnbaliibiginaaDoorRows
import Derived.Test.YtdnbaliibiginaaDoorY8
import Derived.Lib.LaidU8T
import Derived.WalkKit
import Derived.ProofKit
import Derived.OpenShut
import Derived.SizedLaws
import Derived.Deep.DeepHandedRow
import Derived.Deep.DeepWitnessRowRef
import Derived.Lib.LaidIn
import Derived.Shelf.Vars
import Derived.Test.YtdnbaliibiginaaDoorCards
import Derived.Test.YtdnbaliibiginaaDoorTie
import Derived.Test.YtdnbaliibiginaaDoorY32
import Derived.Carry
import Derived.ShutString
set_option linter.unusedVariables false
set_option linter.unusedSimpArgs false

/- WriteParts, in numbers and lists alone: each root's tree, written alone, is what is written of it among the others. -/
namespace Go.Proofs.YtdnbaliibiginaaDoorH.W8
open Go.RowKit Go.Proofs Go.Proofs.YtdnbaliibiginaaDoorH Go.Proofs.YtdnbaliibiginaaDoor Go.Proofs.YtdnbaliibiginaaDoorW.PrintWords
theorem extract_l (t : ByteArray) (a b : Nat) : (t.extract a b).data.toList = (t.data.toList.take b).drop a := by
 rw [ByteArray.data_extract, Array.toList_extract, List.extract_eq_take_drop, List.drop_take]
def treeR (xs : List Rw) (r : Nat) : List Rw := (xs.take (endN xs r)).drop r
theorem tree_len (xs : List Rw) (r : Nat) (hr : r < xs.length) : (treeR xs r).length = endN xs r - r := by
 have := endN_le xs r hr
 unfold treeR
 rw [List.length_drop, List.length_take]
 omega
theorem tree_rd (xs : List Rw) (r j : Nat) (hr : r < xs.length) (hj : j < (treeR xs r).length) : rd_T35 xs ((r + j : Nat) : Int) = rd_T35 (treeR xs r) (j : Int) := by
 have h1 := endN_le xs r hr
 have h2 := tree_len xs r hr
 rw [rd35_at _ j hj, rd35_at xs (r + j) (by omega)]
 simp only [treeR, List.getElem_drop, List.getElem_take]
theorem tree_part (xs : List Rw) (hp : RightP xs) (r : Nat) (hr : r < xs.length) (h0 : depthAt xs r = 0) : Part xs (treeR xs r) r := by
 have h1 := endN_le xs r hr
 have h2 := tree_len xs r hr
 have h3 := endN_gt xs r
 refine ⟨by omega, fun j hj => tree_rd xs r j hr hj, fun j hj => ?_, fun h => ?_⟩
 ·have := (hp (r + j) (by omega)).low
  unfold depthAt at this ⊢
  rwa [tree_rd xs r j hr hj] at this
 ·rw [show r + (treeR xs r).length = endN xs r from by omega] at h ⊢
  have := at_end xs r h
  omega
theorem tree_right (xs : List Rw) (hp : RightP xs) (r : Nat) (hr : r < xs.length) (h0 : depthAt xs r = 0) : RightP (treeR xs r) := by
 have hP := tree_part xs hp r hr h0
 have hl := hP.len
 have high : ∀ j, j < (treeR xs r).length → depthAt (treeR xs r) j ≤ j := by
  intro j
  induction j with
  | zero =>
   intro hj
   have := hP.depth 0 hj
   rw [Nat.add_zero] at this
   omega
  | succ j ih =>
   intro hj
   have a := ih (by omega)
   have b := (hp (r + (j + 1)) (by omega)).step (by omega)
   rw [show r + (j + 1) - 1 = r + j from by omega, hP.depth (j + 1) hj, hP.depth j (by omega)] at b
   omega
 intro j hj
 have o := hp (r + j) (by omega)
 refine ⟨?_, hP.low j hj, high j hj, fun h => ?_⟩
 ·have := o.kind
  rwa [hP.at_ j hj] at this
 ·have b := o.step (by omega)
  rwa [show r + j - 1 = r + (j - 1) from by omega, hP.depth j hj, hP.depth (j - 1) (by omega)] at b
theorem tree_roots (xs : List Rw) (hp : RightP xs) (r : Nat) (hr : r < xs.length) (h0 : depthAt xs r = 0) : kidsF (treeR xs r) (-1) = [0] := by
 have hP := tree_part xs hp r hr h0
 have h2 := tree_len xs r hr
 have h3 := endN_gt xs r
 have e := hP.end_ 0 (by omega)
 rw [Nat.add_zero] at e
 rw [kidsF_at (.inl rfl), show toI (treeR xs r) (-1) = (treeR xs r).length from rfl, show fromI (-1) = 0 from rfl, kidsW_yes (by omega) (by omega), kidsW_no (by omega)]
theorem suf_sub (xs : List Rw) (r e : Nat) : sufS ((xs.take e).drop r) 0 ≤ sufS xs 0 := by
 unfold sufS
 rw [List.drop_zero, List.drop_zero]
 have h1 : ∀ (l : List Rw) (n : Nat), ((l.drop n).map own).sum ≤ (l.map own).sum := by
  intro l
  induction l with
  | nil => intro n; simp
  | cons a l ih =>
   intro n
   cases n with
   | zero => simp
   | succ n => have := ih n; simp only [List.drop_succ_cons, List.map_cons, List.sum_cons]; omega
 exact Nat.le_trans (h1 _ _) (sum_take' own xs e)
theorem tree_size (xs : List Rw) (hz : SizeP xs) (r : Nat) (hr : r < xs.length) : SizeP (treeR xs r) := by
 have h1 := endN_le xs r hr
 have h2 := tree_len xs r hr
 have := hz.len
 have := hz.total
 have h4 := suf_sub xs r (endN xs r)
 refine ⟨by omega, ?_, fun x hx => hz.atts x ?_⟩
 ·exact Nat.le_trans h4 hz.total
 ·exact List.mem_of_mem_take (List.mem_of_mem_drop hx)
def rootInT (xs : List Rw) : Txt := if (rd_T35 xs 0).f1 = 0 ∧ memS voids (rd_T35 xs 0).f2 = false then (kidsF xs 0).flatMap (nodeT xs xs.length (memS raws (rd_T35 xs 0).f2)) else []
theorem inside_0 (xs : List Rw) (hz : SizeP xs) (hp : RightP xs) (h : 0 < xs.length) (k : Nat) (hk : 100 ≤ k) : write_Inside.f k xs 0 = some ⟨(rootInT xs).toArray⟩ := by
 unfold write_Inside.f rootInT
 rw [if_neg (by decide), if_neg (by decide), if_neg (by omega), if_pos (by omega), if_pos (by omega)]
 by_cases h0 : (rd_T35 xs 0).f1 = 0
 ·rw [if_pos h0, void_f _ _ (by omega), Option.bind_some]
  cases hv : memS voids (rd_T35 xs 0).f2 with
  | true => rw [if_pos rfl, if_neg (fun e => by cases e.2)]
  | false =>
   rw [if_neg (by decide), if_pos ⟨h0, rfl⟩, written_f xs hz hp 0 (.inr ⟨by omega, by omega⟩)]
   rfl
 ·rw [if_neg h0, if_neg (fun e => h0 e.1)]
theorem root_eq (xs : List Rw) (h : 0 < xs.length) (h0 : (rd_T35 xs 0).f1 = 0) (raw : Bool) (hne : rootInT xs ≠ []) : nodeT xs xs.length raw 0 = tagT (rd_T35 xs 0).f2 (rd_T35 xs 0).f4 ++ (rootInT xs ++ (([60, 47] ++ (rd_T35 xs 0).f2.data.toList) ++ [62])) := by
 obtain ⟨n, hn⟩ : ∃ n, xs.length = n + 1 := ⟨xs.length - 1, by omega⟩
 have hv : memS voids (rd_T35 xs 0).f2 = false := by
  cases hv : memS voids (rd_T35 xs 0).f2 with
  | false => rfl
  | true => exact absurd (by unfold rootInT; rw [if_neg (fun e => by rw [hv] at e; cases e.2)]) hne
 have hR : ∀ (raw : Bool) (k : Nat), k < xs.length → 0 < k → nodeT xs n raw k = nodeT xs xs.length raw k := by
  intro raw k hk hk0
  have hall : ∀ (d d' : Nat) (raw : Bool) (k : Nat), k < xs.length → xs.length - k ≤ d → xs.length - k ≤ d' → nodeT xs d raw k = nodeT xs d' raw k := by
   intro d
   induction d with
   | zero => intro d' raw k hk hd; omega
   | succ d ih =>
    intro d' raw k hk hd hd'
    obtain ⟨d', rfl⟩ : ∃ m, d' = m + 1 := ⟨d' - 1, by omega⟩
    have hk2 : (kidsF xs (k : Int)).flatMap (nodeT xs d (memS raws (rd_T35 xs (k : Int)).f2)) = (kidsF xs (k : Int)).flatMap (nodeT xs d' (memS raws (rd_T35 xs (k : Int)).f2)) :=
     flat_congr _ _ _ (fun j hj => ih d' _ j (kids_lt xs _ j hj) (by have := kids_gt xs k hk j hj; omega) (by have := kids_gt xs k hk j hj; omega))
    simp only [nodeT]
    rw [hk2]
  exact hall _ _ raw k hk (by omega) (by omega)
 have e : rootInT xs = (kidsF xs (0 : Nat)).flatMap (nodeT xs n (memS raws (rd_T35 xs (0 : Nat)).f2)) := by
  unfold rootInT
  rw [if_pos ⟨h0, hv⟩]
  exact flat_congr _ _ _ (fun j hj => (hR _ j (kids_lt xs _ j hj) (kids_gt xs 0 h j hj)).symm)
 rw [e]
 conv => lhs; rw [hn]
 simp only [nodeT]
 have k1 : ¬ (rd_T35 xs ((0 : Nat) : Int)).f1 = 1 := fun e => by rw [show (rd_T35 xs ((0 : Nat) : Int)).f1 = 0 from h0] at e; cases e
 have k2 : ¬ (rd_T35 xs ((0 : Nat) : Int)).f1 = 2 := fun e => by rw [show (rd_T35 xs ((0 : Nat) : Int)).f1 = 0 from h0] at e; cases e
 rw [if_neg k1, if_neg k2]
 unfold restT
 rw [if_neg (by rw [show memS voids (rd_T35 xs ((0 : Nat) : Int)).f2 = false from hv]; decide)]
 rfl
theorem take_flat {α : Type} (f : α → Txt) (l : List α) (n : Nat) : ((l.take n).flatMap f).length ≤ (l.flatMap f).length := by
 conv => rhs; rw [← List.take_append_drop n l]
 rw [List.flatMap_append, List.length_append]
 omega
theorem mid_take (a b c : Txt) (x y : Nat) (hx : x = a.length) (hy : y = a.length + b.length) : ((a ++ (b ++ c)).take y).drop x = b := by
 subst hx hy
 rw [← List.append_assoc, List.take_left' (by simp), List.drop_left' rfl]
theorem w_all (u tg v e : Nat) (hul : u = tg + (v + e)) (hb : u ≤ 1000000000) : wrap64 ((v : Int) + (e : Int)) = (v : Int) + (e : Int) ∧ wrap64 ((u : Int) - (e : Int)) = ((tg + v : Nat) : Int) ∧ wrap64 (((tg + v : Nat) : Int) - (v : Int)) = (tg : Int) ∧ ¬ ((u : Int) < (v : Int) + (e : Int)) ∧ (0 : Int) ≤ ((tg + v : Nat) : Int) ∧ ((tg + v : Nat) : Int) ≤ (u : Int) ∧ (0 : Int) ≤ (tg : Int) ∧ (tg : Int) ≤ ((tg + v : Nat) : Int) :=
 ⟨w64 (by omega) (by omega), (w64 (by omega) (by omega)).trans (by omega), (w64 (by omega) (by omega)).trans (by omega), by omega, by omega, by omega, by omega, by omega⟩
theorem root_0 (xs : List Rw) (hp : RightP xs) (r : Nat) (hm : r ∈ kidsF xs (-1)) : depthAt xs r = 0 := by
 rw [roots_filter xs hp, List.mem_filter] at hm
 simpa using hm.2
set_option maxHeartbeats 1000000 in
theorem parts_l0 (xs : List Rw) (hz : SizeP xs) (hp : RightP xs) : ∀ (d i k : Nat) (s : ByteArray), i + d = (kidsF xs (-1)).length → 2 * xs.length + 500 + d ≤ k → s.data.toList = ((kidsF xs (-1)).take i).flatMap (nodeT xs xs.length false) →
  boltinglaw08_WriteParts.l0 k xs s ((kidsF xs (-1)).map (fun k : Nat => (k : Int))) i = some true := by
 have hlen := hz.len
 have htot := hz.total
 have hall := kids_len0 xs xs.length false (-1) (.inl rfl)
 have hkl := kids_len xs (-1) (.inl rfl)
 intro d
 induction d with
 | zero =>
  intro i k s hi hk hs
  obtain ⟨k, rfl⟩ : ∃ m, k = m + 1 := ⟨k - 1, by omega⟩
  have hs2 : s.data.toList = (kidsF xs (-1)).flatMap (nodeT xs xs.length false) := by rw [hs, List.take_of_length_le (by omega)]
  simp only [boltinglaw08_WriteParts.l0]
  rw [if_neg (by rw [List.length_map]; omega)]
  unfold write_Rows.f write_Inside.f
  rw [if_pos rfl, written_f xs hz hp (-1) (.inl rfl)]
  repeat rw [Option.bind_some]
  rw [if_pos (same_list (by rw [hs2]; rfl))]
  repeat rw [Option.bind_some]
  rw [if_pos (same_list (by rw [hs2]; rfl)), fixed_k, Option.bind_some]
 | succ d ih =>
  intro i k s hi hk hs
  obtain ⟨k, rfl⟩ : ∃ m, k = m + 1 := ⟨k - 1, by omega⟩
  have hlt : i < (kidsF xs (-1)).length := by omega
  have hmem := List.getElem_mem hlt
  have hr := kids_lt xs (-1) _ hmem
  have h0 : depthAt xs (kidsF xs (-1))[i] = 0 := root_0 xs hp _ hmem
  have hnext : ∀ (u : ByteArray), u.data.toList = nodeT xs xs.length false (kidsF xs (-1))[i] → boltinglaw08_WriteParts.l0 k xs (s ++ u) ((kidsF xs (-1)).map (fun k : Nat => (k : Int))) ((i + 1 : Nat) : Int) = some true := by
   intro u hu
   refine ih (i + 1) k _ (by omega) (by omega) ?_
   rw [ba_data, hs, hu, List.take_succ_eq_append_getElem hlt, List.flatMap_append]
   simp
  have hsz : s.size ≤ 1000000000 := by
   rw [ba_size, hs]
   exact Nat.le_trans (take_flat _ _ _) (by omega)
  have hrd : rd ((kidsF xs (-1)).map (fun k : Nat => (k : Int))) (i : Int) = (((kidsF xs (-1))[i] : Nat) : Int) := by simp [rd, hlt]
  generalize (kidsF xs (-1))[i] = r at *
  have hP := tree_part xs hp r hr h0
  have hR := tree_right xs hp r hr h0
  have hZ := tree_size xs hz r hr
  have hroots := tree_roots xs hp r hr h0
  have hl2 := tree_len xs r hr
  have hgt := endN_gt xs r
  have hle := endN_le xs r hr
  have hpl : 0 < (treeR xs r).length := by omega
  have hnode := hP.node xs.length (treeR xs r).length false 0 hpl (by omega) (by omega)
  rw [Nat.add_zero] at hnode
  simp only [boltinglaw08_WriteParts.l0]
  rw [if_pos (by rw [List.length_map]; omega), if_pos (by omega), hrd, refEnd_f xs (by omega) r k hr (by omega), Option.bind_some, if_pos (by omega), if_pos (by omega), if_pos (by omega)]
  simp only [Int.toNat_natCast]
  rw [show (xs.take (endN xs r)).drop r = treeR xs r from rfl, refMoved_f (treeR xs r) (by omega) (depth_all hR (by omega)) hZ.atts k (by omega), Option.bind_some]
  unfold write_Rows.f
  rw [written_f _ hZ hR (-1) (.inl rfl), hroots, Option.bind_some, Option.bind_some]
  simp only [show rawAt (treeR xs r) (-1) = false from rfl, List.flatMap_cons, List.flatMap_nil, List.append_nil]
  have hnl := kids_len0 (treeR xs r) (treeR xs r).length false (-1) (.inl rfl)
  rw [hroots] at hnl
  simp only [List.flatMap_cons, List.flatMap_nil, List.append_nil] at hnl
  have htot2 := hZ.total
  have hu : (⟨(nodeT (treeR xs r) (treeR xs r).length false 0).toArray⟩ : ByteArray).size = (nodeT (treeR xs r) (treeR xs r).length false 0).length := mk_size _
  have hown := own_val (hZ.one 0 hpl)
  have e0 : rd_T35 (treeR xs r) 0 = (treeR xs r)[0] := rd35_at _ 0 hpl
  rw [← e0] at hown
  have hnm := ba_size (rd_T35 (treeR xs r) 0).f2
  rw [if_pos (by omega), inside_0 _ hZ hR hpl k (by omega), Option.bind_some, if_pos (by omega), if_pos (show 2 + (rd_T35 (treeR xs r) 0).f2.size ≤ _ by omega), if_pos (by rw [ByteArray.size_append]; show 2 + (rd_T35 (treeR xs r) 0).f2.size + 1 ≤ _; omega)]
  have hnx := hnext ⟨(nodeT (treeR xs r) (treeR xs r).length false 0).toArray⟩ hnode.symm
  rw [wN (by omega)]
  by_cases h1 : (rd_T35 (treeR xs r) 0).f1 = 0
  ·rw [if_pos h1]
   by_cases h2 : rootInT (treeR xs r) = []
   ·rw [if_pos (by rw [Lib.toList_data]; exact h2)]
    exact hnx
   ·rw [if_neg (by rw [Lib.toList_data]; exact h2)]
    have he := root_eq (treeR xs r) hpl h1 false h2
    generalize nodeT (treeR xs r) (treeR xs r).length false 0 = u at *
    generalize hin : rootInT (treeR xs r) = v at *
    generalize hnmE : (rd_T35 (treeR xs r) 0).f2 = nm at *
    generalize tagT nm (rd_T35 (treeR xs r) 0).f4 = tg at *
    have hv : (⟨v.toArray⟩ : ByteArray).size = v.length := mk_size _
    have hE : (((⟨#[60, 47]⟩ : ByteArray) ++ nm) ++ (⟨#[62]⟩ : ByteArray)).size = nm.size + 3 := by rw [ByteArray.size_append, ByteArray.size_append]; show 2 + nm.size + 1 = _; omega
    have hEl : (((⟨#[60, 47]⟩ : ByteArray) ++ nm) ++ (⟨#[62]⟩ : ByteArray)).data.toList = ([60, 47] ++ nm.data.toList) ++ [62] := by rw [ba_data, ba_data]
    have hEn : (([60, 47] ++ nm.data.toList) ++ [62]).length = nm.size + 3 := by rw [← hEl, ← ba_size, hE]
    have hul : u.length = tg.length + (v.length + (nm.size + 3)) := by rw [he, List.length_append, List.length_append, hEn]
    rw [hu, hv, hE]
    obtain ⟨w1, w2, w3, n1, n2, n3, n4, n5⟩ := w_all u.length tg.length v.length (nm.size + 3) hul (Nat.le_trans hnl htot2)
    rw [w1, w2, w3, if_neg n1, if_pos n2, if_pos n3, if_pos, if_pos n4, if_pos n5, if_pos]
    ·exact hnx
    ·refine same_list ?_
     rw [extract_l]
     show (u.take _).drop _ = v
     rw [he, Int.toNat_natCast, Int.toNat_natCast]
     exact mid_take _ _ _ _ _ rfl rfl
    ·refine same_list ?_
     rw [extract_l, hEl]
     show (u.take _).drop _ = _
     rw [List.take_of_length_le (Nat.le_refl _), Int.toNat_natCast, he, ← List.append_assoc, List.drop_left' (by rw [List.length_append])]
  ·rw [if_neg h1]
   exact hnx
theorem writeParts (l : List Rw) (h : (l.map wt35).sum ≤ 2000000) : boltinglaw08_WriteParts.f 2000 l = some true := by
 have hl := lenR_wt l
 have hz := size_of l h
 have h40 := len_of l
 unfold boltinglaw08_WriteParts.f
 rw [bound_f l (by omega) _ (by omega), Option.bind_some]
 generalize (l.take 40).map cutR = xs at *
 have hlen := hz.len
 obtain ⟨b, hb, hr⟩ := right_f xs (by omega) hz.atts 2000 (by omega)
 rw [hb, Option.bind_some]
 cases b with
 | false => rw [if_neg (by decide), fixed_k, Option.bind_some]
 | true =>
  have hp := hr rfl
  have hkl := kids_len xs (-1) (.inl rfl)
  rw [if_pos rfl, kids_f xs (by omega) hp, Option.bind_some]
  exact parts_l0 xs hz hp (kidsF xs (-1)).length 0 2000 _ (by omega) (by omega) rfl
end Go.Proofs.YtdnbaliibiginaaDoorH.W8

/- boltinglaw08.WriteParts is true of any rows of bulk at most 1048576: its walk (printed) over the plain law. -/
namespace Go.Proofs.YtdnbaliibiginaaDoor
open Go.RowKit Go.Proofs Go.Proofs.YtdnbaliibiginaaDoorH Go.Proofs.YtdnbaliibiginaaDoorH.W8 Go.Proofs.YtdnbaliibiginaaDoorW.PrintWords
theorem writeParts_w (A : Option Addr) (c : Nat) (l : List S35) {W : World} (hr : k35.C W A l.length l) (hc : l.length ≤ c) (wf : ∀ x ∈ l, wf35 x)
  (hb : (l.map wt35).sum ≤ 1048576) (hS : Std8 W) :
  Calls Tryd.prog 4 #[.slice A l.length c] W fun e w' => e = .returned (.bool true) ∧ Below W.heap.size W w' :=
 boltinglaw08_WriteParts.calls 2000 A c l true W hr hc (writeParts l (by omega)) hS rfl
end Go.Proofs.YtdnbaliibiginaaDoor

/- A world that fits the rows of layer 8: the settled one, the listed variables holding what the program's text lays; and what a row's premises give the walks. -/
namespace Go.Proofs.YtdnbaliibiginaaDoor
open Go.ChangeShapes Go.WideShapes Go.ChangeAt Go.RowKit
theorem own : ownKnob Tryd.prog.godebug = none := by kernel_rfl
def litCell : DataW Unit → Value
 | .lit (.int k n) => .int k n
 | _ => .bool false
def litCells : DataW Unit → List Value
 | .agg l => l.map litCell
 | d => [litCell d]
def dataCells : DataW Unit → Array Value
 | .agg l => (l.flatMap litCells).toArray
 | _ => #[]
noncomputable def laidWorld (os : Os) : World :=
 let w0 := World.holding Tryd.prog os ⟨#[], #[], []⟩
 let put (h : Array Obj) (g : Nat) (cs : Array Value) : Array Obj := h.modify g fun
  | .cells _ t frozen => .cells cs t frozen
  | o => o
 let h1 := put w0.heap 1 (dataCells Rows.laid_unicode_utf8_acceptRanges)
 let h2 := put h1 0 (dataCells Rows.laid_unicode_utf8_first)
 { w0 with heap := h2 }
def listed : List (String × DataW Unit) := [("unicode/utf8.acceptRanges", Rows.laid_unicode_utf8_acceptRanges), ("unicode/utf8.first", Rows.laid_unicode_utf8_first)]
set_option maxRecDepth 100000 in
theorem laid_met (os : Os) (args : Array Value) : laidMet Tryd.prog listed ((laidWorld os).forCall (fun _ _ => 0) ⟨#[], args, []⟩).memory :=
 (LaidIn.of_run [1, 0] 8 (by kernel_rfl) (by kernel_rfl) (by kernel_rfl) (by kernel_rfl)).met
theorem acc_eq : (Rows.laid_unicode_utf8_acceptRanges : DataW Unit) = Lib.acceptData := by kernel_rfl
theorem fst_eq : (Rows.laid_unicode_utf8_first : DataW Unit) = Lib.firstData := by kernel_rfl
theorem std_of {W : World} (hL : laidMetH Tryd.prog listed W) (hsh : W.ShapedOpen Tryd.prog) : Std8 W := by
 have h0 : laidMet Tryd.prog listed W := hL
 unfold listed at h0
 rw [acc_eq, fst_eq] at h0
 refine ⟨Go.Proofs.cell_of_shapedOpen_int (zero := #[.int .i64 0]) (t := 3) hsh (of_decide_eq_true (by kernel_rfl)) (by kernel_rfl) rfl (by kernel_rfl) (by kernel_rfl) Tryd.underlying3, ?_⟩
 exact utf8Tabs_of_readsT (U8Types.of196 valid_lays) ⟨by kernel_rfl, by kernel_rfl, by kernel_rfl, by kernel_rfl, by kernel_rfl, by kernel_rfl, by kernel_rfl⟩ (Lib.laidMet.reads h0 (.tail _ (.head _))) (Lib.laidMet.reads h0 (.head _))
end Go.Proofs.YtdnbaliibiginaaDoor

/- boltinglaw08.WriteParts returns true and leaves its arguments as they were, where what it reads is of bulk at most 1048576: the row and its card. Conditions: the row's own (that bulk; the form's reach; the listed variables as the program's text lays them). -/
namespace Go.Proofs.YtdnbaliibiginaaDoor.fnWriteParts
open Go.ChangeShapes Go.WideShapes Go.ChangeAt Go.RowKit Go.Proofs.YtdnbaliibiginaaDoorH.W8
open Go.ChangeMaps (open_string shut_string)
theorem laidOut : laidOutB Tryd.prog = true := by kernel_rfl
set_option maxRecDepth 100000 in
theorem contract (H : Type) (enc : TypeId × Value → H) (W : World) (base : Nat) (args : Array Value) (ds gs : List (DataW H)) (before : List MemPlace)
  (hval : ∀ (j : Nat) t v, Tryd.f4.params[j]? = some t → args[j]? = some v → Value.okWide Tryd.prog W .any base t v)
  (hW : DataW.Whole enc Tryd.prog Tryd.f4.params.toList Rows.writePartsSpec.vars false W args.toList ds gs before)
  (hk : Rows.uptoSmall H (ds ++ gs) = true)
  (hS : Std8 W) :
  Calls Tryd.prog 4 args W fun e W' => ∃ v, e = .returned v ∧ Rows.writePartsSpec.post enc Tryd.prog Tryd.f4 false true false false W args v W' := by
 have hW' := hW
 obtain ⟨p, q, hA0, hV, rfl, hfz, hnd⟩ := hW
 have hA : DataW.TrodAll enc Tryd.prog W 0 (fun _ => true) true Tryd.f4.params.toList args.toList ds p := hA0
 rw [Tryd.params4] at hA hval
 obtain ⟨v0, vs0, d0, ds0, p0, q0, hargs, rfl, rfl, h0, r0⟩ := trodAll_cons hA
 obtain ⟨rfl, rfl, rfl⟩ := trodAll_nil r0
 obtain rfl : args = #[v0] := by cases args; simp_all
 obtain ⟨rfl, rfl⟩ := trodVars_none hV
 have hlt : ∀ x ∈ p0, x.block < W.heap.size := fun x hx => hW'.lt x (by simpa using hx)
 have hbulk := of_decide_eq_true hk
 simp only [List.append_nil, List.cons_append, List.nil_append, Rows.uptoBulkAll] at hbulk
 obtain ⟨fuel0, hf0⟩ := id h0
 obtain ⟨a0, n0, m0, rfl⟩ := okWide_slice Tryd.underlying22 (hval 0 22 v0 rfl rfl)
 obtain ⟨l0, ⟨A0, c0, e0, hc0, hr0⟩, b0, w0⟩ := opn22 hf0
 obtain ⟨rfl, rfl, rfl⟩ : a0 = A0 ∧ n0 = l0.length ∧ m0 = c0 := by
  simp only [Value.cells] at e0
  simpa using e0
 clear hA0
 simp only [List.append_nil] at hW'
 simp only at b0
 have walk := writeParts_w a0 m0 l0 hr0 hc0 w0 (by omega) hS
 refine walk.mono fun e W' ⟨he, hb⟩ => ?_
 subst he
 have e1 : Rows.writePartsSpec.fn H ([d0] ++ []) = { results := [.lit (.bool true)], args := [d0] } := rfl
 refine ⟨_, rfl, _, _, _, [], (p0 ++ []), [], hW', ?_, ?_, ?_, hb.frame _, fun h => by cases h⟩
 ·rw [e1]; exact trodAll_cons_mk (shut_bool Tryd.underlying4 _) trodAll_mk0
 ·rw [e1]; exact (trodAll_cons_mk (Below.trod laidOut (by kernel_rfl) (of_decide_eq_true (by kernel_rfl)) h0 hb (fun x hx => hlt x hx)) trodAll_mk0)
 ·rw [e1]; rfl
theorem reads (os : Os) {H : Type} (enc : TypeId × Value → H) : ∃ places, DataW.whole enc Tryd.prog ((laidWorld os).forCall (fun _ _ => 0) ⟨#[], #[.slice none 0 0], []⟩).memory Tryd.f4.params.toList Rows.writePartsSpec.vars false #[Value.slice none 0 0].toList 8 = some ([.nil], [], places) :=
 ⟨[], by kernel_rfl⟩
set_option maxRecDepth 100000 in
theorem lifted (os : Os) (started : os.Started) (H : Type) (enc : TypeId × Value → H) (F : Stop.Interp) :
  ReturnsInHanded {} Tryd.checked os 4 .any ((Rows.OpenSpec.upto Rows.writePartsSpec).preRow enc Tryd.prog Tryd.f4 Rows.writePartsUptoRow.domain false Rows.writePartsUptoRow.laid) (((Rows.OpenSpec.upto Rows.writePartsSpec).at F).post enc Tryd.prog Tryd.f4 false true false false) := by
 obtain ⟨places, hx⟩ := reads os enc
 refine returnsInHanded_of_row (C := Tryd.checked) (s := Rows.OpenSpec.upto Rows.writePartsSpec) own started (by kernel_rfl) Tryd.func4
  (witness_row_atRef (enc := enc) (C := Tryd.checked) false (laidWorld os) #[.slice none 0 0] rfl (by kernel_rfl) (by kernel_rfl) (by kernel_rfl)
   (OpenSpec.preRow_of_cond 8 hx (by kernel_rfl) (fun k hk => by cases hk; kernel_rfl) (by kernel_rfl) (laid_met os #[.slice none 0 0]))) ?_
 intro W base args ds gs before hval hW _ hcond hsz hL hsh _
 exact contract H enc W base args ds gs before hval hW (hcond _ rfl) (std_of hL hsh)
theorem said : Rows.WritePartsUptoSaid :=
 OpenClaim.holds_of_cond 4 Tryd.f4 rfl rfl rfl rfl rfl rfl rfl ⟨rfl, rfl, rfl, rfl, rfl⟩ rfl rfl rfl rfl rfl (by kernel_rfl) Tryd.func4 (by kernel_rfl)
  (of_decide_eq_true (by kernel_rfl)) (by unfold Func.isWrapper; rw [if_neg (of_decide_eq_false (by kernel_rfl))]; exact ⟨rfl, rfl⟩)
  (fun os started H enc _ F => by rw [OpenClaim.pre_eq_preRow]; exact lifted os started H enc F)
theorem plain (f : FuncId) (fn : Func) (hf : Tryd.pinned.checked.prog.funcNamed "bolting/boltinglaw08.WriteParts" = some f) (hfn : Tryd.pinned.checked.prog.funcs[f]? = some fn) :
  true = Tryd.pinned.checked.prog.looks [] ∧ ∀ (j : Nat) t, fn.params[j]? = some t → Tryd.pinned.checked.prog.wantsStandIn t = false := by
 obtain rfl : f = 4 := Option.some.inj ((show Tryd.prog.funcNamed "bolting/boltinglaw08.WriteParts" = some 4 by kernel_rfl).symm.trans hf) |>.symm
 obtain rfl : fn = Tryd.f4 := (Option.some.inj (Tryd.func4.symm.trans hfn)).symm
 refine ⟨by kernel_rfl, fun j t ht => ?_⟩
 rw [Tryd.params4] at ht
 have hm := Array.mem_of_getElem? ht
 simp only [List.mem_toArray, List.mem_cons, List.mem_nil_iff, or_false] at hm
 rcases hm with rfl
 ·exact (show Tryd.prog.wantsStandIn 22 = false by kernel_rfl)
theorem writeParts_card : Rows.WritePartsUptoCardSaid :=
 Claim7.holds_tied_plain_at .later [] _ _ _ _ said (fun _ h => by cases h) (by kernel_rfl) (fun _ h => by cases h) writePartsUpto_row_tie rfl ⟨rfl, rfl⟩ (by kernel_rfl) rfl plain (by kernel_rfl)
end Go.Proofs.YtdnbaliibiginaaDoor.fnWriteParts
namespace Go.Proofs.YtdnbaliibiginaaDoor
theorem writeParts_holds : Rows.WritePartsUptoCardSaid := fnWriteParts.writeParts_card
end Go.Proofs.YtdnbaliibiginaaDoor
