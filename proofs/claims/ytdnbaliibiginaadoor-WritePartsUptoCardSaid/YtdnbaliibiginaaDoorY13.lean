/- Lemmas and walks, part 13: QW8A, QR8F, QE8F, QPW8x28, QPW8x29. -/
import Derived.Test.YtdnbaliibiginaaDoorY10
import Derived.Test.YtdnbaliibiginaaDoorY11
import Derived.Test.YtdnbaliibiginaaDoorY12
import Derived.RangeFuncNested
import Derived.RangeFuncBound
import Derived.RangeFuncCalls
import Derived.RangeFuncLeaves
import Derived.RangeFuncBox
import Derived.Shelf.Abstract
import Derived.Shelf.RegionOpen
import Derived.WalkKit
import Derived.OwnWalkIn
import Derived.TacticsInMore
import Derived.LoopNIn
import Derived.LoopIn
import Derived.Test.YtdnbaliibiginaaDoorY4
import Derived.Test.YtdnbaliibiginaaDoorY6
import Derived.Test.YtdnbaliibiginaaDoorY5
set_option linter.unusedVariables false
set_option linter.unusedSimpArgs false

/- What the printed functions of layer 8 come to: names in lists, start tags, where a tree ends. Plain. -/
namespace Go.Proofs.YtdnbaliibiginaaDoorH.W8
open Go.RowKit Go.Proofs Go.Proofs.YtdnbaliibiginaaDoorH Go.Proofs.YtdnbaliibiginaaDoor Go.Proofs.YtdnbaliibiginaaDoorW.PrintWords
theorem wN {i : Nat} (h : i < 1000000000) : wrap64 ((i : Int) + 1) = ((i + 1 : Nat) : Int) := by unfold wrap64; omega
theorem bIff (a b : ByteArray) : a.toList = b.toList ↔ a.data.toList = b.data.toList := by rw [Lib.toList_data, Lib.toList_data]
def memS (l : List ByteArray) (s : ByteArray) : Bool := l.any fun x => x.data.toList == s.data.toList
theorem rdOf_at (l : List ByteArray) (i : Nat) (h : i < l.length) : rdOf ByteArray.empty l (i : Int) = l[i] := by simp [rdOf, h]
theorem among_l0 (s : ByteArray) (l : List ByteArray) (hl : l.length < 100000) : ∀ (d i k : Nat), l.length - i ≤ d → i ≤ l.length → d < k → names_among.l0 k s l (l.length : Int) i = some (memS (l.drop i) s) := by
 intro d
 induction d with
 | zero =>
  intro i k hd hi hk
  obtain ⟨k, rfl⟩ : ∃ m, k = m + 1 := ⟨k - 1, by omega⟩
  simp only [names_among.l0]
  rw [if_neg (by omega), List.drop_of_length_le (by omega)]
  rfl
 | succ d ih =>
  intro i k hd hi hk
  obtain ⟨k, rfl⟩ : ∃ m, k = m + 1 := ⟨k - 1, by omega⟩
  by_cases h : i < l.length
  ·simp only [names_among.l0]
   rw [if_pos (by omega), if_pos (by omega), if_pos (by omega), rdOf_at l i h, wN (by omega), ih (i + 1) k (by omega) (by omega) (by omega), List.drop_eq_getElem_cons h]
   simp only [memS, List.any_cons]
   by_cases e : l[i].data.toList = s.data.toList
   ·rw [if_pos ((bIff _ _).2 e), e]; simp
   ·rw [if_neg (fun h => e ((bIff _ _).1 h)), beq_eq_false_iff_ne.2 e, Bool.false_or]
  ·simp only [names_among.l0]
   rw [if_neg (by omega), List.drop_of_length_le (by omega)]
   rfl
theorem among_f (s : ByteArray) (l : List ByteArray) (k : Nat) (hl : l.length < 100000) (hk : l.length < k) : names_among.f k s l = some (memS l s) := among_l0 s l hl l.length 0 k (by omega) (by omega) hk
def voids : List ByteArray := (boltingref05_Void.f).getD []
def raws : List ByteArray := (boltingref05_Raw.f).getD []
theorem void_f (s : ByteArray) (k : Nat) (hk : 20 ≤ k) : names_Void.f k s = some (memS voids s) := by
 unfold names_Void.f
 rw [among_f _ _ _ (by simp) (by simp; omega)]
 rfl
theorem raw_f (s : ByteArray) (k : Nat) (hk : 20 ≤ k) : names_Raw.f k s = some (memS raws s) := by
 unfold names_Raw.f
 rw [among_f _ _ _ (by simp) (by simp; omega)]
 rfl
def atT (a : S45) : Txt := ((([32] ++ a.f0.data.toList) ++ [61, 34]) ++ wrL true a.f1.data.toList) ++ [34]
def tagT (nm : ByteArray) (l : List S45) : Txt := ([60] ++ nm.data.toList) ++ l.flatMap atT ++ [62]
theorem wrB_at (b : Bool) (v : ByteArray) (h : v.data.toList.length ≤ 1000000000) : wrB b v = some ⟨(wrL b v.data.toList).toArray⟩ := by unfold wrB; rw [if_pos h]
theorem rd45_at (l : List S45) (i : Nat) (h : i < l.length) : rd_T45 l i = l[i] := by simp [rd_T45, h]
theorem l32 : (⟨#[32]⟩ : ByteArray).data.toList = [32] := rfl
theorem l61 : (⟨#[61, 34]⟩ : ByteArray).data.toList = [61, 34] := rfl
theorem l34 : (⟨#[34]⟩ : ByteArray).data.toList = [34] := rfl
theorem l60 : (⟨#[60]⟩ : ByteArray).data.toList = [60] := rfl
theorem lw (b : Bool) (v : List UInt8) : (⟨(wrL b v).toArray⟩ : ByteArray).data.toList = wrL b v := rfl
theorem sz32 : (⟨#[32]⟩ : ByteArray).size = 1 := rfl
theorem sz61 : (⟨#[61, 34]⟩ : ByteArray).size = 2 := rfl
theorem sz34 : (⟨#[34]⟩ : ByteArray).size = 1 := rfl
theorem szw (b : Bool) (v : List UInt8) : (⟨(wrL b v).toArray⟩ : ByteArray).size = (wrL b v).length := mk_size _
set_option maxHeartbeats 1000000 in
theorem opened_l0 (l : List S45) (hl : l.length < 100000) (hv : ∀ a ∈ l, a.f1.data.toList.length ≤ 1000000000) : ∀ (d i k : Nat) (acc : ByteArray), l.length - i ≤ d → i ≤ l.length → d < k →
  acc.data.toList.length + ((l.drop i).flatMap atT).length ≤ 1000000000000 →
  ∃ r, write_opened.l0 k acc l (l.length : Int) i = some r ∧ r.data.toList = (acc.data.toList ++ (l.drop i).flatMap atT) ++ [62] := by
 intro d
 induction d with
 | zero =>
  intro i k acc hd hi hk hz
  obtain ⟨k, rfl⟩ : ∃ m, k = m + 1 := ⟨k - 1, by omega⟩
  simp only [write_opened.l0]
  rw [List.drop_of_length_le (by omega)] at hz ⊢
  rw [if_neg (by omega), if_pos (by rw [ba_size]; simp only [List.flatMap_nil, List.length_nil, Nat.add_zero] at hz; omega)]
  exact ⟨_, rfl, by simp⟩
 | succ d ih =>
  intro i k acc hd hi hk hz
  by_cases h : i < l.length
  ·obtain ⟨k, rfl⟩ : ∃ m, k = m + 1 := ⟨k - 1, by omega⟩
   have hva := hv l[i] (List.getElem_mem h)
   rw [List.drop_eq_getElem_cons h, List.flatMap_cons] at hz
   simp only [List.length_append, atT, List.length_cons, List.length_nil] at hz
   simp only [write_opened.l0]
   rw [if_pos (by omega), if_pos (by omega), if_pos (by omega), rd45_at l i h]
   rw [if_pos (by rw [ba_size]; omega), if_pos (by rw [ByteArray.size_append, sz32, ba_size]; omega)]
   unfold refs_Value.f
   rw [wrB_at true _ hva, Option.bind_some]
   rw [if_pos (by rw [ByteArray.size_append, ByteArray.size_append, sz32, sz61, szw, ba_size]; omega)]
   rw [if_pos (by rw [ByteArray.size_append, ByteArray.size_append, ByteArray.size_append, sz32, sz61, szw, ba_size]; omega)]
   rw [if_pos (by rw [ByteArray.size_append, ByteArray.size_append, ByteArray.size_append, ByteArray.size_append, sz32, sz61, sz34, szw, ba_size, ba_size]; omega)]
   rw [wN (by omega)]
   obtain ⟨r, h1, h2⟩ := ih (i + 1) k (acc ++ ((((⟨#[32]⟩ : ByteArray) ++ l[i].f0) ++ (⟨#[61, 34]⟩ : ByteArray)) ++ (⟨(wrL true l[i].f1.data.toList).toArray⟩ : ByteArray) ++ (⟨#[34]⟩ : ByteArray))) (by omega) (by omega) (by omega)
    (by rw [ba_data, ba_data, ba_data, ba_data, ba_data, l32, l61, lw, l34]; simp only [List.length_append, List.length_cons, List.length_nil]; omega)
   refine ⟨r, h1, ?_⟩
   rw [h2, List.drop_eq_getElem_cons h, List.flatMap_cons, ba_data, ba_data, ba_data, ba_data, ba_data, l32, l61, lw, l34]
   simp only [atT, List.append_assoc]
  ·exact ih i k acc (by omega) hi (by omega) hz
theorem opened_f (x : Rw) (k : Nat) (hl : x.f4.length < 100000) (hk : x.f4.length < k) (hv : ∀ a ∈ x.f4, a.f1.data.toList.length ≤ 1000000000) (hz : (tagT x.f2 x.f4).length ≤ 1000000000000) :
  ∃ r, write_opened.f k x.f0 x.f1 x.f2 x.f3 x.f4 = some r ∧ r.data.toList = tagT x.f2 x.f4 := by
 unfold tagT at hz ⊢
 simp only [List.length_append, List.length_cons, List.length_nil] at hz
 unfold write_opened.f
 rw [if_pos (by rw [ba_size]; omega)]
 obtain ⟨r, h1, h2⟩ := opened_l0 x.f4 hl hv x.f4.length 0 k ((⟨#[60]⟩ : ByteArray) ++ x.f2) (by omega) (by omega) hk (by rw [ba_data, l60, List.drop_zero]; simp only [List.length_append, List.length_cons, List.length_nil]; omega)
 exact ⟨r, h1, by rw [h2, ba_data, l60, List.drop_zero]⟩
theorem refEnd_l0 (xs : List Rw) (hl : xs.length < 100000000) (i : Nat) (hi : i < xs.length) : ∀ (d j k : Nat), xs.length - j ≤ d → j ≤ xs.length → d < k →
  boltingref04_End.l0 k xs i j = some ((j + spanN (rd_T35 xs i).f0 (xs.drop j) : Nat) : Int) := by
 intro d
 induction d with
 | zero =>
  intro j k hd hj hk
  obtain ⟨k, rfl⟩ : ∃ m, k = m + 1 := ⟨k - 1, by omega⟩
  simp only [boltingref04_End.l0]
  rw [if_neg (by omega), List.drop_of_length_le (by omega), show j = xs.length from by omega]
  rfl
 | succ d ih =>
  intro j k hd hj hk
  by_cases h : j < xs.length
  ·obtain ⟨k, rfl⟩ : ∃ m, k = m + 1 := ⟨k - 1, by omega⟩
   have hdj : rd_T35 xs (j : Int) = xs[j] := by simp [rd_T35, h]
   simp only [boltingref04_End.l0]
   rw [if_pos (by omega), if_pos (by omega), if_pos (by omega), if_pos (by omega), List.drop_eq_getElem_cons h, hdj]
   simp only [spanN]
   by_cases e : xs[j].f0 ≤ (rd_T35 xs i).f0
   ·rw [if_pos e, if_neg (by omega), Nat.add_zero]
   ·rw [if_neg e, if_pos (by omega), wN (by omega), ih (j + 1) k (by omega) (by omega) (by omega)]
    congr 2
    omega
  ·exact ih j k (by omega) hj (by omega)
theorem refEnd_f (xs : List Rw) (hl : xs.length < 100000000) (i k : Nat) (hi : i < xs.length) (hk : xs.length < k) : boltingref04_End.f k xs i = some ((endN xs i : Nat) : Int) := by
 unfold boltingref04_End.f
 obtain ⟨k, rfl⟩ : ∃ m, k = m + 1 := ⟨k - 1, by omega⟩
 rw [if_neg (by omega)]
 simp only [boltingref04_End.j0]
 rw [decide_eq_false (by omega), if_neg (by decide), wN (by omega), refEnd_l0 xs hl i hi (xs.length - (i + 1)) (i + 1) k (by omega) (by omega) (by omega)]
 rfl
end Go.Proofs.YtdnbaliibiginaaDoorH.W8

/- slices.Backward at texts, as a loop over a function meets it. -/
namespace Go.Proofs.YtdnbaliibiginaaDoorH.W8
open Go.RowKit Go.Shelf Go.Proofs Go.Proofs.YtdnbaliibiginaaDoor
attribute [local go_sem] Oper.semAt_some
abbrev IxS := Nat × ByteArray
def backK (xs : List ByteArray) (k : Nat) : List IxS := (List.range k).map (fun m => (xs.length - 1 - m, xs.getD (xs.length - 1 - m) ⟨#[]⟩))
theorem backK_succ (xs : List ByteArray) (k : Nat) : backK xs (k + 1) = backK xs k ++ [(xs.length - 1 - k, xs.getD (xs.length - 1 - k) ⟨#[]⟩)] := by simp [backK, List.range_succ]
theorem backK_length (xs : List ByteArray) (k : Nat) : (backK xs k).length = k := by simp [backK]
def KpB (t : TypeId) (n₀ B : Nat) (v : Value) (W W' : World) : Prop := Below n₀ W W' ∧ (Boxed W B t v → Boxed W' B t v)
theorem kpB_t {t : TypeId} {n₀ B : Nat} {v : Value} {X Y Z : World} (h : KpB t n₀ B v X Y) (k : KpB t n₀ B v Y Z) : KpB t n₀ B v X Z := ⟨h.1.trans k.1, fun e => k.2 (h.2 e)⟩
theorem kpB_b {t : TypeId} {n₀ B : Nat} {v : Value} {w : World} (hn : n₀ ≤ w.heap.size) (hB : B < w.heap.size) (W : World) (l : Nat) (o o' : Obj) (hl : w.heap.size ≤ l) (h : W.heap[l]? = some o) (h1 : o.isCells = false) (h2 : o.isWalk = false) : KpB t n₀ B v W (W.putObj l o') :=
 ⟨belowK_b hn W l o o' hl h h1 h2, fun e => e.kept (grownBy_putObj' W l o') (fun e' => by cases e'; omega)⟩
theorem spotF {w : World} {a : Addr} {v : Value} (h : w.cell? a = some v) : a = ⟨a.block, a.off, none⟩ := by
 obtain ⟨b, o, s⟩ := a
 cases s with
 | none => rfl
 | some s =>
  unfold World.cell? at h
  split at h <;> simp at h
theorem addF (b o n : Nat) : Addr.add ⟨b, o, none⟩ n = ⟨b, o + n, none⟩ := by
 unfold Addr.add
 split <;> simp_all
abbrev Strs (w : World) (A : Option Addr) (xs : List ByteArray) : Prop := Go.Proofs.YtdnbaliibiginaaDoorW.PrintWords.Kd.string.C w A xs.length xs
theorem str_at {w : World} {A : Option Addr} {xs : List ByteArray} (h : Strs w A xs) : (xs = [] ∨ ∃ g o, A = some ⟨g, o, none⟩ ∧ ∀ j, j < xs.length → w.cell? ⟨g, o + j, none⟩ = some (.string (xs.getD j ⟨#[]⟩))) := by
 cases hx : xs with
 | nil => exact .inl rfl
 | cons x t =>
  rw [← hx]
  have hl : 0 < xs.length := by rw [hx]; simp
  obtain ⟨ad, e, hc⟩ := h.2.2 hl
  have key : ∀ j, j < xs.length → w.cell? (ad.add j) = some (.string (xs.getD j ⟨#[]⟩)) := fun j hj => by
   have hg : xs[j]? = some (xs.getD j ⟨#[]⟩) := by rw [List.getD_eq_getElem?_getD, List.getElem?_eq_getElem hj]; rfl
   obtain ⟨c, hcl, hR, hcc⟩ := hc j _ hg
   have hR2 : c = [.string (xs.getD j ⟨#[]⟩)] := hR
   have := hcc 0 (.string (xs.getD j ⟨#[]⟩)) (by rw [hR2]; rfl)
   have hz : j * Go.Proofs.YtdnbaliibiginaaDoorW.PrintWords.Kd.string.sz + 0 = j := by show j * 1 + 0 = j; omega
   rwa [hz] at this
  have h0 := key 0 hl
  have hs := spotF (a := ad) (by simpa [Addr.add] using h0)
  refine .inr ⟨ad.block, ad.off, by rw [e, ← hs], fun j hj => ?_⟩
  have := key j hj
  rw [hs, addF] at this
  exact this
set_option maxHeartbeats 2000000 in
set_option maxRecDepth 100000 in
theorem back1_in (n : Nat) (hn : 1 ≤ n) (l B1 : Nat) (A : Option Addr) (c : Nat) (xs : List ByteArray) (w0 : World) (hr : Strs w0 A xs) (J Jx : List IxS → World → Prop)
  (hY : ∀ pre x W, J pre W → pre.length < xs.length → YieldAt Fence.wide (n - 1) Tryd.prog l #[.int .i64 (x.1 : Nat), .string x.2] W fun e W' =>
   (e = .returned (.bool true) ∧ J (pre ++ [x]) W' ∧ KpB 47 w0.heap.size B1 (.slice A xs.length c) W W') ∨ (e = .returned (.bool false) ∧ Jx (pre ++ [x]) W'))
  (W : World) (hW : Below w0.heap.size w0 W) (b1 : Boxed W B1 47 (.slice A xs.length c)) (h0 : J [] W) :
  CallsIn Fence.wide n Tryd.prog 128 #[.func (.yield l) #[] #[], .pointer (some ⟨B1, 0, none⟩)] W fun e W' => (∃ v, e = .returned v) ∧
   ((∃ ys, ys = backK xs xs.length ∧ J ys W') ∨ (∃ pre, (∃ k, k ≤ xs.length ∧ pre = backK xs k) ∧ Jx pre W')) := by
 have hxl := hr.2.1
 have hat := str_at hr
 refine callsIn_of_wp Tryd.func128 rfl trivial ?_ rfl
 simp only [Tryd.ntmps128, List.size_toArray, List.length_cons, List.length_nil, Nat.reduceAdd, Nat.reduceSub, Array.replicate_succ, Array.replicate_zero, List.push_toArray, List.append_toArray, List.nil_append, List.cons_append]
 have c1 := b1.cell
 gi_wp2
 gi_loopw [3] (fun v wr => ∃ k : Nat, k ≤ xs.length ∧ v = .int .i64 ((xs.length : Int) - 1 - k) ∧ J (backK xs k) wr ∧ Below w0.heap.size w0 wr ∧ Boxed wr B1 47 (.slice A xs.length c)) (fun v _ => (intOf v + 1).toNat)
 case atStart => exact ⟨0, Nat.zero_le _, by simp, h0, hW, b1⟩
 case round =>
  obtain ⟨k, hk, rfl, hJs, hB, hbx⟩ := hrel
  have cb := hbx.cell
  by_cases hlt : k < xs.length
  ·rcases hat with rfl | ⟨g, o, rfl, hcs⟩
   ·simp at hlt
   ·have hj : xs.length - 1 - k < xs.length := by omega
    obtain ⟨fn, tmps, assign, body, hy, hR⟩ := hY _ (xs.length - 1 - k, xs.getD (xs.length - 1 - k) ⟨#[]⟩) wr hJs (by rw [backK_length]; exact hlt)
    have hj2 : (xs.length : Int) - 1 - k = ((xs.length - 1 - k : Nat) : Int) := by omega
    have hcx := (hB.cell (p := ⟨g, o + (xs.length - 1 - k), none⟩) (World.block_lt_of_cell? w0 _ (hcs _ hj))).trans (hcs _ hj)
    have hsucc := Lib.hid (backK_succ xs k)
    clear hcs
    dsimp only at hy
    rw [hj2]
    generalize xs.getD (xs.length - 1 - k) ⟨#[]⟩ = sx at *
    obtain ⟨q, hq⟩ : ∃ q, xs.length - 1 - k = q := ⟨_, rfl⟩
    rw [hq] at hy hcx hR hsucc hj
    rw [hq]
    have hqk : Hid (xs.length - 1 - k = q) := hq
    clear hq hj2
    gi_wp2
    refine hR.mono ?_
    rintro e W3 (⟨rfl, hJ3, hk3⟩ | ⟨rfl, hJx3⟩)
    ·gi_wp2
     go_roundw
     case rel => exact ⟨k + 1, by omega, by have := hqk.out; congr 1; omega, by rw [hsucc.out]; exact hJ3, hB.trans hk3.1, hk3.2 hbx⟩
     case measure => first | (simp [intOf]; done) | (simp [intOf]; omega)
    ·gi_wp2
     refine bodyPost_ret (results_none rfl _ _ _) rfl ?_
     exact ⟨⟨_, rfl⟩, .inr ⟨_, ⟨k + 1, by omega, hsucc.out.symm⟩, hJx3⟩⟩
  ·obtain rfl : k = xs.length := by omega
   gi_wp2
   go_end0
   exact ⟨⟨_, rfl⟩, .inl ⟨_, rfl, hJs⟩⟩
end Go.Proofs.YtdnbaliibiginaaDoorH.W8

/- Contract of build.found: its loop over slices.Backward. Nothing that lay in memory turns. -/
namespace Go.Proofs.YtdnbaliibiginaaDoorH.W8
open Go.RowKit Go.Shelf Go.Proofs Go.Proofs.YtdnbaliibiginaaDoor
attribute [local go_sem] Oper.semAt_some
theorem has_c (A : Option Addr) (c : Nat) (xs : List ByteArray) (x : ByteArray) (w : World) (h : Strs w A xs) :
  Calls Tryd.prog 111 #[.slice A xs.length c, .string x] w fun e w' => e = .returned (.bool (Lib.containsS xs x)) ∧ w' = w := by
 rcases str_at h with rfl | ⟨g, o, rfl, hc⟩
 ·exact Tryd.slices_Contains_string_empty A c x w
 ·have := Tryd.slices_Contains_string g o xs.length c xs x w (Nat.le_refl _) h.2.1 hc
  rwa [List.take_length] at this
set_option maxHeartbeats 1000000 in
theorem back_in (n : Nat) (A : Option Addr) (len c : Nat) (w : World) :
  CallsIn Fence.wide n Tryd.prog 110 #[.slice A len c] w fun e w' => e = .returned (.func (.func 128) #[] #[.pointer (some ⟨w.heap.size, 0, none⟩)]) ∧ w' = w.alloc (.cells #[.slice A len c] 47) := by
 refine callsIn_of_wp Tryd.func110 rfl trivial ?_ rfl
 simp only [Tryd.ntmps110, List.size_toArray, List.length_cons, List.length_nil, Nat.reduceAdd, Nat.reduceSub, Array.replicate_succ, Array.replicate_zero, List.push_toArray, List.append_toArray, List.nil_append, List.cons_append]
 gi_wp2
 go_ret
 exact ⟨rfl, rfl⟩
theorem back_stops (n : Nat) (hn : 1 ≤ n) (B1 : Nat) (A : Option Addr) (c : Nat) (xs : List ByteArray) (w0 w : World) (hr : Strs w0 A xs) (hB : Below w0.heap.size w0 w) (b1 : Boxed w B1 47 (.slice A xs.length c)) :
  SeqStopsK Fence.wide n Tryd.prog 128 #[.pointer (some ⟨B1, 0, none⟩)] (fun x : IxS => #[Value.int .i64 (x.1 : Nat), .string x.2]) (KpB 47 w0.heap.size B1 (.slice A xs.length c)) (fun ys => ys = backK xs xs.length) (fun pre => ∃ k, k ≤ xs.length ∧ pre = backK xs k) xs.length w := fun l J Jx W hW _ _ hY h0 =>
 back1_in n hn l B1 A c xs w0 hr J Jx hY W (hB.trans (hW.mono hB.size)) ((hW.block B1 b1.lt).trans b1) h0
def foundK (xs some_ walls : List ByteArray) : Nat → Int
 | 0 => -1
 | k + 1 => if Lib.containsS some_ (xs.getD k ⟨#[]⟩) then (k : Int) else if Lib.containsS walls (xs.getD k ⟨#[]⟩) then -1 else foundK xs some_ walls k
def freeB (some_ walls : List ByteArray) (pre : List IxS) : Prop := ∀ p ∈ pre, Lib.containsS some_ p.2 = false ∧ Lib.containsS walls p.2 = false
theorem found_free (xs some_ walls : List ByteArray) : ∀ k, k ≤ xs.length → freeB some_ walls (backK xs k) → foundK xs some_ walls xs.length = foundK xs some_ walls (xs.length - k)
 | 0, _, _ => by rw [Nat.sub_zero]
 | k + 1, hk, h => by
  rw [backK_succ] at h
  have h1 := h (xs.length - 1 - k, xs.getD (xs.length - 1 - k) ⟨#[]⟩) (by simp)
  have ih := found_free xs some_ walls k (by omega) (fun p hp => h p (List.mem_append_left _ hp))
  obtain ⟨m, hm⟩ : ∃ m, xs.length - k = m + 1 := ⟨xs.length - k - 1, by omega⟩
  have hm2 : xs.length - (k + 1) = m := by omega
  have hm3 : xs.length - 1 - k = m := by omega
  rw [hm3] at h1
  rw [ih, hm, hm2]
  simp only [foundK, h1.1, h1.2]
  rfl
theorem found_stop (xs some_ walls : List ByteArray) (k : Nat) (hk : k ≤ xs.length) (pre' : List IxS) (x : IxS) (res : Int) (h : backK xs k = pre' ++ [x]) (hf : freeB some_ walls pre')
  (hc : (Lib.containsS some_ x.2 = true ∧ res = x.1) ∨ (Lib.containsS some_ x.2 = false ∧ Lib.containsS walls x.2 = true ∧ res = -1)) : foundK xs some_ walls xs.length = res := by
 cases k with
 | zero => simp [backK] at h
 | succ m =>
  rw [backK_succ] at h
  obtain ⟨h1, h2⟩ := List.append_inj' h rfl
  have h3 := (List.cons.inj h2).1
  subst h1
  subst h3
  rw [found_free xs some_ walls m (by omega) hf]
  obtain ⟨q, hq⟩ : ∃ q, xs.length - m = q + 1 := ⟨xs.length - m - 1, by omega⟩
  have hq2 : xs.length - 1 - m = q := by omega
  rw [hq2] at hc
  rw [hq]
  rcases hc with ⟨c1, rfl⟩ | ⟨c1, c2, rfl⟩
  ·simp only [foundK, c1]
   rfl
  ·simp only [foundK, c1, c2]
   rfl
theorem boxed_ne {X : World} {B q : Nat} {t : TypeId} {v : Value} {row : Option Nat} (h : Boxed X B t v) (hr : ∀ r, row = some r → q ≤ r ∧ ∃ o : Obj, X.heap[r]? = some o ∧ o.isCells = false) : some B ≠ row := fun e => by
 obtain ⟨_, o, ho, hc⟩ := hr B e.symm
 rw [show X.heap[B]? = _ from h] at ho
 cases ho
 cases hc
def fI (w : World) (V1 V2 : Value) (ys zs : List ByteArray) (pre : List IxS) (W : World) : Prop :=
 (Boxed W w.heap.size 47 V1 ∧ Boxed W (w.heap.size + 1) 47 V2 ∧ Boxed W (w.heap.size + 1 + 1) 3 (.int .i64 0) ∧ freeB ys zs pre) ∧ Below w.heap.size w W
def fX (w : World) (ys zs : List ByteArray) (c : Code) (pre : List IxS) (W : World) : Prop :=
 (c = .ret ∧ ∃ (res : Int) (pre' : List IxS) (x : IxS), Boxed W (w.heap.size + 1 + 1) 3 (.int .i64 res) ∧ pre = pre' ++ [x] ∧ freeB ys zs pre' ∧ ((Lib.containsS ys x.2 = true ∧ res = x.1) ∨ (Lib.containsS ys x.2 = false ∧ Lib.containsS zs x.2 = true ∧ res = -1))) ∧ Below w.heap.size w W
theorem fI_own (w : World) (B : Nat) (hB : w.heap.size ≤ B) (V1 V2 : Value) (ys zs : List ByteArray) : OwnFrom B (fI w V1 V2 ys zs) :=
 OwnFrom.and (fun s X Y row h hg hr => ⟨h.1.kept hg (boxed_ne h.1 hr), h.2.1.kept hg (boxed_ne h.2.1 hr), h.2.2.1.kept hg (boxed_ne h.2.2.1 hr), h.2.2.2⟩) (ownFrom_below (Nat.le_refl _) hB)
theorem fX_own (w : World) (B : Nat) (hB : w.heap.size ≤ B) (ys zs : List ByteArray) (c : Code) : OwnFrom B (fX w ys zs c) :=
 OwnFrom.and (fun s X Y row h hg hr => by
  obtain ⟨hc, res, pre', x, hb, r⟩ := h
  exact ⟨hc, res, pre', x, hb.kept hg (boxed_ne hb hr), r⟩) (ownFrom_below (Nat.le_refl _) hB)
set_option maxHeartbeats 2000000 in
set_option maxRecDepth 100000 in
theorem found_in (n : Nat) (hn : 3 ≤ n) (A0 A1 A2 : Option Addr) (c0 c1 c2 : Nat) (xs ys zs : List ByteArray) (w : World) (h0 : Strs w A0 xs) (h1s : Strs w A1 ys) (h2s : Strs w A2 zs) :
  CallsIn Fence.wide n Tryd.prog 87 #[.slice A0 xs.length c0, .slice A1 ys.length c1, .slice A2 zs.length c2] w fun e w' => e = .returned (.int .i64 (foundK xs ys zs xs.length)) ∧ Below w.heap.size w w' := by
 have h1 : 1 ≤ n := by omega
 have hfn : Fence.wide.fn 110 := trivial
 have hfn2 : Fence.wide.fn 111 := trivial
 refine callsIn_of_wp_marks Tryd.func87 rfl trivial ?_ rfl
 simp only [Tryd.ntmps87, List.size_toArray, List.length_cons, List.length_nil, Nat.reduceAdd, Nat.reduceSub, Array.replicate_succ, Array.replicate_zero, List.push_toArray, List.append_toArray, List.nil_append, List.cons_append]
 gi_wp2_with (gi_at_call 110; refine (back_in _ _ _ _ _).mono ?_; rintro e w' ⟨rfl, rfl⟩)
 have HB0 : Below w.heap.size w ((((w.alloc (.cells #[.slice A1 ys.length c1] 47)).alloc (.cells #[.slice A2 zs.length c2] 47)).alloc (.cells #[.int .i64 0] 3)).alloc (.cells #[.slice A0 xs.length c0] 47)) := ((((Below.refl _ w).alloc (Nat.le_refl _) _).alloc (by simp) _).alloc (by simp; omega) _).alloc (by simp; omega) _
 have b1 := Boxed.new w 47 (.slice A1 ys.length c1)
 have b2 : Boxed ((w.alloc (.cells #[.slice A1 ys.length c1] 47)).alloc (.cells #[.slice A2 zs.length c2] 47)) (w.heap.size + 1) 47 (.slice A2 zs.length c2) := by
  have h := Boxed.new (w.alloc (.cells #[.slice A1 ys.length c1] 47)) 47 (.slice A2 zs.length c2)
  rw [World.size_alloc] at h; exact h
 have b3 : Boxed (((w.alloc (.cells #[.slice A1 ys.length c1] 47)).alloc (.cells #[.slice A2 zs.length c2] 47)).alloc (.cells #[.int .i64 0] 3)) (w.heap.size + 1 + 1) 3 (.int .i64 0) := by
  have h := Boxed.new ((w.alloc (.cells #[.slice A1 ys.length c1] 47)).alloc (.cells #[.slice A2 zs.length c2] 47)) 3 (.int .i64 0)
  rw [World.size_alloc, World.size_alloc] at h; exact h
 have b4 : Boxed ((((w.alloc (.cells #[.slice A1 ys.length c1] 47)).alloc (.cells #[.slice A2 zs.length c2] 47)).alloc (.cells #[.int .i64 0] 3)).alloc (.cells #[.slice A0 xs.length c0] 47)) (w.heap.size + 1 + 1 + 1) 47 (.slice A0 xs.length c0) := by
  have h := Boxed.new (((w.alloc (.cells #[.slice A1 ys.length c1] 47)).alloc (.cells #[.slice A2 zs.length c2] 47)).alloc (.cells #[.int .i64 0] 3)) 47 (.slice A0 xs.length c0)
  rw [World.size_alloc, World.size_alloc, World.size_alloc] at h; exact h
 refine wpIn_rangeFunc_ownG rfl h1 (gf := 128) (lb := #[.pointer (some ⟨w.heap.size + 1 + 1 + 1, 0, none⟩)]) rfl trivial (enters_of Tryd.func128 (by kernel_rfl) rfl)
  (back_stops (n - 1) (by omega) (w.heap.size + 1 + 1 + 1) A0 c0 xs w _ h0 HB0 b4) (fun h k => kpB_t h k) (kpB_b HB0.size b4.lt) (Below.refl _ _) (fun _ => rfl)
  (fI w (.slice A1 ys.length c1) (.slice A2 zs.length c2) ys zs) (fX w ys zs) (fI_own w _ HB0.size _ _ ys zs) (fX_own w _ HB0.size ys zs)
  ⟨⟨((b1.alloc _).alloc _).alloc _, (b2.alloc _).alloc _, b3.alloc _, fun p hp => by cases hp⟩, HB0⟩
  ?a1 ?assign ?body ?done ?stop
 case assign =>
  intro l x W K hK
  gi_wp2
  exact hK
 case body =>
  rintro l pre x W ⟨⟨hb1, hb2, hb3, hfree⟩, hB⟩ hlt
  have k1 := hb1.cell
  have k2 := hb2.cell
  have k3 := hb3.cell
  have f3 := hb3.frozen
  have hfree2 := Lib.hid hfree
  clear hfree
  have hc1 := Lib.hid (callsIn_wide (n := n - 1 - 1 - 1).2 (has_c A1 c1 ys x.2 W (Go.Proofs.YtdnbaliibiginaaDoorW.PrintWords.Kd.C_below h1s hB)))
  have hc2 := Lib.hid (callsIn_wide (n := n - 1 - 1 - 1).2 (has_c A2 c2 zs x.2 W (Go.Proofs.YtdnbaliibiginaaDoorW.PrintWords.Kd.C_below h2s hB)))
  obtain ⟨xi, xs'⟩ := x
  dsimp only at hc1 hc2
  have hd : 1 ≤ n - 1 - 1 := by omega
  have hfd : (Fence.wide.inRound l).fn 111 := trivial
  cases e1 : Lib.containsS ys xs'
  ·rw [e1] at hc1
   cases e2 : Lib.containsS zs xs'
   ·rw [e2] at hc2
    gi_wp2_with (first | (gi_at_call 111; refine (CallsIn.inRound l hc1.out).mono ?_; rintro e w1 ⟨rfl, hw1⟩; rw [hw1]; clear hc1) | (gi_at_call 111; refine (CallsIn.inRound l hc2.out).mono ?_; rintro e w2 ⟨rfl, hw2⟩; rw [hw2]; clear hc2))
    exact ⟨KeepsFrom.refl _ _, ⟨Below.refl _ _, fun h => h⟩, ⟨hb1, hb2, hb3, fun p hp => by
     rcases List.mem_append.1 hp with h | h
     ·exact hfree2.out p h
     ·obtain rfl := List.mem_singleton.1 h
      exact ⟨e1, e2⟩⟩, hB⟩
   ·rw [e2] at hc2
    gi_wp2_with (first | (gi_at_call 111; refine (CallsIn.inRound l hc1.out).mono ?_; rintro e w1 ⟨rfl, hw1⟩; rw [hw1]; clear hc1) | (gi_at_call 111; refine (CallsIn.inRound l hc2.out).mono ?_; rintro e w2 ⟨rfl, hw2⟩; rw [hw2]; clear hc2))
    exact ⟨(KeepsOthers.setCell _ _ _).from _, ⟨rfl, -1, pre, (xi, xs'), hb3.set _, rfl, hfree2.out, .inr ⟨e1, e2, rfl⟩⟩, hB.setCell (p := ⟨w.heap.size + 1 + 1, 0, none⟩) (by show w.heap.size ≤ w.heap.size + 1 + 1; omega) _⟩
  ·rw [e1] at hc1
   gi_wp2_with (first | (gi_at_call 111; refine (CallsIn.inRound l hc1.out).mono ?_; rintro e w1 ⟨rfl, hw1⟩; rw [hw1]; clear hc1) | (gi_at_call 111; refine (CallsIn.inRound l hc2.out).mono ?_; rintro e w2 ⟨rfl, hw2⟩; rw [hw2]; clear hc2))
   exact ⟨(KeepsOthers.setCell _ _ _).from _, ⟨rfl, xi, pre, (xi, xs'), hb3.set _, rfl, hfree2.out, .inl ⟨e1, rfl⟩⟩, hB.setCell (p := ⟨w.heap.size + 1 + 1, 0, none⟩) (by show w.heap.size ≤ w.heap.size + 1 + 1; omega) _⟩
 case done =>
  rintro D ps W hD rfl ⟨⟨hb1, hb2, hb3, hfree⟩, hB⟩ hK
  have k3 := hb3.cell
  have f3 := hb3.frozen
  have hres : foundK xs ys zs xs.length = -1 := by
   rw [found_free xs ys zs xs.length (Nat.le_refl _) hfree, Nat.sub_self]
   rfl
  have hres2 := Lib.hid hres
  gi_wp2
  have hK2 := (KeepsOthers.setCell W ⟨w.heap.size + 1 + 1, 0, none⟩ (.int .i64 (-1))).same D _ hK rfl
  refine ⟨by simp, .inl ⟨_, _, rfl, run_takeDeferred hK2, ?_⟩⟩
  have hb4 := (hb3.set (.int .i64 (-1))).kept (grownBy_putObj' _ D (.deferred none)) (fun e => by
   have h := hb3
   rw [show w.heap.size + 1 + 1 = D from by simpa using e] at h
   rw [show W.heap[D]? = _ from h] at hK
   cases hK)
  have hc4 := hb4.cell
  have hui := Tryd.underlying3
  rw [hres2.out]
  refine ⟨.int .i64 (-1), ?_, rfl, (hB.setCell (p := ⟨w.heap.size + 1 + 1, 0, none⟩) (by show w.heap.size ≤ w.heap.size + 1 + 1; omega) _).trans (belowK_b (w := w) (Nat.le_refl _) _ D _ _ (Nat.le_trans HB0.size hD) hK2 rfl rfl)⟩
  simp [results, asAddr, loadVar, hc4, hui, Sem.run_bind, Result.andThen, go_sem]
 case stop =>
  rintro D c pre W hD ⟨k, hk, rfl⟩ ⟨⟨rfl, res, pre', x, hb3, hpre, hfree, hcase⟩, hB⟩ hK
  have hres : foundK xs ys zs xs.length = res := found_stop xs ys zs k hk pre' x res hpre hfree hcase
  have hres2 := Lib.hid hres
  clear hres hcase hfree hpre
  gi_wp2
  refine ⟨by simp, .inl ⟨_, _, rfl, run_takeDeferred hK, ?_⟩⟩
  have hb4 := hb3.kept (grownBy_putObj' _ D (.deferred none)) (fun e => by
   have h := hb3
   rw [show w.heap.size + 1 + 1 = D from by simpa using e] at h
   rw [show W.heap[D]? = _ from h] at hK
   cases hK)
  have hc4 := hb4.cell
  have hui := Tryd.underlying3
  rw [hres2.out]
  refine ⟨.int .i64 res, ?_, rfl, hB.trans (belowK_b (w := w) (Nat.le_refl _) _ D _ _ (Nat.le_trans HB0.size hD) hK rfl rfl)⟩
  simp [results, asAddr, loadVar, hc4, hui, Sem.run_bind, Result.andThen, go_sem]
def build_found.f (l0 l1 l2 : List ByteArray) : Option Int := some (foundK l0 l1 l2 l0.length)
theorem build_found.calls (A0 : Option Addr) (c0 : Nat) (l0 : List ByteArray) (A1 : Option Addr) (c1 : Nat) (l1 : List ByteArray) (A2 : Option Addr) (c2 : Nat) (l2 : List ByteArray) (r : Int) (w : World) (hr0 : Go.Proofs.YtdnbaliibiginaaDoorW.PrintWords.Kd.string.C w A0 l0.length l0) (hc0 : l0.length ≤ c0) (hr1 : Go.Proofs.YtdnbaliibiginaaDoorW.PrintWords.Kd.string.C w A1 l1.length l1) (hc1 : l1.length ≤ c1) (hr2 : Go.Proofs.YtdnbaliibiginaaDoorW.PrintWords.Kd.string.C w A2 l2.length l2) (hc2 : l2.length ≤ c2) (h : build_found.f l0 l1 l2 = some r) :
  Calls Tryd.prog 87 #[.slice A0 l0.length c0, .slice A1 l1.length c1, .slice A2 l2.length c2] w fun e w' => e = .returned (.int .i64 r) ∧ Below w.heap.size w w' := by
 obtain rfl := Option.some.inj h
 exact (callsIn_wide (n := 3)).1 (found_in 3 (Nat.le_refl _) A0 A1 A2 c0 c1 c2 l0 l1 l2 w hr0 hr1 hr2)
end Go.Proofs.YtdnbaliibiginaaDoorH.W8

/- Words and walks used below. -/
namespace Go.Proofs.YtdnbaliibiginaaDoorH.W8
open Go.RowKit Go.Proofs.YtdnbaliibiginaaDoorW.PrintWords Go.Proofs.YtdnbaliibiginaaDoorW.PrintLast Go.Proofs.YtdnbaliibiginaaDoorW.PrintMore
attribute [local go_sem] max2_int min2_int max_two min_two max_three min_three max_four min_four   -- for this text's walks alone
def build_paragraph.f (a0 : ByteArray) : Option (Bool) := if a0.toList = ([108, 105] : List UInt8) then (some true) else (if a0.toList = ([100, 100] : List UInt8) then (some true) else (some (a0.toList == ([100, 116] : List UInt8))))
set_option maxHeartbeats 8000000 in
set_option maxRecDepth 100000 in
theorem build_paragraph.calls (a0 : ByteArray) (r : Bool) (w : World) (h : build_paragraph.f a0 = some r) :
  Calls Tryd.prog 86 #[.string a0] w fun e w' => e = .returned (.bool r) ∧ Drawn0 w w' := by
 have H : (if a0.toList = ([108, 105] : List UInt8) then (some true) else (if a0.toList = ([100, 100] : List UInt8) then (some true) else (some (a0.toList == ([100, 116] : List UInt8))))) = some r := h
 clear h
 by_cases c2 : a0.toList = ([108, 105] : List UInt8)
 ·rw [if_pos c2] at H
  have c2b0 : (a0.toList == ([108, 105] : List UInt8)) = true := beq_iff_eq.mpr c2
  have c2b1 : (a0.toList != ([108, 105] : List UInt8)) = false := bne_eq_false_iff_eq.mpr c2
  clear c2
  obtain rfl := Option.some.inj H
  go_enter Tryd.func86, Tryd.ntmps86
  go_wp2
  go_ret
  exact ⟨by first | rfl | (simp; done) | (simp [*]; done) | (simp; generalize ByteArray.toList _ = l_; cases l_ <;> rfl), by repeat (first | exact Drawn0.refl _ | apply Drawn0.step)⟩
 ·rw [if_neg c2] at H
  have c2b0 : (a0.toList == ([108, 105] : List UInt8)) = false := beq_eq_false_iff_ne.mpr c2
  have c2b1 : (a0.toList != ([108, 105] : List UInt8)) = true := bne_iff_ne.mpr c2
  by_cases c3 : a0.toList = ([100, 100] : List UInt8)
  ·rw [if_pos c3] at H
   have c3b0 : (a0.toList == ([100, 100] : List UInt8)) = true := beq_iff_eq.mpr c3
   have c3b1 : (a0.toList != ([100, 100] : List UInt8)) = false := bne_eq_false_iff_eq.mpr c3
   clear c3
   obtain rfl := Option.some.inj H
   go_enter Tryd.func86, Tryd.ntmps86
   go_wp2
   go_ret
   exact ⟨by first | rfl | (simp; done) | (simp [*]; done) | (simp; generalize ByteArray.toList _ = l_; cases l_ <;> rfl), by repeat (first | exact Drawn0.refl _ | apply Drawn0.step)⟩
  ·rw [if_neg c3] at H
   have c3b0 : (a0.toList == ([100, 100] : List UInt8)) = false := beq_eq_false_iff_ne.mpr c3
   have c3b1 : (a0.toList != ([100, 100] : List UInt8)) = true := bne_iff_ne.mpr c3
   obtain rfl := Option.some.inj H
   go_enter Tryd.func86, Tryd.ntmps86
   go_wp2
   go_ret
   exact ⟨by first | rfl | (simp; done) | (simp [*]; done) | (simp; generalize ByteArray.toList _ = l_; cases l_ <;> rfl), by repeat (first | exact Drawn0.refl _ | apply Drawn0.step)⟩
end Go.Proofs.YtdnbaliibiginaaDoorH.W8

/- Words and walks used below. -/
namespace Go.Proofs.YtdnbaliibiginaaDoorH.W8
open Go.RowKit Go.Proofs.YtdnbaliibiginaaDoorW.PrintWords Go.Proofs.YtdnbaliibiginaaDoorW.PrintLast Go.Proofs.YtdnbaliibiginaaDoorW.PrintMore
attribute [local go_sem] max2_int min2_int max_two min_two max_three min_three max_four min_four   -- for this text's walks alone
def names_table.f (k : Nat) (a0 : ByteArray) : Option (Bool) := (names_among.f k a0 (([(⟨#[116, 114]⟩ : ByteArray), (⟨#[116, 100]⟩ : ByteArray), (⟨#[116, 104]⟩ : ByteArray), (⟨#[116, 98, 111, 100, 121]⟩ : ByteArray), (⟨#[116, 102, 111, 111, 116]⟩ : ByteArray), (⟨#[116, 104, 101, 97, 100]⟩ : ByteArray)] : List ByteArray))).bind fun t184 => (some t184)
set_option maxHeartbeats 8000000 in
set_option maxRecDepth 100000 in
theorem names_table.calls (k : Nat) (a0 : ByteArray) (r : Bool) (w : World) (h : names_table.f k a0 = some r) :
  Calls Tryd.prog 112 #[.string a0] w fun e w' => e = .returned (.bool r) ∧ Below w.heap.size w w' := by
 have HB := Aside0.mk (Below.refl w.heap.size w)
 have H : ((names_among.f k a0 (([(⟨#[116, 114]⟩ : ByteArray), (⟨#[116, 100]⟩ : ByteArray), (⟨#[116, 104]⟩ : ByteArray), (⟨#[116, 98, 111, 100, 121]⟩ : ByteArray), (⟨#[116, 102, 111, 111, 116]⟩ : ByteArray), (⟨#[116, 104, 101, 97, 100]⟩ : ByteArray)] : List ByteArray))).bind fun t184 => (some t184)) = some r := h
 clear h
 obtain ⟨y181, hy181⟩ : ∃ y_ : List ByteArray, y_ = (([(⟨#[116, 114]⟩ : ByteArray), (⟨#[116, 100]⟩ : ByteArray), (⟨#[116, 104]⟩ : ByteArray), (⟨#[116, 98, 111, 100, 121]⟩ : ByteArray), (⟨#[116, 102, 111, 111, 116]⟩ : ByteArray), (⟨#[116, 104, 101, 97, 100]⟩ : ByteArray)] : List ByteArray)) := ⟨_, rfl⟩
 replace H : ((names_among.f k a0 y181).bind fun t184 => (some t184)) = some r := by first | (rw [hy181]; with_reducible exact H) | (have H2_ := (Option.bind_some _ _).symm.trans H; rw [hy181]; with_reducible exact H2_) | (have H2_ := (Option.bind_some _ _).symm.trans H; with_reducible exact H2_) | with_reducible exact H | (rw [hy181]; exact H) | exact H
 have Ny181 := Aside0.mk hy181
 clear hy181
 replace H := Option.bind_eq_some_iff.mp H
 obtain ⟨t184, A20, H⟩ := H
 replace H : (some t184) = some r := H
 have A2 := Aside0.mk A20
 clear A20
 obtain rfl := Option.some.inj H
 go_enter Tryd.func112, Tryd.ntmps112
 go_wp2_with (first | ((with_reducible refine gate_dst (N := 4) rfl ?_); refine Kd.R_lit Kd.string _ 9 ?hg (N := 4) ?hd (xs := ([(⟨#[116, 114]⟩ : ByteArray), (⟨#[116, 100]⟩ : ByteArray), (⟨#[116, 104]⟩ : ByteArray), (⟨#[116, 98, 111, 100, 121]⟩ : ByteArray), (⟨#[116, 102, 111, 111, 116]⟩ : ByteArray), (⟨#[116, 104, 101, 97, 100]⟩ : ByteArray)] : List ByteArray)) (inner := [.string (⟨#[116, 114]⟩ : ByteArray), .string (⟨#[116, 100]⟩ : ByteArray), .string (⟨#[116, 104]⟩ : ByteArray), .string (⟨#[116, 98, 111, 100, 121]⟩ : ByteArray), .string (⟨#[116, 102, 111, 111, 116]⟩ : ByteArray), .string (⟨#[116, 104, 101, 97, 100]⟩ : ByteArray)]) (ok := fun _ => True) (okp := fun _ => True) ?hr ?hp (fun _ hk => hk) trivial (Below.refl _ _) (Nat.le_refl _) (by simp) ?_; (case hd => rfl); (case hg => rfl); (case hr => first | (go_simp; done) | (go_simp; rfl)); (case hp => exact (Reps.one (show Kd.M Kd.string _ _ _ (⟨#[116, 114]⟩ : ByteArray) [.string (⟨#[116, 114]⟩ : ByteArray)] from rfl) (Reps.one (show Kd.M Kd.string _ _ _ (⟨#[116, 100]⟩ : ByteArray) [.string (⟨#[116, 100]⟩ : ByteArray)] from rfl) (Reps.one (show Kd.M Kd.string _ _ _ (⟨#[116, 104]⟩ : ByteArray) [.string (⟨#[116, 104]⟩ : ByteArray)] from rfl) (Reps.one (show Kd.M Kd.string _ _ _ (⟨#[116, 98, 111, 100, 121]⟩ : ByteArray) [.string (⟨#[116, 98, 111, 100, 121]⟩ : ByteArray)] from rfl) (Reps.one (show Kd.M Kd.string _ _ _ (⟨#[116, 102, 111, 111, 116]⟩ : ByteArray) [.string (⟨#[116, 102, 111, 111, 116]⟩ : ByteArray)] from rfl) (Reps.one (show Kd.M Kd.string _ _ _ (⟨#[116, 104, 101, 97, 100]⟩ : ByteArray) [.string (⟨#[116, 104, 101, 97, 100]⟩ : ByteArray)] from rfl) (Reps.none _ _)))))))); intro v182 w3 ho4 hb hg_ hnew_; clear hg_ hnew_; (first | rw [← Ny181.out] at ho4 | (simp only [Int.reduceToNat] at ho4; rw [← Ny181.out] at ho4)); have n0_ := Aside0.mk (Kd.R_lower ho4 (below_size bz)); have n1_ := Aside0.mk (below_step bz hb); clear HB; have HO183 := n0_; have HB := n1_; clear n0_ n1_; clear hb ho4; obtain ⟨Ao5, co5, eo5⟩ := Kd.R_slice HO183.out; subst eo5) | ((with_reducible refine gate_callee (f := 52) rfl ?_); refine goesL_ (some 5) rfl rfl Tryd.func52 (by kernel_rfl) rfl #[.string a0, .slice Ao5 y181.length co5] rfl (by (try simp only [List.map_toArray, List.map_cons, List.map_nil]); first | done | rfl | (simp only [List.length_drop, List.length_take]; rfl)) ?_; (with_reducible refine (names_among.calls k a0 _ _ y181 t184 _ ?side1 ?side2 A2.out).mono ?_); (case side1 => exact cz (Kd.R_reads' HO183.out).2.2); (case side2 => exact (Kd.R_reads' HO183.out).2.1); rintro e w' ⟨rfl, ⟨nd, rfl⟩⟩; refine ⟨_, rfl, ?_⟩))
 go_ret
 exact ⟨by first | rfl | (simp [errW_none, errW_some] <;> rfl) | (simp [*, errW_none, errW_some] <;> rfl), bz⟩
end Go.Proofs.YtdnbaliibiginaaDoorH.W8
