/- Lemmas and walks, part 11: QE7B, QE7C, QR8F, QE8F, QE7D. -/
import Derived.Deep.RegionHeld3
import Derived.Test.YtkcmghlhpbepcaaGreatDoorB710
import Derived.Test.YtkcmghlhpbepcaaGreatDoorB76
import Derived.RangeFuncNested
import Derived.RangeFuncBound
import Derived.RangeFuncCalls
import Derived.RangeFuncLeaves
import Derived.RangeFuncBox
import Derived.Shelf.Abstract
import Derived.Shelf.RegionOpen
import Derived.WalkKit
import Derived.OwnWalkIn
import Derived.TacticsInMore
import Derived.LoopNIn
import Derived.LoopIn
import Derived.Test.YtkcmghlhpbepcaaGreatDoorB79
import Derived.Test.YtkcmghlhpbepcaaGreatDoorB71
set_option linter.unusedVariables false
set_option linter.unusedSimpArgs false

/- The tree builder's state, and what lay, closes, text, once, start and end make of it. -/
namespace Go.Proofs.YtkcmghlhpbepcaaGreatDoorH.W7
open Go.RowKit Go.Proofs Go.Proofs.YtkcmghlhpbepcaaGreatDoor Go.Proofs.YtkcmghlhpbepcaaGreatDoorW.PrintWords Go.Proofs.YtkcmghlhpbepcaaGreatDoorW.PrintLast
theorem drew_alloc7 (w : World) (o : Obj) : (w.alloc o).drew = w.drew.alloc o := rfl
structure Bd (w0 : World) (B : Nat) (op : List ByteArray) (out : List Rw) (big : Bool) (W : World) : Prop where
 below : Below w0.heap.size w0 W
 base : w0.heap.size ≤ B
 ex : ∃ vo vr, W.heap[B]? = some (.cells #[vo, vr, .bool big] 73 (0, 0)) ∧ Kd.string.R 9 W w0.heap.size (fun _ => True) vo op ∧ k34.R 34 W w0.heap.size (fun _ => True) vr out
theorem Bd.step {w0 W W' : World} {B : Nat} {op : List ByteArray} {out : List Rw} {big : Bool} (h : Bd w0 B op out big W) (hb : Below W.heap.size W W') : Bd w0 B op out big W' := by
 obtain ⟨vo, vr, h1, h2, h3⟩ := h.ex
 exact ⟨h.below.trans (hb.mono h.below.size), h.base, vo, vr, heap_below h1 hb, Kd.R_below h2 hb, Kd.R_below h3 hb⟩
theorem three_facts {w : World} {b : Nat} {v0 v1 v2 : Value} {t : TypeId} (h : w.heap[b]? = some (.cells #[v0, v1, v2] t (0, 0))) :
 w.cell? ⟨b, 0, none⟩ = some v0 ∧ w.cell? ⟨b, 1, none⟩ = some v1 ∧ w.cell? ⟨b, 2, none⟩ = some v2 ∧ ∀ j, w.frozen? ⟨b, j, none⟩ = false :=
 ⟨(blk_cell h 0).trans rfl, (blk_cell h 1).trans rfl, (blk_cell h 2).trans rfl, fun j => blk_frozen h j⟩
theorem Bd.bigger {w0 W : World} {B : Nat} {op : List ByteArray} {out : List Rw} {big : Bool} (h : Bd w0 B op out big W) : Bd w0 B op out true (W.setCell ⟨B, 2, none⟩ (.bool true)) := by
 obtain ⟨vo, vr, h1, h2, h3⟩ := h.ex
 exact ⟨h.below.setCell (p := ⟨B, 2, none⟩) h.base _, h.base, vo, vr, blk_put h1 2 _ rfl, Kd.R_set h2 h1 (by decide) 2 _, Kd.R_set h3 h1 (by decide) 2 _⟩
def KeptB (B : Nat) (W W' : World) : Prop := ∀ k o, W.heap[k]? = some o → k ≠ B → (∀ cs, o ≠ .cells cs 9 (0, 0)) → (∀ cs, o ≠ .cells cs 34 (0, 0)) → W'.heap[k]? = some o
theorem KeptB.refl (B : Nat) (W : World) : KeptB B W W := fun _ _ h _ _ _ => h
theorem KeptB.trans {B : Nat} {W W1 W2 : World} (h : KeptB B W W1) (k : KeptB B W1 W2) : KeptB B W W2 := fun j o h0 h1 h2 h3 => k j o (h j o h0 h1 h2 h3) h1 h2 h3
theorem KeptB.below {B : Nat} {W W1 W2 : World} (h : KeptB B W W1) (hb : Below W1.heap.size W1 W2) : KeptB B W W2 := fun j o h0 h1 h2 h3 => heap_below (h j o h0 h1 h2 h3) hb
theorem KeptB.set {B : Nat} {W W1 : World} (h : KeptB B W W1) (j : Nat) (v : Value) : KeptB B W (W1.setCell ⟨B, j, none⟩ v) := fun k o h0 h1 h2 h3 => (Below.heap_setCell W1 ⟨B, j, none⟩ v k h1).trans (h k o h0 h1 h2 h3)
theorem KeptB.grown {B : Nat} {W W1 W2 : World} {v : Value} (h : KeptB B W W1) (hty : ∀ k, v.ownBlock = some k → ∃ cells, W1.heap[k]? = some (.cells cells 34 (0, 0)) ∨ W1.heap[k]? = some (.cells cells 9 (0, 0))) (hg : W1.grownBy W2 v.ownBlock) : KeptB B W W2 := fun k o h0 h1 h2 h3 => by
 have a := h k o h0 h1 h2 h3
 refine blk_grown a hg (fun e => ?_)
 obtain ⟨cells, hc⟩ := hty k e.symm
 rcases hc with hc | hc
 ·exact h3 cells (Option.some.inj (a.symm.trans hc))
 ·exact h2 cells (Option.some.inj (a.symm.trans hc))
def layF (op : List ByteArray) (out : List Rw) (big : Bool) (x : Rw) : List Rw × Bool := if 4096 ≤ out.length ∨ 60 ≤ op.length then (out, true) else (out ++ [⟨op.length, x.f1, x.f2, x.f3, x.f4⟩], big)
set_option maxHeartbeats 3200000 in
set_option maxRecDepth 100000 in
theorem lay_c (w0 : World) (B : Nat) (op : List ByteArray) (out : List Rw) (big : Bool) (x0 x1 : Int) (xn xt : ByteArray) (va : Value) (xa : List S36) (W : World) (h : Bd w0 B op out big W) (hA : k36.R 36 W w0.heap.size (fun _ => True) va xa) (hl : out.length ≤ 100000) (ho : op.length ≤ 100000) :
 Calls Tryz.prog 68 #[.pointer (some ⟨B, 0, none⟩), .agg #[.int .i64 x0, .int .i64 x1, .string xn, .string xt, va]] W fun e W' => e = .returned (.tuple #[]) ∧
  Bd w0 B op (layF op out big ⟨x0, x1, xn, xt, xa⟩).1 (layF op out big ⟨x0, x1, xn, xt, xa⟩).2 W' ∧ Below w0.heap.size W W' ∧ KeptB B W W' := by
 obtain ⟨vo, vr, h1, h2, h3⟩ := h.ex
 obtain ⟨Ao, co, rfl⟩ := Kd.R_slice h2
 obtain ⟨Ar, cr, rfl⟩ := Kd.R_slice h3
 obtain ⟨Aa, ca, rfl⟩ := Kd.R_slice hA
 have hBlt := blk_lt h1
 obtain ⟨c0, c1, c2, cf⟩ := three_facts h1
 have b1 := fun o => heap_below h1 ((Below.refl _ W).alloc (Nat.le_refl _) o)
 have d0 := fun o => (three_facts (b1 o)).1
 have d1 := fun o => (three_facts (b1 o)).2.1
 have d2 := fun o => (three_facts (b1 o)).2.2.1
 have df := fun o => (three_facts (b1 o)).2.2.2
 have n1 := new_cells W #[.int .i64 op.length, .int .i64 x1, .string xn, .string xt, .slice Aa xa.length ca] 34
 obtain ⟨⟨p0, p1, p2, p3, p4⟩, p5⟩ := five_facts n1
 have hstep := h.step ((Below.refl _ W).alloc (Nat.le_refl _) (.cells #[.int .i64 op.length, .int .i64 x1, .string xn, .string xt, .slice Aa xa.length ca] 34))
 have hbz := h.below.size
 have hbA : Below w0.heap.size W (W.alloc (.cells #[.int .i64 op.length, .int .i64 x1, .string xn, .string xt, .slice Aa xa.length ca] 34)) := (Below.refl _ W).alloc hbz _
 by_cases g : 4096 ≤ out.length ∨ 60 ≤ op.length
 ·rw [show layF op out big ⟨x0, x1, xn, xt, xa⟩ = (out, true) from if_pos g]
  have hfin := Lib.hid (h.bigger.step ((Below.refl _ _).alloc (Nat.le_refl _) (.cells #[.int .i64 op.length, .int .i64 x1, .string xn, .string xt, .slice Aa xa.length ca] 34)))
  by_cases g1 : 4096 ≤ out.length
  ·have e1 : decide ((4096 : Int) ≤ (out.length : Int)) = true := decide_eq_true (by omega)
   clear g
   go_enter Tryz.func68, Tryz.ntmps68
   go_wp2
   refine bodyPost_ret (results_none rfl _ _ _) rfl ?_
   exact ⟨rfl, hfin.out, ((Below.refl _ W).setCell (p := ⟨B, 2, none⟩) h.base _).alloc (by simpa using hbz) _, ((KeptB.refl B W).set 2 _).below ((Below.refl _ _).alloc (Nat.le_refl _) _)⟩
  ·have e1 : decide ((4096 : Int) ≤ (out.length : Int)) = false := decide_eq_false (by omega)
   have e2 : decide ((60 : Int) ≤ (op.length : Int)) = true := decide_eq_true (by omega)
   clear g
   go_enter Tryz.func68, Tryz.ntmps68
   go_wp2
   refine bodyPost_ret (results_none rfl _ _ _) rfl ?_
   exact ⟨rfl, hfin.out, ((Below.refl _ W).setCell (p := ⟨B, 2, none⟩) h.base _).alloc (by simpa using hbz) _, ((KeptB.refl B W).set 2 _).below ((Below.refl _ _).alloc (Nat.le_refl _) _)⟩
 ·rw [show layF op out big ⟨x0, x1, xn, xt, xa⟩ = (out ++ [⟨op.length, x1, xn, xt, xa⟩], big) from if_neg g]
  have e1 : decide ((4096 : Int) ≤ (out.length : Int)) = false := decide_eq_false (by omega)
  have e2 : decide ((60 : Int) ≤ (op.length : Int)) = false := decide_eq_false (by omega)
  clear g
  go_enter Tryz.func68, Tryz.ntmps68
  go_wp2
  have hR1 := Kd.R_alloc h3 (.cells #[.int .i64 op.length, .int .i64 x1, .string xn, .string xt, .slice Aa xa.length ca] 34)
  have hV1 := Kd.R_alloc h2 (.cells #[.int .i64 op.length, .int .i64 x1, .string xn, .string xt, .slice Aa xa.length ca] 34)
  have hA1 := Kd.R_alloc hA (.cells #[.int .i64 op.length, .int .i64 x1, .string xn, .string xt, .slice Aa xa.length ca] 34)
  have hB1 := b1 (.cells #[.int .i64 op.length, .int .i64 x1, .string xn, .string xt, .slice Aa xa.length ca] 34)
  have q1 := d1 (.cells #[.int .i64 op.length, .int .i64 x1, .string xn, .string xt, .slice Aa xa.length ca] 34)
  have hkp := (KeptB.refl B W).below ((Below.refl _ W).alloc (Nat.le_refl _) (.cells #[.int .i64 op.length, .int .i64 x1, .string xn, .string xt, .slice Aa xa.length ca] 34))
  clear h1 h2 h3 hA c0 c1 c2 cf b1 d0 d1 d2 df hstep
  generalize hw1 : W.alloc (.cells #[.int .i64 op.length, .int .i64 x1, .string xn, .string xt, .slice Aa xa.length ca] 34) = W1 at *
  refine start_ (n := 11) (S := fun w' => w'.cell? ⟨B, 1, none⟩ = some (.slice Ar out.length cr) ∧ w'.cell? ⟨W.heap.size, 0, none⟩ = some (.int .i64 op.length) ∧ w'.cell? ⟨W.heap.size, 1, none⟩ = some (.int .i64 x1) ∧ w'.cell? ⟨W.heap.size, 2, none⟩ = some (.string xn) ∧ w'.cell? ⟨W.heap.size, 3, none⟩ = some (.string xt) ∧ w'.cell? ⟨W.heap.size, 4, none⟩ = some (.slice Aa xa.length ca)) (ds := [7, 10]) (bits 11 0) (by kernel_rfl) rfl (by kernel_rfl) ⟨q1, p0, p1, p2, p3, p4⟩ (fun hHeld => ?_)
  refine sw 0 24 ?_; refine sw 1 25 ?_; refine sw 2 26 ?_; refine sw 3 27 ?_; refine st 4 28 ?_; refine st 5 29 ?_
  refine so 6 (fun K hK => ?_)
  rw [if_pos (by rfl)]
  go_simp
  have hbq : Below W1.heap.size W1 (W1.alloc (.cells #[.int .i64 op.length, .int .i64 x1, .string xn, .string xt, .slice Aa xa.length ca] 34)).drew := Go.Proofs.YtkcmghlhpbepcaaGreatDoorW.PrintWords.below_drew ((Below.refl _ W1).alloc (Nat.le_refl _) _)
  refine hK.out _ _ ⟨cell_keep q1 hbq, cell_keep p0 hbq, cell_keep p1 hbq, cell_keep p2 hbq, cell_keep p3 hbq, cell_keep p4 hbq⟩ (fun hHeld2 => ?_)
  clear hK K hHeld hHeld2
  refine sl 7 (fun K hK => ?_)
  rw [drew_alloc7]
  have hR2 := Kd.R_drew hR1
  have hA2 := Kd.R_apartR (Kd.R_drew hA1) hR2 (by decide)
  have hbd : Below w0.heap.size W W1.drew := Go.Proofs.YtkcmghlhpbepcaaGreatDoorW.PrintWords.below_drew1 hbA
  refine Kd.R_append_step k34 (w0 := W) w0.heap.size (by rfl) (.tmp 28) (.tmp 30) 22 34 (.agg #[(.int .i64 0), (.int .i64 0), (.string ⟨#[]⟩), (.string ⟨#[]⟩), (.slice none 0 0)]) 72 rfl Tryz.underlying22 info34 rfl (by decide) (by omega) (.slice Ar out.length cr) out (⟨op.length, x1, xn, xt, xa⟩ : Rw) [.int .i64 op.length, .int .i64 x1, .string xn, .string xt, .slice Aa xa.length ca] (fun _ => True) (fun k => True ∧ some k ≠ (Value.slice Ar out.length cr).ownBlock) rfl ?aX (k34_mkM _ _ _ (⟨op.length, x1, xn, xt, xa⟩ : Rw) hA2) (fun k hk => hk) (fun _ _ => trivial) hR2 hbd (h.below.trans hbd).size (by omega) ?_
  case aX => rfl
  intro v1 w2 hO2 hb2 hg2 hat2
  have hB2 := blk_grown (heap_below hB1 (below_drew (Below.refl _ _))) hg2 (Kd.R_ne hR2 (heap_below hB1 (below_drew (Below.refl _ _))) (by decide))
  have hV2 := Kd.R_over (Kd.R_drew hV1) hR2 (by decide) hg2
  obtain ⟨A3, c3, rfl⟩ := Kd.R_slice hO2
  rw [List.length_append, List.length_singleton] at hO2
  obtain ⟨f0, f1, f2, ff⟩ := three_facts hB2
  refine hK.out _ _ ?_
  clear hK K
  refine sw 8 32 ?_; refine sw 9 33 ?_
  refine sl 10 (fun K hK => ?_)
  rw [if_pos (by rfl)]
  go_simp
  refine hK.out _ _ ?_
  clear hK K
  refine done_ (by kernel_rfl) ?_
  go_end0
  exact ⟨rfl, ⟨h.below.trans (hb2.setCell (p := ⟨B, 1, none⟩) h.base _), h.base, _, _, blk_put hB2 1 _ rfl, Kd.R_set hV2 hB2 (by decide) 1 _, Kd.R_set hO2 hB2 (by decide) 1 _⟩, hb2.setCell (p := ⟨B, 1, none⟩) h.base _, (KeptB.grown (hkp.below (Go.Proofs.YtkcmghlhpbepcaaGreatDoorW.PrintWords.below_drew (Below.refl _ _))) (fun k hk => by obtain ⟨c, hc⟩ := Kd.R_typed hR2 k hk; exact ⟨c, .inl hc⟩) hg2).set 1 _⟩
end Go.Proofs.YtkcmghlhpbepcaaGreatDoorH.W7

/- chars.Ready, given to the printed walks. -/
namespace Go.Proofs.YtkcmghlhpbepcaaGreatDoorH.W7
open Go.RowKit Go.Proofs Go.Proofs.YtkcmghlhpbepcaaGreatDoor Go.Proofs.YtkcmghlhpbepcaaGreatDoor.Ch
def chars_Ready.f (a0 : ByteArray) : Option ByteArray := if a0.data.toList.length ≤ 100000000 then some ⟨(readyF a0.data.toList).toArray⟩ else none
theorem chars_Ready.calls (a0 : ByteArray) (r : ByteArray) (w : World) (h : chars_Ready.f a0 = some r) (hS_ : Std w) :
 Calls Tryz.prog 73 #[.string a0] w fun e w' => e = .returned (.string r) ∧ Below w.heap.size w w' := by
 unfold chars_Ready.f at h
 split at h
 ·rename_i hz
  obtain rfl := Option.some.inj h
  have := ready_c a0.data.toList hz w hS_
  have he : (⟨a0.data.toList.toArray⟩ : ByteArray) = a0 := by cases a0; simp
  rw [he] at this
  exact this
 ·cases h
end Go.Proofs.YtkcmghlhpbepcaaGreatDoorH.W7

/- slices.Backward at texts, as a loop over a function meets it. -/
namespace Go.Proofs.YtkcmghlhpbepcaaGreatDoorH.W7
open Go.RowKit Go.Shelf Go.Proofs Go.Proofs.YtkcmghlhpbepcaaGreatDoor
attribute [local go_sem] Oper.semAt_some
abbrev IxS := Nat × ByteArray
def backK (xs : List ByteArray) (k : Nat) : List IxS := (List.range k).map (fun m => (xs.length - 1 - m, xs.getD (xs.length - 1 - m) ⟨#[]⟩))
theorem backK_succ (xs : List ByteArray) (k : Nat) : backK xs (k + 1) = backK xs k ++ [(xs.length - 1 - k, xs.getD (xs.length - 1 - k) ⟨#[]⟩)] := by simp [backK, List.range_succ]
theorem backK_length (xs : List ByteArray) (k : Nat) : (backK xs k).length = k := by simp [backK]
def KpB (t : TypeId) (n₀ B : Nat) (v : Value) (W W' : World) : Prop := Below n₀ W W' ∧ (Boxed W B t v → Boxed W' B t v)
theorem kpB_t {t : TypeId} {n₀ B : Nat} {v : Value} {X Y Z : World} (h : KpB t n₀ B v X Y) (k : KpB t n₀ B v Y Z) : KpB t n₀ B v X Z := ⟨h.1.trans k.1, fun e => k.2 (h.2 e)⟩
theorem kpB_b {t : TypeId} {n₀ B : Nat} {v : Value} {w : World} (hn : n₀ ≤ w.heap.size) (hB : B < w.heap.size) (W : World) (l : Nat) (o o' : Obj) (hl : w.heap.size ≤ l) (h : W.heap[l]? = some o) (h1 : o.isCells = false) (h2 : o.isWalk = false) : KpB t n₀ B v W (W.putObj l o') :=
 ⟨belowK_b hn W l o o' hl h h1 h2, fun e => e.kept (grownBy_putObj' W l o') (fun e' => by cases e'; omega)⟩
theorem spotF {w : World} {a : Addr} {v : Value} (h : w.cell? a = some v) : a = ⟨a.block, a.off, none⟩ := by
 obtain ⟨b, o, s⟩ := a
 cases s with
 | none => rfl
 | some s =>
   unfold World.cell? at h
   split at h <;> simp at h
theorem addF (b o n : Nat) : Addr.add ⟨b, o, none⟩ n = ⟨b, o + n, none⟩ := by
 unfold Addr.add
 split <;> simp_all
abbrev Strs (w : World) (A : Option Addr) (xs : List ByteArray) : Prop := Go.Proofs.YtkcmghlhpbepcaaGreatDoorW.PrintWords.Kd.string.C w A xs.length xs
theorem str_at {w : World} {A : Option Addr} {xs : List ByteArray} (h : Strs w A xs) : (xs = [] ∨ ∃ g o, A = some ⟨g, o, none⟩ ∧ ∀ j, j < xs.length → w.cell? ⟨g, o + j, none⟩ = some (.string (xs.getD j ⟨#[]⟩))) := by
 cases hx : xs with
 | nil => exact .inl rfl
 | cons x t =>
   rw [← hx]
   have hl : 0 < xs.length := by rw [hx]; simp
   obtain ⟨ad, e, hc⟩ := h.2.2 hl
   have key : ∀ j, j < xs.length → w.cell? (ad.add j) = some (.string (xs.getD j ⟨#[]⟩)) := fun j hj => by
    have hg : xs[j]? = some (xs.getD j ⟨#[]⟩) := by rw [List.getD_eq_getElem?_getD, List.getElem?_eq_getElem hj]; rfl
    obtain ⟨c, hcl, hR, hcc⟩ := hc j _ hg
    have hR2 : c = [.string (xs.getD j ⟨#[]⟩)] := hR
    have := hcc 0 (.string (xs.getD j ⟨#[]⟩)) (by rw [hR2]; rfl)
    have hz : j * Go.Proofs.YtkcmghlhpbepcaaGreatDoorW.PrintWords.Kd.string.sz + 0 = j := by show j * 1 + 0 = j; omega
    rwa [hz] at this
   have h0 := key 0 hl
   have hs := spotF (a := ad) (by simpa [Addr.add] using h0)
   refine .inr ⟨ad.block, ad.off, by rw [e, ← hs], fun j hj => ?_⟩
   have := key j hj
   rw [hs, addF] at this
   exact this
set_option maxHeartbeats 2000000 in
set_option maxRecDepth 100000 in
theorem back1_in (n : Nat) (hn : 1 ≤ n) (l B1 : Nat) (A : Option Addr) (c : Nat) (xs : List ByteArray) (w0 : World) (hr : Strs w0 A xs) (J Jx : List IxS → World → Prop)
 (hY : ∀ pre x W, J pre W → pre.length < xs.length → YieldAt Fence.wide (n - 1) Tryz.prog l #[.int .i64 (x.1 : Nat), .string x.2] W fun e W' =>
   (e = .returned (.bool true) ∧ J (pre ++ [x]) W' ∧ KpB 41 w0.heap.size B1 (.slice A xs.length c) W W') ∨ (e = .returned (.bool false) ∧ Jx (pre ++ [x]) W'))
 (W : World) (hW : Below w0.heap.size w0 W) (b1 : Boxed W B1 41 (.slice A xs.length c)) (h0 : J [] W) :
 CallsIn Fence.wide n Tryz.prog 172 #[.func (.yield l) #[] #[], .pointer (some ⟨B1, 0, none⟩)] W fun e W' => (∃ v, e = .returned v) ∧
  ((∃ ys, ys = backK xs xs.length ∧ J ys W') ∨ (∃ pre, (∃ k, k ≤ xs.length ∧ pre = backK xs k) ∧ Jx pre W')) := by
 have hxl := hr.2.1
 have hat := str_at hr
 refine callsIn_of_wp Tryz.func172 rfl trivial ?_ rfl
 simp only [Tryz.ntmps172, List.size_toArray, List.length_cons, List.length_nil, Nat.reduceAdd, Nat.reduceSub, Array.replicate_succ, Array.replicate_zero, List.push_toArray, List.append_toArray, List.nil_append, List.cons_append]
 have c1 := b1.cell
 gi_wp2
 gi_loopw [3] (fun v wr => ∃ k : Nat, k ≤ xs.length ∧ v = .int .i64 ((xs.length : Int) - 1 - k) ∧ J (backK xs k) wr ∧ Below w0.heap.size w0 wr ∧ Boxed wr B1 41 (.slice A xs.length c)) (fun v _ => (intOf v + 1).toNat)
 case atStart => exact ⟨0, Nat.zero_le _, by simp, h0, hW, b1⟩
 case round =>
  obtain ⟨k, hk, rfl, hJs, hB, hbx⟩ := hrel
  have cb := hbx.cell
  by_cases hlt : k < xs.length
  ·rcases hat with rfl | ⟨g, o, rfl, hcs⟩
   ·simp at hlt
   ·have hj : xs.length - 1 - k < xs.length := by omega
    obtain ⟨fn, tmps, assign, body, hy, hR⟩ := hY _ (xs.length - 1 - k, xs.getD (xs.length - 1 - k) ⟨#[]⟩) wr hJs (by rw [backK_length]; exact hlt)
    have hj2 : (xs.length : Int) - 1 - k = ((xs.length - 1 - k : Nat) : Int) := by omega
    have hcx := (hB.cell (p := ⟨g, o + (xs.length - 1 - k), none⟩) (World.block_lt_of_cell? w0 _ (hcs _ hj))).trans (hcs _ hj)
    have hsucc := Lib.hid (backK_succ xs k)
    clear hcs
    dsimp only at hy
    rw [hj2]
    generalize xs.getD (xs.length - 1 - k) ⟨#[]⟩ = sx at *
    obtain ⟨q, hq⟩ : ∃ q, xs.length - 1 - k = q := ⟨_, rfl⟩
    rw [hq] at hy hcx hR hsucc hj
    rw [hq]
    have hqk : Hid (xs.length - 1 - k = q) := hq
    clear hq hj2
    gi_wp2
    refine hR.mono ?_
    rintro e W3 (⟨rfl, hJ3, hk3⟩ | ⟨rfl, hJx3⟩)
    ·gi_wp2
     go_roundw
     case rel => exact ⟨k + 1, by omega, by have := hqk.out; congr 1; omega, by rw [hsucc.out]; exact hJ3, hB.trans hk3.1, hk3.2 hbx⟩
     case measure => first | (simp [intOf]; done) | (simp [intOf]; omega)
    ·gi_wp2
     refine bodyPost_ret (results_none rfl _ _ _) rfl ?_
     exact ⟨⟨_, rfl⟩, .inr ⟨_, ⟨k + 1, by omega, hsucc.out.symm⟩, hJx3⟩⟩
  ·obtain rfl : k = xs.length := by omega
   gi_wp2
   go_end0
   exact ⟨⟨_, rfl⟩, .inl ⟨_, rfl, hJs⟩⟩
end Go.Proofs.YtkcmghlhpbepcaaGreatDoorH.W7

/- Contract of build.found: its loop over slices.Backward. Nothing that lay in memory turns. -/
namespace Go.Proofs.YtkcmghlhpbepcaaGreatDoorH.W7
open Go.RowKit Go.Shelf Go.Proofs Go.Proofs.YtkcmghlhpbepcaaGreatDoor
attribute [local go_sem] Oper.semAt_some
theorem has_c (A : Option Addr) (c : Nat) (xs : List ByteArray) (x : ByteArray) (w : World) (h : Strs w A xs) :
 Calls Tryz.prog 114 #[.slice A xs.length c, .string x] w fun e w' => e = .returned (.bool (Lib.containsS xs x)) ∧ w' = w := by
 rcases str_at h with rfl | ⟨g, o, rfl, hc⟩
 ·exact Tryz.slices_Contains_string_empty A c x w
 ·have := Tryz.slices_Contains_string g o xs.length c xs x w (Nat.le_refl _) h.2.1 hc
  rwa [List.take_length] at this
set_option maxHeartbeats 1000000 in
theorem back_in (n : Nat) (A : Option Addr) (len c : Nat) (w : World) :
 CallsIn Fence.wide n Tryz.prog 127 #[.slice A len c] w fun e w' => e = .returned (.func (.func 172) #[] #[.pointer (some ⟨w.heap.size, 0, none⟩)]) ∧ w' = w.alloc (.cells #[.slice A len c] 41) := by
 refine callsIn_of_wp Tryz.func127 rfl trivial ?_ rfl
 simp only [Tryz.ntmps127, List.size_toArray, List.length_cons, List.length_nil, Nat.reduceAdd, Nat.reduceSub, Array.replicate_succ, Array.replicate_zero, List.push_toArray, List.append_toArray, List.nil_append, List.cons_append]
 gi_wp2
 go_ret
 exact ⟨rfl, rfl⟩
theorem back_stops (n : Nat) (hn : 1 ≤ n) (B1 : Nat) (A : Option Addr) (c : Nat) (xs : List ByteArray) (w0 w : World) (hr : Strs w0 A xs) (hB : Below w0.heap.size w0 w) (b1 : Boxed w B1 41 (.slice A xs.length c)) :
 SeqStopsK Fence.wide n Tryz.prog 172 #[.pointer (some ⟨B1, 0, none⟩)] (fun x : IxS => #[Value.int .i64 (x.1 : Nat), .string x.2]) (KpB 41 w0.heap.size B1 (.slice A xs.length c)) (fun ys => ys = backK xs xs.length) (fun pre => ∃ k, k ≤ xs.length ∧ pre = backK xs k) xs.length w := fun l J Jx W hW _ _ hY h0 =>
 back1_in n hn l B1 A c xs w0 hr J Jx hY W (hB.trans (hW.mono hB.size)) ((hW.block B1 b1.lt).trans b1) h0
def foundK (xs some_ walls : List ByteArray) : Nat → Int
 | 0 => -1
 | k + 1 => if Lib.containsS some_ (xs.getD k ⟨#[]⟩) then (k : Int) else if Lib.containsS walls (xs.getD k ⟨#[]⟩) then -1 else foundK xs some_ walls k
def freeB (some_ walls : List ByteArray) (pre : List IxS) : Prop := ∀ p ∈ pre, Lib.containsS some_ p.2 = false ∧ Lib.containsS walls p.2 = false
theorem found_free (xs some_ walls : List ByteArray) : ∀ k, k ≤ xs.length → freeB some_ walls (backK xs k) → foundK xs some_ walls xs.length = foundK xs some_ walls (xs.length - k)
 | 0, _, _ => by rw [Nat.sub_zero]
 | k + 1, hk, h => by
   rw [backK_succ] at h
   have h1 := h (xs.length - 1 - k, xs.getD (xs.length - 1 - k) ⟨#[]⟩) (by simp)
   have ih := found_free xs some_ walls k (by omega) (fun p hp => h p (List.mem_append_left _ hp))
   obtain ⟨m, hm⟩ : ∃ m, xs.length - k = m + 1 := ⟨xs.length - k - 1, by omega⟩
   have hm2 : xs.length - (k + 1) = m := by omega
   have hm3 : xs.length - 1 - k = m := by omega
   rw [hm3] at h1
   rw [ih, hm, hm2]
   simp only [foundK, h1.1, h1.2]
   rfl
theorem found_stop (xs some_ walls : List ByteArray) (k : Nat) (hk : k ≤ xs.length) (pre' : List IxS) (x : IxS) (res : Int) (h : backK xs k = pre' ++ [x]) (hf : freeB some_ walls pre')
 (hc : (Lib.containsS some_ x.2 = true ∧ res = x.1) ∨ (Lib.containsS some_ x.2 = false ∧ Lib.containsS walls x.2 = true ∧ res = -1)) : foundK xs some_ walls xs.length = res := by
 cases k with
 | zero => simp [backK] at h
 | succ m =>
   rw [backK_succ] at h
   obtain ⟨h1, h2⟩ := List.append_inj' h rfl
   have h3 := (List.cons.inj h2).1
   subst h1
   subst h3
   rw [found_free xs some_ walls m (by omega) hf]
   obtain ⟨q, hq⟩ : ∃ q, xs.length - m = q + 1 := ⟨xs.length - m - 1, by omega⟩
   have hq2 : xs.length - 1 - m = q := by omega
   rw [hq2] at hc
   rw [hq]
   rcases hc with ⟨c1, rfl⟩ | ⟨c1, c2, rfl⟩
   ·simp only [foundK, c1]
    rfl
   ·simp only [foundK, c1, c2]
    rfl
theorem boxed_ne {X : World} {B q : Nat} {t : TypeId} {v : Value} {row : Option Nat} (h : Boxed X B t v) (hr : ∀ r, row = some r → q ≤ r ∧ ∃ o : Obj, X.heap[r]? = some o ∧ o.isCells = false) : some B ≠ row := fun e => by
 obtain ⟨_, o, ho, hc⟩ := hr B e.symm
 rw [show X.heap[B]? = _ from h] at ho
 cases ho
 cases hc
def fI (w : World) (V1 V2 : Value) (ys zs : List ByteArray) (pre : List IxS) (W : World) : Prop :=
 (Boxed W w.heap.size 41 V1 ∧ Boxed W (w.heap.size + 1) 41 V2 ∧ Boxed W (w.heap.size + 1 + 1) 3 (.int .i64 0) ∧ freeB ys zs pre) ∧ Below w.heap.size w W
def fX (w : World) (ys zs : List ByteArray) (c : Code) (pre : List IxS) (W : World) : Prop :=
 (c = .ret ∧ ∃ (res : Int) (pre' : List IxS) (x : IxS), Boxed W (w.heap.size + 1 + 1) 3 (.int .i64 res) ∧ pre = pre' ++ [x] ∧ freeB ys zs pre' ∧ ((Lib.containsS ys x.2 = true ∧ res = x.1) ∨ (Lib.containsS ys x.2 = false ∧ Lib.containsS zs x.2 = true ∧ res = -1))) ∧ Below w.heap.size w W
theorem fI_own (w : World) (B : Nat) (hB : w.heap.size ≤ B) (V1 V2 : Value) (ys zs : List ByteArray) : OwnFrom B (fI w V1 V2 ys zs) :=
 OwnFrom.and (fun s X Y row h hg hr => ⟨h.1.kept hg (boxed_ne h.1 hr), h.2.1.kept hg (boxed_ne h.2.1 hr), h.2.2.1.kept hg (boxed_ne h.2.2.1 hr), h.2.2.2⟩) (ownFrom_below (Nat.le_refl _) hB)
theorem fX_own (w : World) (B : Nat) (hB : w.heap.size ≤ B) (ys zs : List ByteArray) (c : Code) : OwnFrom B (fX w ys zs c) :=
 OwnFrom.and (fun s X Y row h hg hr => by
  obtain ⟨hc, res, pre', x, hb, r⟩ := h
  exact ⟨hc, res, pre', x, hb.kept hg (boxed_ne hb hr), r⟩) (ownFrom_below (Nat.le_refl _) hB)
set_option maxHeartbeats 2000000 in
set_option maxRecDepth 100000 in
theorem found_in (n : Nat) (hn : 3 ≤ n) (A0 A1 A2 : Option Addr) (c0 c1 c2 : Nat) (xs ys zs : List ByteArray) (w : World) (h0 : Strs w A0 xs) (h1s : Strs w A1 ys) (h2s : Strs w A2 zs) :
 CallsIn Fence.wide n Tryz.prog 77 #[.slice A0 xs.length c0, .slice A1 ys.length c1, .slice A2 zs.length c2] w fun e w' => e = .returned (.int .i64 (foundK xs ys zs xs.length)) ∧ Below w.heap.size w w' := by
 have h1 : 1 ≤ n := by omega
 have hfn : Fence.wide.fn 127 := trivial
 have hfn2 : Fence.wide.fn 114 := trivial
 refine callsIn_of_wp_marks Tryz.func77 rfl trivial ?_ rfl
 simp only [Tryz.ntmps77, List.size_toArray, List.length_cons, List.length_nil, Nat.reduceAdd, Nat.reduceSub, Array.replicate_succ, Array.replicate_zero, List.push_toArray, List.append_toArray, List.nil_append, List.cons_append]
 gi_wp2_with (gi_at_call 127; refine (back_in _ _ _ _ _).mono ?_; rintro e w' ⟨rfl, rfl⟩)
 have HB0 : Below w.heap.size w ((((w.alloc (.cells #[.slice A1 ys.length c1] 41)).alloc (.cells #[.slice A2 zs.length c2] 41)).alloc (.cells #[.int .i64 0] 3)).alloc (.cells #[.slice A0 xs.length c0] 41)) := ((((Below.refl _ w).alloc (Nat.le_refl _) _).alloc (by simp) _).alloc (by simp; omega) _).alloc (by simp; omega) _
 have b1 := Boxed.new w 41 (.slice A1 ys.length c1)
 have b2 : Boxed ((w.alloc (.cells #[.slice A1 ys.length c1] 41)).alloc (.cells #[.slice A2 zs.length c2] 41)) (w.heap.size + 1) 41 (.slice A2 zs.length c2) := by
  have h := Boxed.new (w.alloc (.cells #[.slice A1 ys.length c1] 41)) 41 (.slice A2 zs.length c2)
  rw [World.size_alloc] at h; exact h
 have b3 : Boxed (((w.alloc (.cells #[.slice A1 ys.length c1] 41)).alloc (.cells #[.slice A2 zs.length c2] 41)).alloc (.cells #[.int .i64 0] 3)) (w.heap.size + 1 + 1) 3 (.int .i64 0) := by
  have h := Boxed.new ((w.alloc (.cells #[.slice A1 ys.length c1] 41)).alloc (.cells #[.slice A2 zs.length c2] 41)) 3 (.int .i64 0)
  rw [World.size_alloc, World.size_alloc] at h; exact h
 have b4 : Boxed ((((w.alloc (.cells #[.slice A1 ys.length c1] 41)).alloc (.cells #[.slice A2 zs.length c2] 41)).alloc (.cells #[.int .i64 0] 3)).alloc (.cells #[.slice A0 xs.length c0] 41)) (w.heap.size + 1 + 1 + 1) 41 (.slice A0 xs.length c0) := by
  have h := Boxed.new (((w.alloc (.cells #[.slice A1 ys.length c1] 41)).alloc (.cells #[.slice A2 zs.length c2] 41)).alloc (.cells #[.int .i64 0] 3)) 41 (.slice A0 xs.length c0)
  rw [World.size_alloc, World.size_alloc, World.size_alloc] at h; exact h
 refine wpIn_rangeFunc_ownG rfl h1 (gf := 172) (lb := #[.pointer (some ⟨w.heap.size + 1 + 1 + 1, 0, none⟩)]) rfl trivial (enters_of Tryz.func172 (by kernel_rfl) rfl)
  (back_stops (n - 1) (by omega) (w.heap.size + 1 + 1 + 1) A0 c0 xs w _ h0 HB0 b4) (fun h k => kpB_t h k) (kpB_b HB0.size b4.lt) (Below.refl _ _) (fun _ => rfl)
  (fI w (.slice A1 ys.length c1) (.slice A2 zs.length c2) ys zs) (fX w ys zs) (fI_own w _ HB0.size _ _ ys zs) (fX_own w _ HB0.size ys zs)
  ⟨⟨((b1.alloc _).alloc _).alloc _, (b2.alloc _).alloc _, b3.alloc _, fun p hp => by cases hp⟩, HB0⟩
  ?a1 ?assign ?body ?done ?stop
 case assign =>
  intro l x W K hK
  gi_wp2
  exact hK
 case body =>
  rintro l pre x W ⟨⟨hb1, hb2, hb3, hfree⟩, hB⟩ hlt
  have k1 := hb1.cell
  have k2 := hb2.cell
  have k3 := hb3.cell
  have f3 := hb3.frozen
  have hfree2 := Lib.hid hfree
  clear hfree
  have hc1 := Lib.hid (callsIn_wide (n := n - 1 - 1 - 1).2 (has_c A1 c1 ys x.2 W (Go.Proofs.YtkcmghlhpbepcaaGreatDoorW.PrintWords.Kd.C_below h1s hB)))
  have hc2 := Lib.hid (callsIn_wide (n := n - 1 - 1 - 1).2 (has_c A2 c2 zs x.2 W (Go.Proofs.YtkcmghlhpbepcaaGreatDoorW.PrintWords.Kd.C_below h2s hB)))
  obtain ⟨xi, xs'⟩ := x
  dsimp only at hc1 hc2
  have hd : 1 ≤ n - 1 - 1 := by omega
  have hfd : (Fence.wide.inRound l).fn 114 := trivial
  cases e1 : Lib.containsS ys xs'
  ·rw [e1] at hc1
   cases e2 : Lib.containsS zs xs'
   ·rw [e2] at hc2
    gi_wp2_with (first | (gi_at_call 114; refine (CallsIn.inRound l hc1.out).mono ?_; rintro e w1 ⟨rfl, hw1⟩; rw [hw1]; clear hc1) | (gi_at_call 114; refine (CallsIn.inRound l hc2.out).mono ?_; rintro e w2 ⟨rfl, hw2⟩; rw [hw2]; clear hc2))
    exact ⟨KeepsFrom.refl _ _, ⟨Below.refl _ _, fun h => h⟩, ⟨hb1, hb2, hb3, fun p hp => by
     rcases List.mem_append.1 hp with h | h
     ·exact hfree2.out p h
     ·obtain rfl := List.mem_singleton.1 h
      exact ⟨e1, e2⟩⟩, hB⟩
   ·rw [e2] at hc2
    gi_wp2_with (first | (gi_at_call 114; refine (CallsIn.inRound l hc1.out).mono ?_; rintro e w1 ⟨rfl, hw1⟩; rw [hw1]; clear hc1) | (gi_at_call 114; refine (CallsIn.inRound l hc2.out).mono ?_; rintro e w2 ⟨rfl, hw2⟩; rw [hw2]; clear hc2))
    exact ⟨(KeepsOthers.setCell _ _ _).from _, ⟨rfl, -1, pre, (xi, xs'), hb3.set _, rfl, hfree2.out, .inr ⟨e1, e2, rfl⟩⟩, hB.setCell (p := ⟨w.heap.size + 1 + 1, 0, none⟩) (by show w.heap.size ≤ w.heap.size + 1 + 1; omega) _⟩
  ·rw [e1] at hc1
   gi_wp2_with (first | (gi_at_call 114; refine (CallsIn.inRound l hc1.out).mono ?_; rintro e w1 ⟨rfl, hw1⟩; rw [hw1]; clear hc1) | (gi_at_call 114; refine (CallsIn.inRound l hc2.out).mono ?_; rintro e w2 ⟨rfl, hw2⟩; rw [hw2]; clear hc2))
   exact ⟨(KeepsOthers.setCell _ _ _).from _, ⟨rfl, xi, pre, (xi, xs'), hb3.set _, rfl, hfree2.out, .inl ⟨e1, rfl⟩⟩, hB.setCell (p := ⟨w.heap.size + 1 + 1, 0, none⟩) (by show w.heap.size ≤ w.heap.size + 1 + 1; omega) _⟩
 case done =>
  rintro D ps W hD rfl ⟨⟨hb1, hb2, hb3, hfree⟩, hB⟩ hK
  have k3 := hb3.cell
  have f3 := hb3.frozen
  have hres : foundK xs ys zs xs.length = -1 := by
   rw [found_free xs ys zs xs.length (Nat.le_refl _) hfree, Nat.sub_self]
   rfl
  have hres2 := Lib.hid hres
  gi_wp2
  have hK2 := (KeepsOthers.setCell W ⟨w.heap.size + 1 + 1, 0, none⟩ (.int .i64 (-1))).same D _ hK rfl
  refine ⟨by simp, .inl ⟨_, _, rfl, run_takeDeferred hK2, ?_⟩⟩
  have hb4 := (hb3.set (.int .i64 (-1))).kept (grownBy_putObj' _ D (.deferred none)) (fun e => by
   have h := hb3
   rw [show w.heap.size + 1 + 1 = D from by simpa using e] at h
   rw [show W.heap[D]? = _ from h] at hK
   cases hK)
  have hc4 := hb4.cell
  have hui := Tryz.underlying3
  rw [hres2.out]
  refine ⟨.int .i64 (-1), ?_, rfl, (hB.setCell (p := ⟨w.heap.size + 1 + 1, 0, none⟩) (by show w.heap.size ≤ w.heap.size + 1 + 1; omega) _).trans (belowK_b (w := w) (Nat.le_refl _) _ D _ _ (Nat.le_trans HB0.size hD) hK2 rfl rfl)⟩
  simp [results, asAddr, loadVar, hc4, hui, Sem.run_bind, Result.andThen, go_sem]
 case stop =>
  rintro D c pre W hD ⟨k, hk, rfl⟩ ⟨⟨rfl, res, pre', x, hb3, hpre, hfree, hcase⟩, hB⟩ hK
  have hres : foundK xs ys zs xs.length = res := found_stop xs ys zs k hk pre' x res hpre hfree hcase
  have hres2 := Lib.hid hres
  clear hres hcase hfree hpre
  gi_wp2
  refine ⟨by simp, .inl ⟨_, _, rfl, run_takeDeferred hK, ?_⟩⟩
  have hb4 := hb3.kept (grownBy_putObj' _ D (.deferred none)) (fun e => by
   have h := hb3
   rw [show w.heap.size + 1 + 1 = D from by simpa using e] at h
   rw [show W.heap[D]? = _ from h] at hK
   cases hK)
  have hc4 := hb4.cell
  have hui := Tryz.underlying3
  rw [hres2.out]
  refine ⟨.int .i64 res, ?_, rfl, hB.trans (belowK_b (w := w) (Nat.le_refl _) _ D _ _ (Nat.le_trans HB0.size hD) hK rfl rfl)⟩
  simp [results, asAddr, loadVar, hc4, hui, Sem.run_bind, Result.andThen, go_sem]
def build_found.f (l0 l1 l2 : List ByteArray) : Option Int := some (foundK l0 l1 l2 l0.length)
theorem build_found.calls (A0 : Option Addr) (c0 : Nat) (l0 : List ByteArray) (A1 : Option Addr) (c1 : Nat) (l1 : List ByteArray) (A2 : Option Addr) (c2 : Nat) (l2 : List ByteArray) (r : Int) (w : World) (hr0 : Go.Proofs.YtkcmghlhpbepcaaGreatDoorW.PrintWords.Kd.string.C w A0 l0.length l0) (hc0 : l0.length ≤ c0) (hr1 : Go.Proofs.YtkcmghlhpbepcaaGreatDoorW.PrintWords.Kd.string.C w A1 l1.length l1) (hc1 : l1.length ≤ c1) (hr2 : Go.Proofs.YtkcmghlhpbepcaaGreatDoorW.PrintWords.Kd.string.C w A2 l2.length l2) (hc2 : l2.length ≤ c2) (h : build_found.f l0 l1 l2 = some r) :
 Calls Tryz.prog 77 #[.slice A0 l0.length c0, .slice A1 l1.length c1, .slice A2 l2.length c2] w fun e w' => e = .returned (.int .i64 r) ∧ Below w.heap.size w w' := by
 obtain rfl := Option.some.inj h
 exact (callsIn_wide (n := 3)).1 (found_in 3 (Nat.le_refl _) A0 A1 A2 c0 c1 c2 l0 l1 l2 w hr0 hr1 hr2)
end Go.Proofs.YtkcmghlhpbepcaaGreatDoorH.W7

/- Contract of the tree builder's closes: some names are closed up to walls. -/
namespace Go.Proofs.YtkcmghlhpbepcaaGreatDoorH.W7
open Go.RowKit Go.Proofs Go.Proofs.YtkcmghlhpbepcaaGreatDoor Go.Proofs.YtkcmghlhpbepcaaGreatDoorW.PrintWords
def closeF (some_ walls : List ByteArray) : Nat → List ByteArray → List ByteArray
 | 0, op => op
 | n + 1, op => if foundK op some_ walls op.length < 0 then op else closeF some_ walls n (op.take (foundK op some_ walls op.length).toNat)
theorem foundK_lt (xs some_ walls : List ByteArray) : ∀ k, -1 ≤ foundK xs some_ walls k ∧ foundK xs some_ walls k < k
 | 0 => by simp [foundK]
 | k + 1 => by
   have := foundK_lt xs some_ walls k
   simp only [foundK]
   split
   ·omega
   ·split <;> omega
def closeA (some_ walls op : List ByteArray) : List ByteArray := closeF some_ walls (op.length + 1) op
set_option maxHeartbeats 3200000 in
set_option maxRecDepth 100000 in
theorem closes_c (w0 : World) (B : Nat) (op : List ByteArray) (out : List Rw) (big : Bool) (A1 : Option Addr) (c1 : Nat) (some_ : List ByteArray) (A2 : Option Addr) (c2 : Nat) (walls : List ByteArray) (W : World) (h : Bd w0 B op out big W)
 (hs : Kd.string.R 9 W w0.heap.size (fun _ => True) (.slice A1 some_.length c1) some_) (hw : Kd.string.R 9 W w0.heap.size (fun _ => True) (.slice A2 walls.length c2) walls) :
 Calls Tryz.prog 112 #[.pointer (some ⟨B, 0, none⟩), .slice A1 some_.length c1, .slice A2 walls.length c2] W fun e W' => e = .returned (.tuple #[]) ∧
  Bd w0 B (closeA some_ walls op) out big W' ∧ Below w0.heap.size W W' ∧ KeptB B W W' := by
 have hfd := Lib.hid (fun (op : List ByteArray) (A : Option Addr) (c : Nat) (X : World) (h0 : Kd.string.R 9 X w0.heap.size (fun _ => True) (.slice A op.length c) op) (h1 : Kd.string.R 9 X w0.heap.size (fun _ => True) (.slice A1 some_.length c1) some_) (h2 : Kd.string.R 9 X w0.heap.size (fun _ => True) (.slice A2 walls.length c2) walls) =>
  build_found.calls A c op A1 c1 some_ A2 c2 walls (foundK op some_ walls op.length) X (Kd.R_reads' h0).2.2 (Kd.R_reads' h0).2.1 (Kd.R_reads' h1).2.2 (Kd.R_reads' h1).2.1 (Kd.R_reads' h2).2.2 (Kd.R_reads' h2).2.1 rfl)
 obtain ⟨vo, vr, h1, h2, h3⟩ := id h.ex
 obtain ⟨Ao, co, rfl⟩ := Kd.R_slice h2
 obtain ⟨b0, b1, b2, bf⟩ := three_facts h1
 have hbz := h.below.size
 go_enter Tryz.func112, Tryz.ntmps112
 go_wp2_with (go_at_call 77; ((with_reducible refine (hfd.out op Ao co _ h2 hs hw).mono ?_); rintro e W1 ⟨rfl, hb1⟩))
 have hst := h.step hb1
 have hk1 := (KeptB.refl B W).below hb1
 have hs1 := Kd.R_below hs hb1
 have hw1 := Kd.R_below hw hb1
 have hbw1 : Below w0.heap.size W W1 := hb1.mono hbz
 clear h1 h2 h3 b0 b1 b2 bf
 go_loopw [6] (fun vi wr => ∃ (o : List ByteArray) (n : Nat), vi = .int .i64 (foundK o some_ walls o.length) ∧ o.length ≤ op.length ∧ o.length < n ∧ Hid (closeF some_ walls n o = closeA some_ walls op) ∧ Bd w0 B o out big wr ∧ Below w0.heap.size W wr ∧ KeptB B W wr ∧ Kd.string.R 9 wr w0.heap.size (fun _ => True) (.slice A1 some_.length c1) some_ ∧ Kd.string.R 9 wr w0.heap.size (fun _ => True) (.slice A2 walls.length c2) walls) (fun vi _ => (intOf vi + 1).toNat)
 case atStart => exact ⟨op, op.length + 1, rfl, Nat.le_refl _, Nat.lt_succ_self _, rfl, hst, hbw1, hk1, hs1, hw1⟩
 case round =>
  obtain ⟨o, n, rfl, hol, hon, hcl, hBd, hbw, hkp, hsr, hwr⟩ := hrel
  obtain ⟨n, rfl⟩ : ∃ m, n = m + 1 := ⟨n - 1, by omega⟩
  have hfl := foundK_lt o some_ walls o.length
  have hcl2 := hcl.out
  simp only [closeF] at hcl2
  by_cases hneg : foundK o some_ walls o.length < 0
  ·rw [if_pos hneg] at hcl2
   have e1 : decide ((0 : Int) ≤ foundK o some_ walls o.length) = false := decide_eq_false (by omega)
   generalize foundK o some_ walls o.length = i at *
   subst hcl2
   go_wp2
   go_end0
   exact ⟨rfl, hBd, hbw, hkp⟩
  ·rw [if_neg hneg] at hcl2
   obtain ⟨i, hi⟩ : ∃ i : Nat, foundK o some_ walls o.length = i := ⟨(foundK o some_ walls o.length).toNat, by omega⟩
   rw [hi] at hcl2 hfl ⊢
   simp only [Int.toNat_natCast] at hcl2
   replace hcl2 := Lib.hid hcl2
   have hil : i < o.length := by omega
   clear hi hneg hcl
   obtain ⟨vo, vr, g1, g2, g3⟩ := id hBd.ex
   obtain ⟨Ao', co', rfl⟩ := Kd.R_slice g2
   obtain ⟨b0, b1, b2, bf⟩ := three_facts g1
   have hrd := Kd.R_reads' g2
   have htk := Kd.R_take (m := i) g2 (by omega)
   have htl : (o.take i).length = i := by rw [List.length_take]; omega
   have hset : Bd w0 B (o.take i) out big (wr.setCell ⟨B, 0, none⟩ (.slice Ao' i co')) :=
    ⟨hBd.below.setCell (p := ⟨B, 0, none⟩) hBd.base _, hBd.base, _, _, blk_put g1 0 _ rfl, Kd.R_set htk g1 (by decide) 0 _, Kd.R_set g3 g1 (by decide) 0 _⟩
   have hs2 := Kd.R_set hsr g1 (by decide) 0 (.slice Ao' i co')
   have hw2 := Kd.R_set hwr g1 (by decide) 0 (.slice Ao' i co')
   have hk2 := hkp.set 0 (.slice Ao' i co')
   have hb2 := hbw.setCell (p := ⟨B, 0, none⟩) hBd.base (.slice Ao' i co')
   have ht2 : Kd.string.R 9 (wr.setCell ⟨B, 0, none⟩ (.slice Ao' i co')) w0.heap.size (fun _ => True) (.slice Ao' (o.take i).length co') (o.take i) := by rw [htl]; exact Kd.R_set htk g1 (by decide) 0 _
   have hcall := Lib.hid (hfd.out (o.take i) Ao' co' _ ht2 hs2 hw2)
   rw [htl] at hcall
   obtain ⟨z0, -, -, -⟩ := three_facts (blk_put g1 0 (.slice Ao' i co') rfl)
   have e1 : decide ((0 : Int) ≤ (i : Int)) = true := decide_eq_true (by omega)
   go_wp2_with (go_at_call 77; ((with_reducible refine hcall.out.mono ?_); rintro e W2 ⟨rfl, hb3⟩))
   have hfl2 := foundK_lt (o.take i) some_ walls i
   refine ⟨⟨o.take i, n, ?_, by omega, by omega, hcl2, hset.step hb3, hb2.trans (hb3.mono (by have := hset.below.size; omega)), hk2.below hb3, Kd.R_below hs2 hb3, Kd.R_below hw2 hb3⟩, ?_⟩
   ·rw [htl]
   ·simp [intOf]; omega
end Go.Proofs.YtkcmghlhpbepcaaGreatDoorH.W7
