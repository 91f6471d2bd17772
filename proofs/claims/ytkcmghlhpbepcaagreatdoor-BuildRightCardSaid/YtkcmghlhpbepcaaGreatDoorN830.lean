/- Lemmas and walks, part 30: QPW7x4, QE8Y, QE7V, QE7X. -/
import Derived.Test.YtkcmghlhpbepcaaGreatDoorN83
import Derived.Test.YtkcmghlhpbepcaaGreatDoorN828
import Derived.Deep.RegionHeld3
import Derived.Test.YtkcmghlhpbepcaaGreatDoorN829
import Derived.Test.YtkcmghlhpbepcaaGreatDoorN814
import Derived.Test.YtkcmghlhpbepcaaGreatDoorN816
set_option linter.unusedVariables false
set_option linter.unusedSimpArgs false

/- Words and walks used below. -/
namespace Go.Proofs.YtkcmghlhpbepcaaGreatDoorH.W7
open Go.RowKit Go.Proofs.YtkcmghlhpbepcaaGreatDoorW.PrintWords Go.Proofs.YtkcmghlhpbepcaaGreatDoorW.PrintLast Go.Proofs.YtkcmghlhpbepcaaGreatDoorW.PrintMore
attribute [local go_sem] max2_int min2_int max_two min_two max_three min_three max_four min_four   -- for this text's walks alone
attribute [local go_sem high] eqA36
def boltingref04_Attrs.l0 : Nat → List (S36) → List (S36) → Int → Option (Bool)
 | 0, _, _, _ => none
 | k + 1, x0, x1, x5 => if x5 < (x0.length : Int) then (if 0 ≤ x5 then (if x5 < (x1.length : Int) then (if (!((((rd_T36 x0 x5).f0).toList) == (((rd_T36 x1 x5).f0).toList)) || (!((((rd_T36 x0 x5).f1).toList) == (((rd_T36 x1 x5).f1).toList)))) = true then (some false) else (boltingref04_Attrs.l0 k x0 x1 (wrap64 (x5 + 1)))) else (none)) else (none)) else (some true)
def boltingref04_Attrs.f (k : Nat) (l0 : List (S36)) (l1 : List (S36)) : Option (Bool) := if (l0.length : Int) = (l1.length : Int) then (boltingref04_Attrs.l0 k l0 l1 0) else (some false)
set_option maxHeartbeats 8000000 in
set_option maxRecDepth 100000 in
theorem boltingref04_Attrs.calls (k : Nat) (A0 : Option Addr) (c0 : Nat) (l0 : List (S36)) (A1 : Option Addr) (c1 : Nat) (l1 : List (S36)) (r : Bool) (w : World) (hr0 : Kd.C k36 w A0 l0.length l0) (hc0 : l0.length ≤ c0) (hr1 : Kd.C k36 w A1 l1.length l1) (hc1 : l1.length ≤ c1) (h : boltingref04_Attrs.f k l0 l1 = some r) :
 Calls Tryz.prog 71 #[.slice A0 l0.length c0, .slice A1 l1.length c1] w fun e w' => e = .returned (.bool r) ∧ Drawn0 w w' := by
 have hu36 := Tryz.underlying36
 have HR0 := Aside0.mk hr0
 have HC0 := Aside0.mk hc0
 clear hr0 hc0
 have HR1 := Aside0.mk hr1
 have HC1 := Aside0.mk hc1
 clear hr1 hc1
 have H : (if (l0.length : Int) = (l1.length : Int) then (boltingref04_Attrs.l0 k l0 l1 0) else (some false)) = some r := h
 clear h
 by_cases c3 : (l0.length : Int) = (l1.length : Int)
 ·rw [if_pos c3] at H
  have c3b0 : ((l0.length : Int) == (l1.length : Int)) = true := beq_iff_eq.mpr c3
  have c3b1 : ((l0.length : Int) != (l1.length : Int)) = false := bne_eq_false_iff_eq.mpr c3
  have c3b2 : (l0.length == l1.length) = true := by first | simpa using c3 | (simp at c3 ⊢; omega)
  clear c3
  have H' := Aside0.mk H
  clear H
  go_enter Tryz.func71, Tryz.ntmps71
  go_wp2
  repeat (go_quiet (fail); try go_wp2)
  go_loopg [5] k (fun kq v5 w' => ∃ (x5_1 : Int), v5 = .int .i64 x5_1 ∧ Aside0 (boltingref04_Attrs.l0 kq l0 l1 x5_1 = some r) ∧ Aside0 (kq ≤ k) ∧ Drawn0 w w')
  case atStart => exact ⟨(0), (by first | rfl | (simp; done) | (simp [*]; done) | (simp; generalize ByteArray.toList _ = l_; cases l_ <;> rfl)), H', ⟨Nat.le_refl _⟩, by repeat (first | exact Drawn0.refl _ | apply Drawn0.step)⟩
  case round =>
   clear H'
   try clear c1
   try clear p2
   try clear c3
   try clear c3b0
   try clear c3b1
   try clear c3b2
   obtain ⟨x5_1, rfl, HA, HK1, ⟨m1, rfl⟩⟩ := hrel
   cases gk with
   | zero => exact absurd HA.out (by simp [boltingref04_Attrs.l0])
   | succ k1 =>
     have H := HA.out
     clear HA
     simp only [boltingref04_Attrs.l0] at H
     by_cases c4 : x5_1 < (l0.length : Int)
     ·rw [if_pos c4] at H
      have c4b0 : decide (x5_1 < (l0.length : Int)) = true := decide_eq_true c4
      clear c4
      by_cases c5 : 0 ≤ x5_1
      ·rw [if_pos c5] at H
       have c5b0 : decide (0 ≤ x5_1) = true := decide_eq_true c5
       clear c5
       by_cases c6 : x5_1 < (l1.length : Int)
       ·rw [if_pos c6] at H
        have c6b0 : decide (x5_1 < (l1.length : Int)) = true := decide_eq_true c6
        clear c6
        by_cases c7 : (!((((rd_T36 l0 x5_1).f0).toList) == (((rd_T36 l1 x5_1).f0).toList)) || (!((((rd_T36 l0 x5_1).f1).toList) == (((rd_T36 l1 x5_1).f1).toList)))) = true
        ·rw [if_pos c7] at H
         have c7b0 : (!((((rd_T36 l0 x5_1).f0).toList) == (((rd_T36 l1 x5_1).f0).toList)) || (!((((rd_T36 l0 x5_1).f1).toList) == (((rd_T36 l1 x5_1).f1).toList)))) = true := c7
         clear c7
         obtain rfl := Option.some.inj H
         have p106 : 0 ≤ (x5_1 : Int) := (by first | exact of_decide_eq_true (by first | (with_reducible assumption) | assumption) | assumption | omega)
         have q106 : x5_1 < (l0.length : Int) := (by first | exact of_decide_eq_true (by first | (with_reducible assumption) | assumption) | assumption | omega)
         obtain ⟨ad106, e106, hx106_0, hx106_1⟩ := at_T36 HR0.out x5_1 p106 q106
         cases e106
         replace p106 := eq_true p106
         replace q106 := eq_true q106
         have p107 : 0 ≤ (x5_1 : Int) := (by first | exact of_decide_eq_true (by first | (with_reducible assumption) | assumption) | assumption | omega)
         have q107 : x5_1 < (l1.length : Int) := (by first | exact of_decide_eq_true (by first | (with_reducible assumption) | assumption) | assumption | omega)
         obtain ⟨ad107, e107, hx107_0, hx107_1⟩ := at_T36 HR1.out x5_1 p107 q107
         cases e107
         replace p107 := eq_true p107
         replace q107 := eq_true q107
         go_wp2
         repeat (go_quiet (fail); try go_wp2)
         go_ret
         exact ⟨by first | rfl | (simp; done) | (simp [*]; done) | (simp; generalize ByteArray.toList _ = l_; cases l_ <;> rfl), by repeat (first | exact Drawn0.refl _ | apply Drawn0.step)⟩
        ·rw [if_neg c7] at H
         have c7b0 : (!((((rd_T36 l0 x5_1).f0).toList) == (((rd_T36 l1 x5_1).f0).toList)) || (!((((rd_T36 l0 x5_1).f1).toList) == (((rd_T36 l1 x5_1).f1).toList)))) = false := by simpa using c7
         clear c7
         have H' := Aside0.mk H
         clear H
         have p106 : 0 ≤ (x5_1 : Int) := (by first | exact of_decide_eq_true (by first | (with_reducible assumption) | assumption) | assumption | omega)
         have q106 : x5_1 < (l0.length : Int) := (by first | exact of_decide_eq_true (by first | (with_reducible assumption) | assumption) | assumption | omega)
         obtain ⟨ad106, e106, hx106_0, hx106_1⟩ := at_T36 HR0.out x5_1 p106 q106
         cases e106
         replace p106 := eq_true p106
         replace q106 := eq_true q106
         have p107 : 0 ≤ (x5_1 : Int) := (by first | exact of_decide_eq_true (by first | (with_reducible assumption) | assumption) | assumption | omega)
         have q107 : x5_1 < (l1.length : Int) := (by first | exact of_decide_eq_true (by first | (with_reducible assumption) | assumption) | assumption | omega)
         obtain ⟨ad107, e107, hx107_0, hx107_1⟩ := at_T36 HR1.out x5_1 p107 q107
         cases e107
         replace p107 := eq_true p107
         replace q107 := eq_true q107
         go_wp2
         repeat (go_quiet (fail); try go_wp2)
         go_roundg k1
         case measure => have := HK1.out; omega
         case rel => exact ⟨(wrap64 (x5_1 + 1)), (by first | rfl | (simp; done) | (simp [*]; done) | (simp; generalize ByteArray.toList _ = l_; cases l_ <;> rfl)), H', ⟨by have := HK1.out; omega⟩, by repeat (first | exact Drawn0.refl _ | apply Drawn0.step)⟩
       ·rw [if_neg c6] at H
        exact absurd H (by simp)
      ·rw [if_neg c5] at H
       exact absurd H (by simp)
     ·rw [if_neg c4] at H
      have c4b0 : decide (x5_1 < (l0.length : Int)) = false := decide_eq_false c4
      clear c4
      obtain rfl := Option.some.inj H
      go_wp2
      repeat (go_quiet (fail); try go_wp2)
      go_ret
      exact ⟨by first | rfl | (simp; done) | (simp [*]; done) | (simp; generalize ByteArray.toList _ = l_; cases l_ <;> rfl), by repeat (first | exact Drawn0.refl _ | apply Drawn0.step)⟩
 ·rw [if_neg c3] at H
  have c3b0 : ((l0.length : Int) == (l1.length : Int)) = false := beq_eq_false_iff_ne.mpr c3
  have c3b1 : ((l0.length : Int) != (l1.length : Int)) = true := bne_iff_ne.mpr c3
  have c3b2 : (l0.length == l1.length) = false := by first | simpa using c3 | (simp at c3 ⊢; omega)
  obtain rfl := Option.some.inj H
  go_enter Tryz.func71, Tryz.ntmps71
  go_wp2
  repeat (go_quiet (fail); try go_wp2)
  go_ret
  exact ⟨by first | rfl | (simp; done) | (simp [*]; done) | (simp; generalize ByteArray.toList _ = l_; cases l_ <;> rfl), by repeat (first | exact Drawn0.refl _ | apply Drawn0.step)⟩
end Go.Proofs.YtkcmghlhpbepcaaGreatDoorH.W7

/- Contract of the document's Same: whether rows are the same. Nothing that lay in memory turns. -/
namespace Go.Proofs.YtkcmghlhpbepcaaGreatDoorH.W7
open Go.RowKit Go.Proofs Go.Proofs.YtkcmghlhpbepcaaGreatDoor Go.Proofs.YtkcmghlhpbepcaaGreatDoorW.PrintWords
theorem refAttrs_l0 (xs ys : List S36) (hl : xs.length = ys.length) (hx : xs.length ≤ 9223372036854775807) : ∀ (d i k : Nat), xs.length - i ≤ d → i ≤ xs.length → d < k →
 boltingref04_Attrs.l0 k xs ys i = some (decide ((xs.drop i).map prS = (ys.drop i).map prS)) := by
 intro d
 induction d with
 | zero =>
   intro i k hd hi hk
   obtain ⟨k, rfl⟩ : ∃ m, k = m + 1 := ⟨k - 1, by omega⟩
   simp only [boltingref04_Attrs.l0]
   rw [if_neg (by omega), List.drop_of_length_le (by omega), List.drop_of_length_le (by omega)]
   rfl
 | succ d ih =>
   intro i k hd hi hk
   obtain ⟨k, rfl⟩ : ∃ m, k = m + 1 := ⟨k - 1, by omega⟩
   by_cases hlt : i < xs.length
   ·have hyi : i < ys.length := by omega
    have ex : rd_T36 xs i = xs[i] := by simp [rd_T36, hlt]
    have ey : rd_T36 ys i = ys[i] := by simp [rd_T36, hyi]
    simp only [boltingref04_Attrs.l0]
    rw [if_pos (by omega), if_pos (by omega), if_pos (by omega), ex, ey, bytes_beq, bytes_beq, List.drop_eq_getElem_cons hlt, List.drop_eq_getElem_cons hyi, List.map_cons, List.map_cons]
    by_cases he : prS xs[i] = prS ys[i]
    ·have h1 : (xs[i].f0.data.toList == ys[i].f0.data.toList) = true := by rw [beq_iff_eq]; exact congrArg Prod.fst he
     have h2 : (xs[i].f1.data.toList == ys[i].f1.data.toList) = true := by rw [beq_iff_eq]; exact congrArg Prod.snd he
     rw [h1, h2]
     simp only [Bool.not_true, Bool.or_self, Bool.false_eq_true, if_false]
     rw [show wrap64 ((i : Int) + 1) = ((i + 1 : Nat) : Int) from by rw [w64 (by omega) (by omega)]; omega, ih (i + 1) k (by omega) (by omega) (by omega), he]
     congr 1
     simp
    ·have h1 : (!(xs[i].f0.data.toList == ys[i].f0.data.toList) || !(xs[i].f1.data.toList == ys[i].f1.data.toList)) = true := by
      by_cases h2 : xs[i].f0.data.toList = ys[i].f0.data.toList
      ·have h3 : ¬ xs[i].f1.data.toList = ys[i].f1.data.toList := fun h3 => he (by unfold prS; rw [h2, h3])
       rw [Bool.or_eq_true]; exact .inr (by rw [Bool.not_eq_true', beq_eq_false_iff_ne]; exact h3)
      ·rw [Bool.or_eq_true]; exact .inl (by rw [Bool.not_eq_true', beq_eq_false_iff_ne]; exact h2)
     rw [if_pos h1, decide_eq_false (fun e => he (List.cons.inj e).1)]
   ·simp only [boltingref04_Attrs.l0]
    rw [if_neg (by omega), List.drop_of_length_le (by omega), List.drop_of_length_le (by omega)]
    rfl
theorem refAttrs_f (xs ys : List S36) (hx : xs.length ≤ 9223372036854775807) : boltingref04_Attrs.f (xs.length + 1) xs ys = some (decide (xs.map prS = ys.map prS)) := by
 unfold boltingref04_Attrs.f
 by_cases h : xs.length = ys.length
 ·rw [if_pos (by omega)]
  exact refAttrs_l0 xs ys h hx xs.length 0 _ (by omega) (by omega) (by omega)
 ·rw [if_neg (by omega), decide_eq_false (fun e => h (by simpa using congrArg List.length e))]
def boltingref04_Same.f (l0 l1 : List Rw) : Option Bool := some (decide (l0.map rowS = l1.map rowS))
theorem two_new (w : World) (cs ds : Array Value) (t : TypeId) (W : World) (h : ((w.alloc (.cells cs t)).alloc (.cells ds t)).drew = W) : W.heap[w.heap.size]? = some (.cells cs t (0, 0)) ∧ W.heap[w.heap.size + 1]? = some (.cells ds t (0, 0)) ∧ Below w.heap.size w W := by
 subst h
 have h1 := new_cells w cs t
 have h2 := new_cells (w.alloc (.cells cs t)) ds t
 rw [World.size_alloc] at h2
 have hb : Below w.heap.size w ((w.alloc (.cells cs t)).alloc (.cells ds t)) := ((Below.refl _ w).alloc (Nat.le_refl _) _).alloc (by simp) _
 have h3 := heap_below h1 ((Below.refl _ (w.alloc (.cells cs t))).alloc (Nat.le_refl _) (.cells ds t))
 exact ⟨h3, h2, Go.Proofs.YtkcmghlhpbepcaaGreatDoorW.PrintWords.below_drew hb⟩
theorem ba_ext {a b : ByteArray} (h : a.data.toList = b.data.toList) : a = b := by
 obtain ⟨x⟩ := a
 obtain ⟨y⟩ := b
 have : x = y := by simpa using h
 rw [this]
set_option maxHeartbeats 3200000 in
set_option maxRecDepth 100000 in
theorem boltingref04_Same.calls (A0 : Option Addr) (c0 : Nat) (l0 : List Rw) (A1 : Option Addr) (c1 : Nat) (l1 : List Rw) (r : Bool) (w : World) (hr0 : k34.C w A0 l0.length l0) (hc0 : l0.length ≤ c0) (hr1 : k34.C w A1 l1.length l1) (hc1 : l1.length ≤ c1) (h : boltingref04_Same.f l0 l1 = some r) :
 Calls Tryz.prog 22 #[.slice A0 l0.length c0, .slice A1 l1.length c1] w fun e w' => e = .returned (.bool r) ∧ Below w.heap.size w w' := by
 have hd : decide (l0.map rowS = l1.map rowS) = r := Option.some.inj h
 clear h
 have hxl := hr0.2.1
 have hyl := hr1.2.1
 by_cases hlen : l0.length = l1.length
 case neg =>
  have e : decide (l0.map rowS = l1.map rowS) = false := decide_eq_false (fun e => hlen (by simpa using congrArg List.length e))
  obtain rfl : false = r := e.symm.trans hd
  clear hd e
  have e1 : ((l0.length : Int) == (l1.length : Int)) = false := by rw [beq_eq_false_iff_ne]; omega
  have e2 : ((l0.length : Int) != (l1.length : Int)) = true := by rw [bne_iff_ne]; omega
  go_enter Tryz.func22, Tryz.ntmps22
  go_wp2
  go_ret
  exact ⟨rfl, Below.refl _ _⟩
 replace hd := Lib.hid hd
 have hlb : ((l0.length : Int) == (l1.length : Int)) = true := by rw [hlen, beq_self_eq_true]
 have hlb2 : ((l0.length : Int) != (l1.length : Int)) = false := by rw [hlen, bne_self_eq_false]
 replace hlen := Lib.hid hlen
 go_enter Tryz.func22, Tryz.ntmps22
 go_wp2
 go_loopw [5] (fun vi wr => ∃ i : Nat, vi = .int .i64 i ∧ i ≤ l0.length ∧ Hid (decide ((l0.drop i).map rowS = (l1.drop i).map rowS) = r) ∧ Below w.heap.size w wr) (fun vi _ => l0.length - (intOf vi).toNat)
 case atStart => exact ⟨0, rfl, Nat.zero_le _, hd, Below.refl _ _⟩
 case round =>
  obtain ⟨i, rfl, hi, hq, hB⟩ := hrel
  by_cases hlt : i < l0.length
  ·have hlt1 : i < l1.length := hlen.out ▸ hlt
   obtain ⟨g, o, A4, c4, rfl, x0, x1, x2, x3, x4, lx, hax⟩ := row_at (Kd.C_below hr0 hB) i hlt
   obtain ⟨g', o', A5, c5, rfl, y0, y1, y2, y3, y4, ly, hay⟩ := row_at (Kd.C_below hr1 hB) i hlt1
   rw [List.drop_eq_getElem_cons hlt, List.drop_eq_getElem_cons hlt1, List.map_cons, List.map_cons] at hq
   generalize l0[i] = x at *
   generalize l1[i] = y at *
   obtain ⟨xd, xk, xn, xt, xa⟩ := x
   obtain ⟨yd, yk, yn, yt, ya⟩ := y
   simp only at x0 x1 x2 x3 x4 y0 y1 y2 y3 y4 lx ly hax hay
   have hbd : Below wr.heap.size wr wr.drew := Go.Proofs.YtkcmghlhpbepcaaGreatDoorW.PrintWords.below_drew (Below.refl _ _)
   have K := Lib.hid (fun (W : World) (h : Below wr.heap.size wr W) => show (W.cell? ⟨g, o + i * 5, none⟩ = some (.int .i64 xd) ∧ W.cell? ⟨g, o + i * 5 + 1, none⟩ = some (.int .i64 xk) ∧ W.cell? ⟨g, o + i * 5 + 2, none⟩ = some (.string xn) ∧ W.cell? ⟨g, o + i * 5 + 3, none⟩ = some (.string xt) ∧ W.cell? ⟨g, o + i * 5 + 4, none⟩ = some (.slice A4 xa.length c4)) ∧ W.cell? ⟨g', o' + i * 5, none⟩ = some (.int .i64 yd) ∧ W.cell? ⟨g', o' + i * 5 + 1, none⟩ = some (.int .i64 yk) ∧ W.cell? ⟨g', o' + i * 5 + 2, none⟩ = some (.string yn) ∧ W.cell? ⟨g', o' + i * 5 + 3, none⟩ = some (.string yt) ∧ W.cell? ⟨g', o' + i * 5 + 4, none⟩ = some (.slice A5 ya.length c5) from ⟨⟨cell_keep x0 h, cell_keep x1 h, cell_keep x2 h, cell_keep x3 h, cell_keep x4 h⟩, cell_keep y0 h, cell_keep y1 h, cell_keep y2 h, cell_keep y3 h, cell_keep y4 h⟩)
   go_wp2
   go_region_held3 (fun W => (W.cell? ⟨g, o + i * 5, none⟩ = some (.int .i64 xd) ∧ W.cell? ⟨g, o + i * 5 + 1, none⟩ = some (.int .i64 xk) ∧ W.cell? ⟨g, o + i * 5 + 2, none⟩ = some (.string xn) ∧ W.cell? ⟨g, o + i * 5 + 3, none⟩ = some (.string xt) ∧ W.cell? ⟨g, o + i * 5 + 4, none⟩ = some (.slice A4 xa.length c4)) ∧ W.cell? ⟨g', o' + i * 5, none⟩ = some (.int .i64 yd) ∧ W.cell? ⟨g', o' + i * 5 + 1, none⟩ = some (.int .i64 yk) ∧ W.cell? ⟨g', o' + i * 5 + 2, none⟩ = some (.string yn) ∧ W.cell? ⟨g', o' + i * 5 + 3, none⟩ = some (.string yt) ∧ W.cell? ⟨g', o' + i * 5 + 4, none⟩ = some (.slice A5 ya.length c5)) ((refine K.out _ ?_; repeat (first | with_reducible exact Below.refl _ _ | with_reducible refine Go.Proofs.YtkcmghlhpbepcaaGreatDoorW.PrintWords.below_drew ?_ | (with_reducible refine Below.alloc ?_ (by first | exact Nat.le_refl _ | (simp; done) | (simp; omega)) _) | (refine below_set ?_ (by first | exact Nat.le_refl _ | (simp; done) | (simp; omega)))))) (fail)
   all_goals (
    first
     | (generalize hW : World.drew (World.alloc (World.alloc wr (.cells #[.int .i64 xd, .int .i64 xk, .string xn, .string xt, .slice A4 xa.length c4] 34)) (.cells #[.int .i64 yd, .int .i64 yk, .string yn, .string yt, .slice A5 ya.length c5] 34)) = W5; (fail_if_success (clear hW W5)); obtain ⟨hx, hy, hX⟩ := two_new wr _ _ _ _ hW)
     | (generalize hW : World.drew (World.alloc (World.alloc wr (.cells #[.int .i64 yd, .int .i64 yk, .string yn, .string yt, .slice A5 ya.length c5] 34)) (.cells #[.int .i64 xd, .int .i64 xk, .string xn, .string xt, .slice A4 xa.length c4] 34)) = W5; (fail_if_success (clear hW W5)); obtain ⟨hy, hx, hX⟩ := two_new wr _ _ _ _ hW)
    clear hW K
    obtain ⟨⟨p0, p1, p2, p3, p4⟩, p5⟩ := five_facts hx
    obtain ⟨⟨q0, q1, q2, q3, q4⟩, q5⟩ := five_facts hy
    have hX5 : Below w.heap.size w W5 := hB.trans (hX.mono hB.size)
    have hat := Lib.hid (boltingref04_Attrs.calls (xa.length + 1) A4 c4 xa A5 c5 ya _ W5 (Kd.C_below hax hX) lx (Kd.C_below hay hX) ly (refAttrs_f xa ya hax.2.1))
    have hne : ¬ rowS ⟨xd, xk, xn, xt, xa⟩ = rowS ⟨yd, yk, yn, yt, ya⟩ → false = r := fun e => (decide_eq_false (fun h => e (List.cons.inj h).1)).symm.trans hq
    by_cases e0 : xd = yd
    case neg =>
     have f1 : (xd == yd) = false := beq_eq_false_iff_ne.mpr e0
     have f2 : (xd != yd) = true := bne_iff_ne.mpr e0
     obtain rfl := hne (fun h => e0 (congrArg Rr.depth h))
     clear hne hq
     go_wp2
     go_ret
     exact ⟨rfl, hX5⟩
    subst e0
    by_cases e1 : xk = yk
    case neg =>
     have f1 : (xk == yk) = false := beq_eq_false_iff_ne.mpr e1
     have f2 : (xk != yk) = true := bne_iff_ne.mpr e1
     obtain rfl := hne (fun h => e1 (congrArg Rr.kind h))
     clear hne hq
     go_wp2
     go_ret
     exact ⟨rfl, hX5⟩
    subst e1
    by_cases e2 : xn = yn
    case neg =>
     have f0 : ¬ xn.toList = yn.toList := fun h => e2 (ba_ext ((bytes_iff _ _).1 h))
     have f1 : (xn.toList == yn.toList) = false := beq_eq_false_iff_ne.mpr f0
     have f2 : (xn.toList != yn.toList) = true := bne_iff_ne.mpr f0
     obtain rfl := hne (fun h => e2 (ba_ext (congrArg Rr.name h)))
     clear hne hq
     go_wp2
     go_ret
     exact ⟨rfl, hX5⟩
    subst e2
    by_cases e3 : xt = yt
    case neg =>
     have f0 : ¬ xt.toList = yt.toList := fun h => e3 (ba_ext ((bytes_iff _ _).1 h))
     have f1 : (xt.toList == yt.toList) = false := beq_eq_false_iff_ne.mpr f0
     have f2 : (xt.toList != yt.toList) = true := bne_iff_ne.mpr f0
     obtain rfl := hne (fun h => e3 (ba_ext (congrArg Rr.data h)))
     clear hne hq
     go_wp2
     go_ret
     exact ⟨rfl, hX5⟩
    subst e3
    by_cases e4 : xa.map prS = ya.map prS
    case neg =>
     rw [decide_eq_false e4] at hat
     obtain rfl := hne (fun h => e4 (congrArg Rr.attrs h))
     clear hne hq
     go_wp2_with (go_at_call 71; ((with_reducible refine hat.out.mono ?_); rintro e W6 ⟨rfl, ⟨nd, rfl⟩⟩))
     go_ret
     exact ⟨rfl, Go.Proofs.YtkcmghlhpbepcaaGreatDoorW.PrintWords.pw_below_drewN hX5 nd⟩
    rw [decide_eq_true e4] at hat
    have hrow : rowS ⟨xd, xk, xn, xt, xa⟩ = rowS ⟨xd, xk, xn, xt, ya⟩ := by simp only [rowS, e4]
    have hq2 : Hid (decide ((l0.drop (i + 1)).map rowS = (l1.drop (i + 1)).map rowS) = r) := Lib.hid (by rw [← hq, hrow]; simp)
    clear hq hne hrow
    go_wp2_with (go_at_call 71; ((with_reducible refine hat.out.mono ?_); rintro e W6 ⟨rfl, ⟨nd, rfl⟩⟩))
    exact ⟨⟨i + 1, rfl, by omega, hq2, Go.Proofs.YtkcmghlhpbepcaaGreatDoorW.PrintWords.pw_below_drewN hX5 nd⟩, by simp [intOf]; omega⟩)
  ·obtain rfl : true = r := by rw [← hq.out, List.drop_of_length_le (by omega), List.drop_of_length_le (by have := hlen.out; omega)]; rfl
   clear hd hq
   go_wp2
   go_ret
   exact ⟨rfl, hB⟩
end Go.Proofs.YtkcmghlhpbepcaaGreatDoorH.W7

/- The fixed answers of layer 7, by the kernel; rows that were just laid. -/
namespace Go.Proofs.YtkcmghlhpbepcaaGreatDoorH.W7
open Go.RowKit Go.Proofs Go.Proofs.YtkcmghlhpbepcaaGreatDoor Go.Proofs.YtkcmghlhpbepcaaGreatDoorW.PrintWords
abbrev z7 : ByteArray := ⟨#[]⟩
abbrev sA : ByteArray := ⟨#[97]⟩
abbrev sB : ByteArray := ⟨#[98]⟩
abbrev sC : ByteArray := ⟨#[99]⟩
abbrev sUl : ByteArray := ⟨#[117, 108]⟩
abbrev sLi : ByteArray := ⟨#[108, 105]⟩
abbrev sTd : ByteArray := ⟨#[116, 100]⟩
abbrev elR (d : Int) (a : ByteArray) : Rw := ⟨d, 0, a, z7, []⟩
abbrev txR (d : Int) (a : ByteArray) : Rw := ⟨d, 1, z7, a, []⟩
abbrev x1 : List Rw := [elR 0 pN, txR 1 sA, elR 0 pN, txR 1 sB]
abbrev x2 : List Rw := [elR 0 sUl, elR 1 sLi, txR 2 sA, elR 1 sLi, txR 2 sB, txR 0 sC]
abbrev x3 : List Rw := [elR 0 pN]
abbrev x4 : List Rw := [txR 0 ⟨#[97, 99]⟩]
abbrev x5 : List Rw := [txR 0 ⟨#[97, 60, 98, 62]⟩]
set_option maxRecDepth 100000
theorem v1 : build_Parse.f ⟨#[60, 112, 62, 97, 60, 112, 62, 98]⟩ = some (x1, 0) := by kernel_rfl
theorem v2 : build_Parse.f ⟨#[60, 117, 108, 62, 60, 108, 105, 62, 97, 60, 108, 105, 62, 98, 60, 47, 117, 108, 62, 99]⟩ = some (x2, 0) := by kernel_rfl
theorem v3 : build_Parse.f ⟨#[60, 47, 112, 62]⟩ = some (x3, 0) := by kernel_rfl
theorem v4 : build_Parse.f ⟨#[97, 60, 47, 98, 62, 99]⟩ = some (x4, 0) := by kernel_rfl
theorem v5 : build_In.f ⟨#[97, 60, 98, 62]⟩ ⟨#[115, 116, 121, 108, 101]⟩ = some (x5, 0) := by kernel_rfl
theorem n1 : build_Nested.f 100 pN [pN, sB] = some false := by kernel_rfl
theorem n2 : build_Nested.f 100 pN [pN, sTd] = some true := by kernel_rfl
def cellsR (xs : List Rw) : List Value := xs.flatMap fun x => [.int .i64 x.f0, .int .i64 x.f1, .string x.f2, .string x.f3, .slice none 0 0]
theorem cellsR_len : ∀ xs : List Rw, (cellsR xs).length = xs.length * 5
 | [] => rfl
 | x :: xs => by
   show ([_, _, _, _, _] ++ cellsR xs).length = _
   rw [List.length_append, cellsR_len xs]
   simp
   omega
theorem nilC7 (W : World) : k36.C W none 0 [] := ⟨rfl, by omega, fun h => by omega⟩
theorem cellsR_reps (W : World) : ∀ xs : List Rw, (∀ x ∈ xs, x.f4 = []) → Reps (k34.K W) 5 xs (cellsR xs)
 | [], _ => Reps.none _ _
 | ⟨a, b, c, d, e⟩ :: xs, h => by
   obtain rfl : e = [] := h _ List.mem_cons_self
   exact Reps.c5 (k34_mk _ ⟨a, b, c, d, []⟩ (Nat.le_refl _) (nilC7 _)) (cellsR_reps W xs (fun x hx => h x (List.mem_cons_of_mem _ hx)))
theorem rows_lit (w : World) (xs : List Rw) (h : ∀ x ∈ xs, x.f4 = []) (hl : xs.length ≤ 100) : k34.C (w.alloc (.cells (cellsR xs).toArray 34)) (some ⟨w.heap.size, 0, none⟩) xs.length xs := by
 have ho : (w.alloc (.cells (cellsR xs).toArray 34)).ownsRow w.heap.size 34 5 (.slice (some ⟨w.heap.size, 0, none⟩) xs.length xs.length) xs.length (cellsR xs) := by
  refine ⟨cellsR_len xs, .inr ⟨w.heap.size, xs.length, _, rfl, Nat.le_refl _, new_cells w _ _, Nat.le_refl _, by unfold maxLen; omega, ?_, ?_⟩⟩
  ·simp [cellsR_len]
  ·simp
   exact List.take_of_length_le (Nat.le_of_eq (cellsR_len xs))
 obtain ⟨A, c, e, hC⟩ := own_reads_row ho (cellsR_reps _ xs h) rfl
 cases e
 exact hC
theorem el_c (d : Int) (a : ByteArray) (w : World) : Calls Tryz.prog 37 #[.int .i64 d, .string a] w fun e w' => e = .returned (.agg #[.int .i64 d, .int .i64 0, .string a, .string z7, .slice none 0 0]) ∧ Below w.heap.size w w' := by
 go_enter Tryz.func37, Tryz.ntmps37
 go_wp2
 refine bodyPost_ret (results_cell_row rfl _ _ w.heap.size 34 #[.int .i64 d, .int .i64 0, .string a, .string z7, .slice none 0 0] (0, 0) _ rfl (new_cells w _ _) Tryz.underlying34 rfl (by kernel_rfl)) rfl ?_
 exact ⟨rfl, (Below.refl _ w).alloc (Nat.le_refl _) _⟩
theorem tx_c (d : Int) (a : ByteArray) (w : World) : Calls Tryz.prog 29 #[.int .i64 d, .string a] w fun e w' => e = .returned (.agg #[.int .i64 d, .int .i64 1, .string z7, .string a, .slice none 0 0]) ∧ Below w.heap.size w w' := by
 go_enter Tryz.func29, Tryz.ntmps29
 go_wp2
 refine bodyPost_ret (results_cell_row rfl _ _ w.heap.size 34 #[.int .i64 d, .int .i64 1, .string z7, .string a, .slice none 0 0] (0, 0) _ rfl (new_cells w _ _) Tryz.underlying34 rfl (by kernel_rfl)) rfl ?_
 exact ⟨rfl, (Below.refl _ w).alloc (Nat.le_refl _) _⟩
theorem same_refl (xs : List Rw) : boltingref04_Same.f xs xs = some true := by unfold boltingref04_Same.f; simp
abbrev o1 : Obj := .cells #[.int .i64 0, .int .i64 0, .string pN, .string z7, .slice none 0 0, .int .i64 1, .int .i64 1, .string z7, .string sA, .slice none 0 0, .int .i64 0, .int .i64 0, .string pN, .string z7, .slice none 0 0, .int .i64 1, .int .i64 1, .string z7, .string sB, .slice none 0 0] 34
theorem s1 (A : Option Addr) (c : Nat) (w : World) (hC : k34.C w A x1.length x1) (hc : x1.length ≤ c) : Calls Tryz.prog 22 #[.slice A 4 c, .slice (some ⟨w.heap.size, 0, none⟩) 4 4] (w.alloc o1) fun e w' => e = .returned (.bool true) ∧ Below w.heap.size w w' := by
 have h2 := rows_lit w x1 (by simp) (by decide)
 rw [show (Obj.cells (cellsR x1).toArray 34) = o1 from rfl] at h2
 have h1 := Kd.C_alloc hC o1
 have hb := (Below.refl _ w).alloc (Nat.le_refl _) o1
 have hz : w.heap.size ≤ (w.alloc o1).heap.size := hb.size
 generalize w.alloc o1 = W at *
 exact (boltingref04_Same.calls A c x1 (some ⟨w.heap.size, 0, none⟩) 4 x1 true W h1 hc h2 (by decide) (same_refl x1)).mono fun e w' ⟨h, hb0⟩ => ⟨h, hb.trans (hb0.mono hz)⟩
abbrev o2 : Obj := .cells #[.int .i64 0, .int .i64 0, .string sUl, .string z7, .slice none 0 0, .int .i64 1, .int .i64 0, .string sLi, .string z7, .slice none 0 0, .int .i64 2, .int .i64 1, .string z7, .string sA, .slice none 0 0, .int .i64 1, .int .i64 0, .string sLi, .string z7, .slice none 0 0, .int .i64 2, .int .i64 1, .string z7, .string sB, .slice none 0 0, .int .i64 0, .int .i64 1, .string z7, .string sC, .slice none 0 0] 34
theorem s2 (A : Option Addr) (c : Nat) (w : World) (hC : k34.C w A x2.length x2) (hc : x2.length ≤ c) : Calls Tryz.prog 22 #[.slice A 6 c, .slice (some ⟨w.heap.size, 0, none⟩) 6 6] (w.alloc o2) fun e w' => e = .returned (.bool true) ∧ Below w.heap.size w w' := by
 have h2 := rows_lit w x2 (by simp) (by decide)
 rw [show (Obj.cells (cellsR x2).toArray 34) = o2 from rfl] at h2
 have h1 := Kd.C_alloc hC o2
 have hb := (Below.refl _ w).alloc (Nat.le_refl _) o2
 have hz : w.heap.size ≤ (w.alloc o2).heap.size := hb.size
 generalize w.alloc o2 = W at *
 exact (boltingref04_Same.calls A c x2 (some ⟨w.heap.size, 0, none⟩) 6 x2 true W h1 hc h2 (by decide) (same_refl x2)).mono fun e w' ⟨h, hb0⟩ => ⟨h, hb.trans (hb0.mono hz)⟩
abbrev o3 : Obj := .cells #[.int .i64 0, .int .i64 0, .string pN, .string z7, .slice none 0 0] 34
theorem s3 (A : Option Addr) (c : Nat) (w : World) (hC : k34.C w A x3.length x3) (hc : x3.length ≤ c) : Calls Tryz.prog 22 #[.slice A 1 c, .slice (some ⟨w.heap.size, 0, none⟩) 1 1] (w.alloc o3) fun e w' => e = .returned (.bool true) ∧ Below w.heap.size w w' := by
 have h2 := rows_lit w x3 (by simp) (by decide)
 rw [show (Obj.cells (cellsR x3).toArray 34) = o3 from rfl] at h2
 have h1 := Kd.C_alloc hC o3
 have hb := (Below.refl _ w).alloc (Nat.le_refl _) o3
 have hz : w.heap.size ≤ (w.alloc o3).heap.size := hb.size
 generalize w.alloc o3 = W at *
 exact (boltingref04_Same.calls A c x3 (some ⟨w.heap.size, 0, none⟩) 1 x3 true W h1 hc h2 (by decide) (same_refl x3)).mono fun e w' ⟨h, hb0⟩ => ⟨h, hb.trans (hb0.mono hz)⟩
abbrev o4 : Obj := .cells #[.int .i64 0, .int .i64 1, .string z7, .string ⟨#[97, 99]⟩, .slice none 0 0] 34
theorem s4 (A : Option Addr) (c : Nat) (w : World) (hC : k34.C w A x4.length x4) (hc : x4.length ≤ c) : Calls Tryz.prog 22 #[.slice A 1 c, .slice (some ⟨w.heap.size, 0, none⟩) 1 1] (w.alloc o4) fun e w' => e = .returned (.bool true) ∧ Below w.heap.size w w' := by
 have h2 := rows_lit w x4 (by simp) (by decide)
 rw [show (Obj.cells (cellsR x4).toArray 34) = o4 from rfl] at h2
 have h1 := Kd.C_alloc hC o4
 have hb := (Below.refl _ w).alloc (Nat.le_refl _) o4
 have hz : w.heap.size ≤ (w.alloc o4).heap.size := hb.size
 generalize w.alloc o4 = W at *
 exact (boltingref04_Same.calls A c x4 (some ⟨w.heap.size, 0, none⟩) 1 x4 true W h1 hc h2 (by decide) (same_refl x4)).mono fun e w' ⟨h, hb0⟩ => ⟨h, hb.trans (hb0.mono hz)⟩
abbrev o5 : Obj := .cells #[.int .i64 0, .int .i64 1, .string z7, .string ⟨#[97, 60, 98, 62]⟩, .slice none 0 0] 34
theorem s5 (A : Option Addr) (c : Nat) (w : World) (hC : k34.C w A x5.length x5) (hc : x5.length ≤ c) : Calls Tryz.prog 22 #[.slice A 1 c, .slice (some ⟨w.heap.size, 0, none⟩) 1 1] (w.alloc o5) fun e w' => e = .returned (.bool true) ∧ Below w.heap.size w w' := by
 have h2 := rows_lit w x5 (by simp) (by decide)
 rw [show (Obj.cells (cellsR x5).toArray 34) = o5 from rfl] at h2
 have h1 := Kd.C_alloc hC o5
 have hb := (Below.refl _ w).alloc (Nat.le_refl _) o5
 have hz : w.heap.size ≤ (w.alloc o5).heap.size := hb.size
 generalize w.alloc o5 = W at *
 exact (boltingref04_Same.calls A c x5 (some ⟨w.heap.size, 0, none⟩) 1 x5 true W h1 hc h2 (by decide) (same_refl x5)).mono fun e w' ⟨h, hb0⟩ => ⟨h, hb.trans (hb0.mono hz)⟩
theorem lit2 (W : World) (a b : ByteArray) : Kd.string.C (W.alloc (.cells #[.string a, .string b] 9)) (some ⟨W.heap.size, 0, none⟩) 2 [a, b] := by
 have ho : (W.alloc (.cells #[.string a, .string b] 9)).ownsRow W.heap.size 9 1 (.slice (some ⟨W.heap.size, 0, none⟩) 2 2) 2 [.string a, .string b] := ⟨rfl, .inr ⟨W.heap.size, 2, _, rfl, Nat.le_refl _, new_cells W _ _, Nat.le_refl _, by unfold maxLen; omega, rfl, rfl⟩⟩
 have hr : Reps (Kd.string.K (W.alloc (.cells #[.string a, .string b] 9))) 1 [a, b] [.string a, .string b] := Reps.one (show Kd.K Kd.string _ a _ from rfl) (Reps.one (show Kd.K Kd.string _ b _ from rfl) (Reps.none _ _))
 obtain ⟨A, c, e, hC⟩ := own_reads_row ho hr rfl
 cases e
 exact hC
theorem nest_c (b : ByteArray) (r : Bool) (h : build_Nested.f 100 pN [pN, b] = some r) (w : World) : Calls Tryz.prog 27 #[.string pN, .slice (some ⟨w.heap.size, 0, none⟩) 2 2] (w.alloc (.cells #[.string pN, .string b] 9)) fun e w' => e = .returned (.bool r) ∧ Below w.heap.size w w' := by
 have h2 := lit2 w pN b
 have hb := (Below.refl _ w).alloc (Nat.le_refl _) (.cells #[.string pN, .string b] 9)
 have hz : w.heap.size ≤ (w.alloc (.cells #[.string pN, .string b] 9)).heap.size := hb.size
 generalize w.alloc (.cells #[.string pN, .string b] 9) = W at *
 exact (build_Nested.calls 100 pN _ 2 [pN, b] r W h2 (Nat.le_refl 2) h).mono fun e w' ⟨h, hb0⟩ => ⟨h, hb.trans (hb0.mono hz)⟩
end Go.Proofs.YtkcmghlhpbepcaaGreatDoorH.W7

/- The calls whose answers the document fixes: the walk. -/
namespace Go.Proofs.YtkcmghlhpbepcaaGreatDoorH.W7
open Go.RowKit Go.Proofs Go.Proofs.YtkcmghlhpbepcaaGreatDoor Go.Proofs.YtkcmghlhpbepcaaGreatDoorW.PrintWords Go.Proofs.YtkcmghlhpbepcaaGreatDoorW.PrintLast
set_option maxHeartbeats 3200000 in
set_option maxRecDepth 100000 in
theorem fixed7_c (w : World) (hS : Std w) : Calls Tryz.prog 23 #[] w fun e w' => e = .returned (.bool true) ∧ Below w.heap.size w w' := by
 have HB := Below.refl w.heap.size w
 go_enter Tryz.func23, Tryz.ntmps23
 go_upto_region 6 with (first
  | (go_at_call 26; ((with_reducible refine (build_Parse.calls _ _ _ _ v1 (hS.below HB)).mono ?_); rintro e w1 ⟨v1, rfl, hR, hb⟩; obtain ⟨A1, c1, rfl⟩ := Kd.R_slice hR; have hc1 := (Kd.R_reads' hR).2.1; have hC1 := (Kd.R_reads' hR).2.2; have HBn := HB.trans (hb.mono HB.size); clear HB; have HB := HBn; clear HBn hb hR))
  | (go_at_call 26; ((with_reducible refine (build_Parse.calls _ _ _ _ v2 (hS.below HB)).mono ?_); rintro e w2 ⟨v2, rfl, hR, hb⟩; obtain ⟨A2, c2, rfl⟩ := Kd.R_slice hR; have hc2 := (Kd.R_reads' hR).2.1; have hC2 := (Kd.R_reads' hR).2.2; have hC1n := Kd.C_below hC1 hb; clear hC1; have hC1 := hC1n; clear hC1n; have HBn := HB.trans (hb.mono HB.size); clear HB; have HB := HBn; clear HBn hb hR))
  | (go_at_call 26; ((with_reducible refine (build_Parse.calls _ _ _ _ v3 (hS.below HB)).mono ?_); rintro e w3 ⟨v3, rfl, hR, hb⟩; obtain ⟨A3, c3, rfl⟩ := Kd.R_slice hR; have hc3 := (Kd.R_reads' hR).2.1; have hC3 := (Kd.R_reads' hR).2.2; have hC1n := Kd.C_below hC1 hb; have hC2n := Kd.C_below hC2 hb; clear hC1; have hC1 := hC1n; clear hC1n; clear hC2; have hC2 := hC2n; clear hC2n; have HBn := HB.trans (hb.mono HB.size); clear HB; have HB := HBn; clear HBn hb hR))
  | (go_at_call 26; ((with_reducible refine (build_Parse.calls _ _ _ _ v4 (hS.below HB)).mono ?_); rintro e w4 ⟨v4, rfl, hR, hb⟩; obtain ⟨A4, c4, rfl⟩ := Kd.R_slice hR; have hc4 := (Kd.R_reads' hR).2.1; have hC4 := (Kd.R_reads' hR).2.2; have hC1n := Kd.C_below hC1 hb; have hC2n := Kd.C_below hC2 hb; have hC3n := Kd.C_below hC3 hb; clear hC1; have hC1 := hC1n; clear hC1n; clear hC2; have hC2 := hC2n; clear hC2n; clear hC3; have hC3 := hC3n; clear hC3n; have HBn := HB.trans (hb.mono HB.size); clear HB; have HB := HBn; clear HBn hb hR))
  | (go_at_call 24; ((with_reducible refine (build_In.calls _ _ _ _ _ v5 (hS.below HB)).mono ?_); rintro e w5 ⟨v5, rfl, hR, hb⟩; obtain ⟨A5, c5, rfl⟩ := Kd.R_slice hR; have hc5 := (Kd.R_reads' hR).2.1; have hC5 := (Kd.R_reads' hR).2.2; have hC1n := Kd.C_below hC1 hb; have hC2n := Kd.C_below hC2 hb; have hC3n := Kd.C_below hC3 hb; have hC4n := Kd.C_below hC4 hb; clear hC1; have hC1 := hC1n; clear hC1n; clear hC2; have hC2 := hC2n; clear hC2n; clear hC3; have hC3 := hC3n; clear hC3n; clear hC4; have hC4 := hC4n; clear hC4n; have HBn := HB.trans (hb.mono HB.size); clear HB; have HB := HBn; clear HBn hb hR)))
 go_wp2_with (first
  | (go_at_call 37; ((with_reducible refine (el_c _ _ _).mono ?_); rintro e w9 ⟨rfl, hb⟩; have HBn := HB.trans (hb.mono HB.size); clear HB; have HB := HBn; clear HBn; have hC1n := Kd.C_below hC1 hb; clear hC1; have hC1 := hC1n; clear hC1n; have hC2n := Kd.C_below hC2 hb; clear hC2; have hC2 := hC2n; clear hC2n; have hC3n := Kd.C_below hC3 hb; clear hC3; have hC3 := hC3n; clear hC3n; have hC4n := Kd.C_below hC4 hb; clear hC4; have hC4 := hC4n; clear hC4n; have hC5n := Kd.C_below hC5 hb; clear hC5; have hC5 := hC5n; clear hC5n; clear hb))
  | (go_at_call 29; ((with_reducible refine (tx_c _ _ _).mono ?_); rintro e w9 ⟨rfl, hb⟩; have HBn := HB.trans (hb.mono HB.size); clear HB; have HB := HBn; clear HBn; have hC1n := Kd.C_below hC1 hb; clear hC1; have hC1 := hC1n; clear hC1n; have hC2n := Kd.C_below hC2 hb; clear hC2; have hC2 := hC2n; clear hC2n; have hC3n := Kd.C_below hC3 hb; clear hC3; have hC3 := hC3n; clear hC3n; have hC4n := Kd.C_below hC4 hb; clear hC4; have hC4 := hC4n; clear hC4n; have hC5n := Kd.C_below hC5 hb; clear hC5; have hC5 := hC5n; clear hC5n; clear hb))
  | (go_at_call 22; ((with_reducible refine (s1 A1 c1 _ hC1 hc1).mono ?_); rintro e w10 ⟨rfl, hb⟩; have HBn := HB.trans (hb.mono HB.size); clear HB; have HB := HBn; clear HBn; have hC1n := Kd.C_below hC1 hb; clear hC1; have hC1 := hC1n; clear hC1n; have hC2n := Kd.C_below hC2 hb; clear hC2; have hC2 := hC2n; clear hC2n; have hC3n := Kd.C_below hC3 hb; clear hC3; have hC3 := hC3n; clear hC3n; have hC4n := Kd.C_below hC4 hb; clear hC4; have hC4 := hC4n; clear hC4n; have hC5n := Kd.C_below hC5 hb; clear hC5; have hC5 := hC5n; clear hC5n; clear hb))
  | (go_at_call 22; ((with_reducible refine (s2 A2 c2 _ hC2 hc2).mono ?_); rintro e w10 ⟨rfl, hb⟩; have HBn := HB.trans (hb.mono HB.size); clear HB; have HB := HBn; clear HBn; have hC1n := Kd.C_below hC1 hb; clear hC1; have hC1 := hC1n; clear hC1n; have hC2n := Kd.C_below hC2 hb; clear hC2; have hC2 := hC2n; clear hC2n; have hC3n := Kd.C_below hC3 hb; clear hC3; have hC3 := hC3n; clear hC3n; have hC4n := Kd.C_below hC4 hb; clear hC4; have hC4 := hC4n; clear hC4n; have hC5n := Kd.C_below hC5 hb; clear hC5; have hC5 := hC5n; clear hC5n; clear hb))
  | (go_at_call 22; ((with_reducible refine (s3 A3 c3 _ hC3 hc3).mono ?_); rintro e w10 ⟨rfl, hb⟩; have HBn := HB.trans (hb.mono HB.size); clear HB; have HB := HBn; clear HBn; have hC1n := Kd.C_below hC1 hb; clear hC1; have hC1 := hC1n; clear hC1n; have hC2n := Kd.C_below hC2 hb; clear hC2; have hC2 := hC2n; clear hC2n; have hC3n := Kd.C_below hC3 hb; clear hC3; have hC3 := hC3n; clear hC3n; have hC4n := Kd.C_below hC4 hb; clear hC4; have hC4 := hC4n; clear hC4n; have hC5n := Kd.C_below hC5 hb; clear hC5; have hC5 := hC5n; clear hC5n; clear hb))
  | (go_at_call 22; ((with_reducible refine (s4 A4 c4 _ hC4 hc4).mono ?_); rintro e w10 ⟨rfl, hb⟩; have HBn := HB.trans (hb.mono HB.size); clear HB; have HB := HBn; clear HBn; have hC1n := Kd.C_below hC1 hb; clear hC1; have hC1 := hC1n; clear hC1n; have hC2n := Kd.C_below hC2 hb; clear hC2; have hC2 := hC2n; clear hC2n; have hC3n := Kd.C_below hC3 hb; clear hC3; have hC3 := hC3n; clear hC3n; have hC4n := Kd.C_below hC4 hb; clear hC4; have hC4 := hC4n; clear hC4n; have hC5n := Kd.C_below hC5 hb; clear hC5; have hC5 := hC5n; clear hC5n; clear hb))
  | (go_at_call 22; ((with_reducible refine (s5 A5 c5 _ hC5 hc5).mono ?_); rintro e w10 ⟨rfl, hb⟩; have HBn := HB.trans (hb.mono HB.size); clear HB; have HB := HBn; clear HBn; have hC1n := Kd.C_below hC1 hb; clear hC1; have hC1 := hC1n; clear hC1n; have hC2n := Kd.C_below hC2 hb; clear hC2; have hC2 := hC2n; clear hC2n; have hC3n := Kd.C_below hC3 hb; clear hC3; have hC3 := hC3n; clear hC3n; have hC4n := Kd.C_below hC4 hb; clear hC4; have hC4 := hC4n; clear hC4n; have hC5n := Kd.C_below hC5 hb; clear hC5; have hC5 := hC5n; clear hC5n; clear hb))
  | (go_at_call 27; ((with_reducible refine (nest_c sB _ n1 _).mono ?_); rintro e w10 ⟨rfl, hb⟩; have HBn := HB.trans (hb.mono HB.size); clear HB; have HB := HBn; clear HBn; have hC1n := Kd.C_below hC1 hb; clear hC1; have hC1 := hC1n; clear hC1n; have hC2n := Kd.C_below hC2 hb; clear hC2; have hC2 := hC2n; clear hC2n; have hC3n := Kd.C_below hC3 hb; clear hC3; have hC3 := hC3n; clear hC3n; have hC4n := Kd.C_below hC4 hb; clear hC4; have hC4 := hC4n; clear hC4n; have hC5n := Kd.C_below hC5 hb; clear hC5; have hC5 := hC5n; clear hC5n; clear hb))
  | (go_at_call 27; ((with_reducible refine (nest_c sTd _ n2 _).mono ?_); rintro e w10 ⟨rfl, hb⟩; have HBn := HB.trans (hb.mono HB.size); clear HB; have HB := HBn; clear HBn; have hC1n := Kd.C_below hC1 hb; clear hC1; have hC1 := hC1n; clear hC1n; have hC2n := Kd.C_below hC2 hb; clear hC2; have hC2 := hC2n; clear hC2n; have hC3n := Kd.C_below hC3 hb; clear hC3; have hC3 := hC3n; clear hC3n; have hC4n := Kd.C_below hC4 hb; clear hC4; have hC4 := hC4n; clear hC4n; have hC5n := Kd.C_below hC5 hb; clear hC5; have hC5 := hC5n; clear hC5n; clear hb)))
 go_ret
 exact ⟨rfl, HB⟩
def boltinglaw07_fixed.f : Option Bool := some true
end Go.Proofs.YtkcmghlhpbepcaaGreatDoorH.W7
