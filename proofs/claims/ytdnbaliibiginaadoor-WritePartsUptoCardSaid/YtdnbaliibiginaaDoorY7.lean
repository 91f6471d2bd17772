/- Lemmas and walks, part 7: QR8A, QPW8x4, QPW8x5, QR8K. -/
import Derived.Test.YtdnbaliibiginaaDoorY4
import Derived.Test.YtdnbaliibiginaaDoorY6
import Derived.RangeFuncNested
import Derived.RangeFuncBound
import Derived.RangeFuncCalls
import Derived.RangeFuncLeaves
import Derived.RangeFuncBox
import Derived.Shelf.Abstract
import Derived.Shelf.RegionOpen
import Derived.WalkKit
import Derived.OwnWalkIn
import Derived.TacticsInMore
import Derived.LoopNIn
import Derived.LoopIn
import Derived.Maps.AppendAt
set_option linter.unusedVariables false
set_option linter.unusedSimpArgs false

/- Contract of rows.big: too many rows, or too deep ones. Nothing that lay in memory turns. -/
namespace Go.Proofs.YtdnbaliibiginaaDoorH.W8
open Go.RowKit Go.Proofs Go.Proofs.YtdnbaliibiginaaDoor
abbrev Rw := S35
theorem spot_of {w : World} {a : Addr} {v : Value} (h : w.cell? a = some v) : a = ⟨a.block, a.off, none⟩ := by
 obtain ⟨b, o, s⟩ := a
 cases s with
 | none => rfl
 | some s =>
  unfold World.cell? at h
  split at h <;> simp at h
theorem addr_at (b o n : Nat) : Addr.add ⟨b, o, none⟩ n = ⟨b, o + n, none⟩ := by
 unfold Addr.add
 split <;> simp_all
theorem row_at {w : World} {A : Option Addr} {xs : List Rw} (h : k35.C w A xs.length xs) (i : Nat) (hi : i < xs.length) :
  ∃ g o A4 c4, A = some ⟨g, o, none⟩ ∧ w.cell? ⟨g, o + i * 5, none⟩ = some (.int .i64 xs[i].f0) ∧ w.cell? ⟨g, o + i * 5 + 1, none⟩ = some (.int .i64 xs[i].f1) ∧ w.cell? ⟨g, o + i * 5 + 2, none⟩ = some (.string xs[i].f2) ∧ w.cell? ⟨g, o + i * 5 + 3, none⟩ = some (.string xs[i].f3) ∧ w.cell? ⟨g, o + i * 5 + 4, none⟩ = some (.slice A4 xs[i].f4.length c4) ∧ xs[i].f4.length ≤ c4 ∧ k45.C w A4 xs[i].f4.length xs[i].f4 := by
 obtain ⟨ad0, _, _, e0, z0, _⟩ := at_T35 h 0 (by omega) (by omega)
 have hs := spot_of (a := ad0) (by simpa [Addr.add] using z0)
 obtain ⟨ad, A4, c4, e, c0, c1, c2, c3, c4', l4, g4⟩ := at_T35 h i (by omega) (by omega)
 obtain rfl : ad0 = ad := Option.some.inj (e0.symm.trans e)
 simp only [Int.toNat_natCast] at c0 c1 c2 c3 c4'
 rw [hs, addr_at] at c0 c1 c2 c3 c4'
 have er : rd_T35 xs i = xs[i] := by simp [rd_T35, hi]
 rw [er] at c0 c1 c2 c3 c4' l4 g4
 exact ⟨ad0.block, ad0.off, A4, c4, by rw [e0, ← hs], c0, c1, c2, c3, c4', l4, g4⟩
set_option maxHeartbeats 1000000 in
set_option maxRecDepth 100000 in
theorem big1_c (d k : Int) (n t : ByteArray) (a : Option Addr) (l c : Nat) (w : World) :
  Calls Tryd.prog 77 #[.agg #[.int .i64 d, .int .i64 k, .string n, .string t, .slice a l c]] w fun e w' => e = .returned (.bool (decide (60 ≤ d))) ∧ Below w.heap.size w w' := by
 go_enter Tryd.func77, Tryd.ntmps77
 go_wp2
 go_ret
 exact ⟨rfl, (Below.refl _ w).alloc (Nat.le_refl _) _⟩
def deepB (x : Rw) : Bool := decide (60 ≤ x.f0)
set_option maxHeartbeats 1000000 in
set_option maxRecDepth 100000 in
theorem idx_big (xs : List Rw) (A : Option Addr) (c : Nat) (w : World) (hr : k35.C w A xs.length xs) (b : Bool) (hb : xs.any deepB = b) :
  Calls Tryd.prog 102 #[.slice A xs.length c, .func (.func 77) #[] #[]] w fun e w' => ∃ n : Int, e = .returned (.int .i64 n) ∧ (decide (0 ≤ n) = b) ∧ Below w.heap.size w w' := by
 have hxl := hr.2.1
 go_enter Tryd.func102, Tryd.ntmps102
 go_wp2
 go_loopw [5, 8] (fun _ v wr => ∃ (k : Nat), v = .int .i64 k ∧ k ≤ xs.length ∧ Hid (∀ j (h : j < xs.length), j < k → deepB xs[j] = false) ∧ Below w.heap.size w wr) (fun _ v _ => xs.length - (intOf v).toNat)
 case atStart => exact ⟨0, rfl, by omega, fun j _ h => by omega, Below.refl _ _⟩
 case round =>
  obtain ⟨k, rfl, hk, hno, hB⟩ := hrel
  by_cases hlt : k < xs.length
  ·obtain ⟨g, o, A4, c4, rfl, z0, z1, z2, z3, z4, _, _⟩ := row_at (Go.Proofs.YtdnbaliibiginaaDoorW.PrintWords.Kd.C_below hr hB) k hlt
   have hyes : Hid (deepB xs[k] = true → b = true) := fun h => by rw [← hb, List.any_eq_true]; exact ⟨_, List.getElem_mem hlt, h⟩
   have hno2 : Hid (deepB xs[k] = false → ∀ j (h : j < xs.length), j < k + 1 → deepB xs[j] = false) := fun h j hj hjk => by
    by_cases e : j = k
    ·subst e; exact h
    ·exact hno.out j hj (by omega)
   have hdef : Hid (deepB xs[k] = decide (60 ≤ xs[k].f0)) := rfl
   generalize deepB xs[k] = dk at *
   generalize xs[k] = x at *
   obtain ⟨d, kd, nm, dt, at'⟩ := x
   simp only at z0 z1 z2 z3 z4 hdef
   have hc1 := Lib.hid (fun W => big1_c d kd nm dt A4 at'.length c4 W)
   have hdef2 := hdef.out
   clear hno hb
   by_cases h60 : 60 ≤ d
   ·have hdk : dk = true := by rw [hdef2]; exact decide_eq_true h60
    have hbt := hyes.out hdk
    rw [decide_eq_true h60] at hc1
    clear hyes hno2 hdef hdef2 hdk
    subst hbt
    go_wp2_with (go_at_call 77; ((with_reducible refine (hc1.out _).mono ?_); rintro e w1 ⟨rfl, hb1⟩; have hB1 := below_then hB hB.size hb1))
    go_ret
    exact ⟨_, rfl, decide_eq_true (by omega), hB1⟩
   ·have hdk : dk = false := by rw [hdef2]; exact decide_eq_false h60
    have hno3 : Hid _ := hno2.out hdk
    rw [decide_eq_false h60] at hc1
    clear hyes hno2 hdef hdef2 hdk
    go_wp2_with (go_at_call 77; ((with_reducible refine (hc1.out _).mono ?_); rintro e w1 ⟨rfl, hb1⟩; have hB1 := below_then hB hB.size hb1))
    exact ⟨⟨k + 1, rfl, by omega, hno3, hB1⟩, by simp [intOf]; omega⟩
  ·have hbf : b = false := by
    rw [← hb, List.any_eq_false]
    intro x hx
    obtain ⟨j, hj, rfl⟩ := List.getElem_of_mem hx
    rw [hno.out j hj (by omega)]
    simp
   subst hbf
   clear hno hb
   go_wp2
   go_ret
   exact ⟨-1, rfl, by decide, hB⟩
set_option maxHeartbeats 1000000 in
set_option maxRecDepth 100000 in
theorem contains_big (xs : List Rw) (A : Option Addr) (c : Nat) (w : World) (hr : k35.C w A xs.length xs) (b : Bool) (hb : xs.any deepB = b) :
  Calls Tryd.prog 76 #[.slice A xs.length c, .func (.func 77) #[] #[]] w fun e w' => e = .returned (.bool b) ∧ Below w.heap.size w w' := by
 have hi := Lib.hid (idx_big xs A c w hr b hb)
 clear hb
 go_enter Tryd.func76, Tryd.ntmps76
 go_wp2_with (go_at_call 102; ((with_reducible refine hi.out.mono ?_); rintro e w1 ⟨n, rfl, hn, hb1⟩))
 go_ret
 exact ⟨rfl, hb1⟩
def rows_big.f (l0 : List Rw) : Option Bool := some (decide (4096 < l0.length) || l0.any deepB)
set_option maxHeartbeats 1000000 in
set_option maxRecDepth 100000 in
theorem rows_big.calls (A0 : Option Addr) (c0 : Nat) (l0 : List Rw) (r : Bool) (w : World) (hr0 : k35.C w A0 l0.length l0) (hc0 : l0.length ≤ c0) (h : rows_big.f l0 = some r) :
  Calls Tryd.prog 53 #[.slice A0 l0.length c0] w fun e w' => e = .returned (.bool r) ∧ Below w.heap.size w w' := by
 have hl := hr0.2.1
 have hi := Lib.hid (contains_big l0 A0 c0 w hr0 _ rfl)
 replace h := Option.some.inj h
 by_cases h1 : 4096 < l0.length
 ·have hI : (4096 : Int) < l0.length := by omega
  have hr : r = true := by rw [← h, decide_eq_true h1]; rfl
  subst hr
  clear h hi
  go_enter Tryd.func53, Tryd.ntmps53
  go_wp2
  go_ret
  exact ⟨rfl, Below.refl _ _⟩
 ·have hI : ¬ (4096 : Int) < l0.length := by omega
  rw [decide_eq_false h1, Bool.false_or] at h
  rw [h] at hi
  clear h
  go_enter Tryd.func53, Tryd.ntmps53
  go_wp2_with (go_at_call 76; ((with_reducible refine hi.out.mono ?_); rintro e w1 ⟨rfl, hb1⟩))
  go_ret
  exact ⟨rfl, hb1⟩
end Go.Proofs.YtdnbaliibiginaaDoorH.W8

/- Words and walks used below. -/
namespace Go.Proofs.YtdnbaliibiginaaDoorH.W8
open Go.RowKit Go.Proofs.YtdnbaliibiginaaDoorW.PrintWords Go.Proofs.YtdnbaliibiginaaDoorW.PrintLast Go.Proofs.YtdnbaliibiginaaDoorW.PrintMore
attribute [local go_sem] max2_int min2_int max_two min_two max_three min_three max_four min_four   -- for this text's walks alone
def rows_is.f (l0 : List (S35)) (a1 : Int) : Option (Bool) := if a1 ≥ 0 then (some (decide (a1 < (l0.length : Int)))) else (some false)
set_option maxHeartbeats 8000000 in
set_option maxRecDepth 100000 in
theorem rows_is.calls (A0 : Option Addr) (c0 : Nat) (l0 : List (S35)) (a1 : Int) (r : Bool) (w : World) (hr0 : Kd.C k35 w A0 l0.length l0) (hc0 : l0.length ≤ c0) (h : rows_is.f l0 a1 = some r) :
  Calls Tryd.prog 74 #[.slice A0 l0.length c0, .int .i64 a1] w fun e w' => e = .returned (.bool r) ∧ Drawn0 w w' := by
 have HR0 := Aside0.mk hr0
 have HC0 := Aside0.mk hc0
 clear hr0 hc0
 have H : (if a1 ≥ 0 then (some (decide (a1 < (l0.length : Int)))) else (some false)) = some r := h
 clear h
 by_cases c3 : a1 ≥ 0
 ·rw [if_pos c3] at H
  have c3b0 : decide (0 ≤ a1) = true := decide_eq_true c3
  clear c3
  obtain rfl := Option.some.inj H
  go_enter Tryd.func74, Tryd.ntmps74
  go_wp2
  go_ret
  exact ⟨by first | rfl | (simp; done) | (simp [*]; done) | (simp; generalize ByteArray.toList _ = l_; cases l_ <;> rfl), by repeat (first | exact Drawn0.refl _ | apply Drawn0.step)⟩
 ·rw [if_neg c3] at H
  have c3b0 : decide (0 ≤ a1) = false := decide_eq_false c3
  clear c3
  obtain rfl := Option.some.inj H
  go_enter Tryd.func74, Tryd.ntmps74
  go_wp2
  go_ret
  exact ⟨by first | rfl | (simp; done) | (simp [*]; done) | (simp; generalize ByteArray.toList _ = l_; cases l_ <;> rfl), by repeat (first | exact Drawn0.refl _ | apply Drawn0.step)⟩
end Go.Proofs.YtdnbaliibiginaaDoorH.W8

/- Words and walks used below. -/
namespace Go.Proofs.YtdnbaliibiginaaDoorH.W8
open Go.RowKit Go.Proofs.YtdnbaliibiginaaDoorW.PrintWords Go.Proofs.YtdnbaliibiginaaDoorW.PrintLast Go.Proofs.YtdnbaliibiginaaDoorW.PrintMore
attribute [local go_sem] max2_int min2_int max_two min_two max_three min_three max_four min_four   -- for this text's walks alone
def rows_End.l0 : Nat → List (S35) → Int → Int → Option (Int)
 | 0, _, _, _ => none
 | k + 1, x0, x1, x5 => if x5 < (x0.length : Int) then (if 0 ≤ x5 then (if 0 ≤ x1 then (if x1 < (x0.length : Int) then (if ((rd_T35 x0 x5).f0) > ((rd_T35 x0 x1).f0) then (rows_End.l0 k x0 x1 (wrap64 (x5 + 1))) else (some x5)) else (none)) else (none)) else (none)) else (some x5)
def rows_End.f (k : Nat) (l0 : List (S35)) (a1 : Int) : Option (Int) := (rows_is.f l0 a1).bind fun t106 => (if t106 = true then (rows_End.l0 k l0 a1 (wrap64 (a1 + 1))) else (some 0))
set_option maxHeartbeats 8000000 in
set_option maxRecDepth 100000 in
theorem rows_End.calls (k : Nat) (A0 : Option Addr) (c0 : Nat) (l0 : List (S35)) (a1 : Int) (r : Int) (w : World) (hr0 : Kd.C k35 w A0 l0.length l0) (hc0 : l0.length ≤ c0) (h : rows_End.f k l0 a1 = some r) :
  Calls Tryd.prog 101 #[.slice A0 l0.length c0, .int .i64 a1] w fun e w' => e = .returned (.int .i64 r) ∧ Drawn0 w w' := by
 have HR0 := Aside0.mk hr0
 have HC0 := Aside0.mk hc0
 clear hr0 hc0
 have H : ((rows_is.f l0 a1).bind fun t106 => (if t106 = true then (rows_End.l0 k l0 a1 (wrap64 (a1 + 1))) else (some 0))) = some r := h
 clear h
 replace H := Option.bind_eq_some_iff.mp H
 obtain ⟨t106, A30, H⟩ := H
 replace H : (if t106 = true then (rows_End.l0 k l0 a1 (wrap64 (a1 + 1))) else (some 0)) = some r := H
 have A3 := Aside0.mk A30
 clear A30
 by_cases c4 : t106 = true
 ·subst c4
  have H1 : (rows_End.l0 k l0 a1 (wrap64 (a1 + 1))) = some r := by rw [if_pos rfl] at H; exact H
  clear H
  have H := H1
  clear H1
  have H' := Aside0.mk H
  clear H
  go_enter Tryd.func101, Tryd.ntmps101
  go_wp2_with (first | (go_at_call 74; (with_reducible refine (rows_is.calls _ _ l0 a1 true _ ?side1 ?side2 A3.out).mono ?_); (case side1 => repeat (first | exact HR0.out | (with_reducible refine Kd.C_alloc ?_ _) | (with_reducible refine Kd.C_drewN ?_ _) | (with_reducible refine Kd.C_drew ?_))); (case side2 => exact HC0.out); rintro e w' ⟨rfl, ⟨nd, rfl⟩⟩; (try first | exact ⟨rfl, _, World.drewN_drewN _ _ _⟩ | exact ⟨rfl, _, Eq.trans (World.drewN_drewN _ _ _) (congrArg (World.drewN _) (Nat.add_assoc _ _ _))⟩)))
  repeat (go_quiet (first | (go_at_call 74; (with_reducible refine (rows_is.calls _ _ l0 a1 true _ ?side1 ?side2 A3.out).mono ?_); (case side1 => repeat (first | exact HR0.out | (with_reducible refine Kd.C_alloc ?_ _) | (with_reducible refine Kd.C_drewN ?_ _) | (with_reducible refine Kd.C_drew ?_))); (case side2 => exact HC0.out); rintro e w' ⟨rfl, ⟨nd, rfl⟩⟩; (try first | exact ⟨rfl, _, World.drewN_drewN _ _ _⟩ | exact ⟨rfl, _, Eq.trans (World.drewN_drewN _ _ _) (congrArg (World.drewN _) (Nat.add_assoc _ _ _))⟩))); try go_wp2_with (first | (go_at_call 74; (with_reducible refine (rows_is.calls _ _ l0 a1 true _ ?side1 ?side2 A3.out).mono ?_); (case side1 => repeat (first | exact HR0.out | (with_reducible refine Kd.C_alloc ?_ _) | (with_reducible refine Kd.C_drewN ?_ _) | (with_reducible refine Kd.C_drew ?_))); (case side2 => exact HC0.out); rintro e w' ⟨rfl, ⟨nd, rfl⟩⟩; (try first | exact ⟨rfl, _, World.drewN_drewN _ _ _⟩ | exact ⟨rfl, _, Eq.trans (World.drewN_drewN _ _ _) (congrArg (World.drewN _) (Nat.add_assoc _ _ _))⟩))))
  go_loopg [5] k (fun kq v5 w' => ∃ (x5_1 : Int), v5 = .int .i64 x5_1 ∧ Aside0 (rows_End.l0 kq l0 a1 x5_1 = some r) ∧ Aside0 (kq ≤ k) ∧ Drawn0 w w')
  case atStart => exact ⟨(wrap64 (a1 + 1)), (by first | rfl | (simp; done) | (simp [*]; done) | (simp; generalize ByteArray.toList _ = l_; cases l_ <;> rfl)), H', ⟨Nat.le_refl _⟩, by repeat (first | exact Drawn0.refl _ | apply Drawn0.step)⟩
  case round =>
   clear H'
   try clear c1
   try clear p2
   try clear c4
   obtain ⟨x5_1, rfl, HA, HK1, ⟨m1, rfl⟩⟩ := hrel
   cases gk with
   | zero => exact absurd HA.out (by simp [rows_End.l0])
   | succ k1 =>
    have H := HA.out
    clear HA
    simp only [rows_End.l0] at H
    by_cases c5 : x5_1 < (l0.length : Int)
    ·rw [if_pos c5] at H
     have c5b0 : decide (x5_1 < (l0.length : Int)) = true := decide_eq_true c5
     clear c5
     by_cases c6 : 0 ≤ x5_1
     ·rw [if_pos c6] at H
      have c6b0 : decide (0 ≤ x5_1) = true := decide_eq_true c6
      clear c6
      by_cases c7 : 0 ≤ a1
      ·rw [if_pos c7] at H
       have c7b0 : decide (0 ≤ a1) = true := decide_eq_true c7
       clear c7
       by_cases c8 : a1 < (l0.length : Int)
       ·rw [if_pos c8] at H
        have c8b0 : decide (a1 < (l0.length : Int)) = true := decide_eq_true c8
        clear c8
        by_cases c9 : ((rd_T35 l0 x5_1).f0) > ((rd_T35 l0 a1).f0)
        ·rw [if_pos c9] at H
         have c9b0 : decide (((rd_T35 l0 a1).f0) < ((rd_T35 l0 x5_1).f0)) = true := decide_eq_true c9
         clear c9
         have H' := Aside0.mk H
         clear H
         have p107 : 0 ≤ (x5_1 : Int) := (by first | exact of_decide_eq_true (by first | (with_reducible assumption) | assumption) | assumption | omega)
         have q107 : x5_1 < (l0.length : Int) := (by first | exact of_decide_eq_true (by first | (with_reducible assumption) | assumption) | assumption | omega)
         obtain ⟨ad107, A107_4, c107_4, e107, hx107_0, hx107_1, hx107_2, hx107_3, hx107_4, hl107_4, hi107_4⟩ := at_T35 HR0.out x5_1 p107 q107
         cases e107
         have HR107_4 := Aside0.mk hi107_4
         have HC107_4 := Aside0.mk hl107_4
         clear hi107_4 hl107_4
         replace p107 := eq_true p107
         replace q107 := eq_true q107
         have p108 : 0 ≤ (a1 : Int) := (by first | exact of_decide_eq_true (by first | (with_reducible assumption) | assumption) | assumption | omega)
         have q108 : a1 < (l0.length : Int) := (by first | exact of_decide_eq_true (by first | (with_reducible assumption) | assumption) | assumption | omega)
         obtain ⟨ad108, A108_4, c108_4, e108, hx108_0, hx108_1, hx108_2, hx108_3, hx108_4, hl108_4, hi108_4⟩ := at_T35 HR0.out a1 p108 q108
         obtain rfl : ad107 = ad108 := (by injection e108)
         have HR108_4 := Aside0.mk hi108_4
         have HC108_4 := Aside0.mk hl108_4
         clear hi108_4 hl108_4
         replace p108 := eq_true p108
         replace q108 := eq_true q108
         go_wp2
         repeat (go_quiet (fail); try go_wp2)
         go_roundg k1
         case measure => have := HK1.out; omega
         case rel => exact ⟨(wrap64 (x5_1 + 1)), (by first | rfl | (simp; done) | (simp [*]; done) | (simp; generalize ByteArray.toList _ = l_; cases l_ <;> rfl)), H', ⟨by have := HK1.out; omega⟩, by repeat (first | exact Drawn0.refl _ | apply Drawn0.step)⟩
        ·rw [if_neg c9] at H
         have c9b0 : decide (((rd_T35 l0 a1).f0) < ((rd_T35 l0 x5_1).f0)) = false := decide_eq_false c9
         clear c9
         obtain rfl := Option.some.inj H
         have p107 : 0 ≤ (x5_1 : Int) := (by first | exact of_decide_eq_true (by first | (with_reducible assumption) | assumption) | assumption | omega)
         have q107 : x5_1 < (l0.length : Int) := (by first | exact of_decide_eq_true (by first | (with_reducible assumption) | assumption) | assumption | omega)
         obtain ⟨ad107, A107_4, c107_4, e107, hx107_0, hx107_1, hx107_2, hx107_3, hx107_4, hl107_4, hi107_4⟩ := at_T35 HR0.out x5_1 p107 q107
         cases e107
         have HR107_4 := Aside0.mk hi107_4
         have HC107_4 := Aside0.mk hl107_4
         clear hi107_4 hl107_4
         replace p107 := eq_true p107
         replace q107 := eq_true q107
         have p108 : 0 ≤ (a1 : Int) := (by first | exact of_decide_eq_true (by first | (with_reducible assumption) | assumption) | assumption | omega)
         have q108 : a1 < (l0.length : Int) := (by first | exact of_decide_eq_true (by first | (with_reducible assumption) | assumption) | assumption | omega)
         obtain ⟨ad108, A108_4, c108_4, e108, hx108_0, hx108_1, hx108_2, hx108_3, hx108_4, hl108_4, hi108_4⟩ := at_T35 HR0.out a1 p108 q108
         obtain rfl : ad107 = ad108 := (by injection e108)
         have HR108_4 := Aside0.mk hi108_4
         have HC108_4 := Aside0.mk hl108_4
         clear hi108_4 hl108_4
         replace p108 := eq_true p108
         replace q108 := eq_true q108
         go_wp2
         repeat (go_quiet (fail); try go_wp2)
         go_ret
         exact ⟨by first | rfl | (simp; done) | (simp [*]; done) | (simp; generalize ByteArray.toList _ = l_; cases l_ <;> rfl), by repeat (first | exact Drawn0.refl _ | apply Drawn0.step)⟩
       ·rw [if_neg c8] at H
        exact absurd H (by simp)
      ·rw [if_neg c7] at H
       exact absurd H (by simp)
     ·rw [if_neg c6] at H
      exact absurd H (by simp)
    ·rw [if_neg c5] at H
     have c5b0 : decide (x5_1 < (l0.length : Int)) = false := decide_eq_false c5
     clear c5
     obtain rfl := Option.some.inj H
     go_wp2
     repeat (go_quiet (fail); try go_wp2)
     go_ret
     exact ⟨by first | rfl | (simp; done) | (simp [*]; done) | (simp; generalize ByteArray.toList _ = l_; cases l_ <;> rfl), by repeat (first | exact Drawn0.refl _ | apply Drawn0.step)⟩
 ·replace c4 := Bool.eq_false_iff.mpr c4
  subst c4
  have H1 : (some 0) = some r := by rw [if_neg (show ¬ (false = true) by decide)] at H; first | exact H | (simp only [eq_self] at H ⊢; exact H) | (simp only [eq_self, if_true] at H ⊢; exact H)
  clear H
  have H := H1
  clear H1
  obtain rfl := Option.some.inj H
  go_enter Tryd.func101, Tryd.ntmps101
  go_wp2_with (first | (go_at_call 74; (with_reducible refine (rows_is.calls _ _ l0 a1 false _ ?side1 ?side2 A3.out).mono ?_); (case side1 => repeat (first | exact HR0.out | (with_reducible refine Kd.C_alloc ?_ _) | (with_reducible refine Kd.C_drewN ?_ _) | (with_reducible refine Kd.C_drew ?_))); (case side2 => exact HC0.out); rintro e w' ⟨rfl, ⟨nd, rfl⟩⟩; (try first | exact ⟨rfl, _, World.drewN_drewN _ _ _⟩ | exact ⟨rfl, _, Eq.trans (World.drewN_drewN _ _ _) (congrArg (World.drewN _) (Nat.add_assoc _ _ _))⟩)))
  repeat (go_quiet (first | (go_at_call 74; (with_reducible refine (rows_is.calls _ _ l0 a1 false _ ?side1 ?side2 A3.out).mono ?_); (case side1 => repeat (first | exact HR0.out | (with_reducible refine Kd.C_alloc ?_ _) | (with_reducible refine Kd.C_drewN ?_ _) | (with_reducible refine Kd.C_drew ?_))); (case side2 => exact HC0.out); rintro e w' ⟨rfl, ⟨nd, rfl⟩⟩; (try first | exact ⟨rfl, _, World.drewN_drewN _ _ _⟩ | exact ⟨rfl, _, Eq.trans (World.drewN_drewN _ _ _) (congrArg (World.drewN _) (Nat.add_assoc _ _ _))⟩))); try go_wp2_with (first | (go_at_call 74; (with_reducible refine (rows_is.calls _ _ l0 a1 false _ ?side1 ?side2 A3.out).mono ?_); (case side1 => repeat (first | exact HR0.out | (with_reducible refine Kd.C_alloc ?_ _) | (with_reducible refine Kd.C_drewN ?_ _) | (with_reducible refine Kd.C_drew ?_))); (case side2 => exact HC0.out); rintro e w' ⟨rfl, ⟨nd, rfl⟩⟩; (try first | exact ⟨rfl, _, World.drewN_drewN _ _ _⟩ | exact ⟨rfl, _, Eq.trans (World.drewN_drewN _ _ _) (congrArg (World.drewN _) (Nat.add_assoc _ _ _))⟩))))
  go_ret
  exact ⟨by first | rfl | (simp; done) | (simp [*]; done) | (simp; generalize ByteArray.toList _ = l_; cases l_ <;> rfl), by repeat (first | exact Drawn0.refl _ | apply Drawn0.step)⟩
end Go.Proofs.YtdnbaliibiginaaDoorH.W8

/- Contract of rows.Kids: a loop over a function. Nothing that lay in memory turns. -/
namespace Go.Proofs.YtdnbaliibiginaaDoorH.W8
open Go.RowKit Go.Shelf Go.Proofs Go.Proofs.YtdnbaliibiginaaDoor
attribute [local go_sem] Oper.semAt_some
def spanN (d : Int) : List Rw → Nat
 | [] => 0
 | y :: ys => if d < y.f0 then spanN d ys + 1 else 0
theorem spanN_le (d : Int) : ∀ xs : List Rw, spanN d xs ≤ xs.length
 | [] => Nat.le_refl _
 | y :: ys => by
  have := spanN_le d ys
  simp only [spanN, List.length_cons]
  split <;> omega
def endN (xs : List Rw) (i : Nat) : Nat := i + 1 + spanN (rd_T35 xs i).f0 (xs.drop (i + 1))
theorem endN_gt (xs : List Rw) (i : Nat) : i < endN xs i := by unfold endN; omega
theorem endN_le (xs : List Rw) (i : Nat) (h : i < xs.length) : endN xs i ≤ xs.length := by
 have := spanN_le (rd_T35 xs i).f0 (xs.drop (i + 1))
 rw [List.length_drop] at this
 unfold endN; omega
theorem wr64 {x : Int} (h0 : -9223372036854775808 ≤ x) (h1 : x ≤ 9223372036854775807) : wrap64 x = x := by unfold wrap64; omega
theorem end_l0 (xs : List Rw) (hl : xs.length ≤ 9223372036854775807) (i : Nat) (hi : i < xs.length) : ∀ (d j k : Nat), xs.length - j ≤ d → j ≤ xs.length → d < k →
  rows_End.l0 k xs i j = some ((j + spanN (rd_T35 xs i).f0 (xs.drop j) : Nat) : Int) := by
 intro d
 induction d with
 | zero =>
  intro j k hd hj hk
  obtain ⟨k, rfl⟩ : ∃ m, k = m + 1 := ⟨k - 1, by omega⟩
  simp only [rows_End.l0]
  rw [if_neg (by omega), List.drop_of_length_le (by omega)]
  rfl
 | succ d ih =>
  intro j k hd hj hk
  obtain ⟨k, rfl⟩ : ∃ m, k = m + 1 := ⟨k - 1, by omega⟩
  simp only [rows_End.l0]
  by_cases h : j < xs.length
  ·have hdj : rd_T35 xs (j : Int) = xs[j] := by simp [rd_T35, h]
   rw [if_pos (by omega), if_pos (by omega), if_pos (by omega), if_pos (by omega), List.drop_eq_getElem_cons h, hdj]
   simp only [spanN, gt_iff_lt]
   split
   ·rw [wr64 (by omega) (by omega), show ((j : Int) + 1) = ((j + 1 : Nat) : Int) from by omega, ih (j + 1) k (by omega) (by omega) (by omega)]
    congr 2
    omega
   ·rfl
  ·rw [if_neg (by omega), List.drop_of_length_le (by omega)]
   rfl
theorem end_f (xs : List Rw) (hl : xs.length ≤ 9223372036854775807) (i : Nat) (hi : i < xs.length) : rows_End.f (xs.length + 1) xs i = some ((endN xs i : Nat) : Int) := by
 unfold rows_End.f rows_is.f
 rw [if_pos (by omega), Option.bind_some, decide_eq_true (by omega), if_pos rfl, wr64 (by omega) (by omega), show ((i : Int) + 1) = ((i + 1 : Nat) : Int) from by omega, end_l0 xs hl i hi xs.length (i + 1) _ (by omega) (by omega) (by omega)]
 rfl
def kidsW (xs : List Rw) (t j : Nat) : List Nat :=
 if h : j < t ∧ j < xs.length then j :: kidsW xs t (endN xs j) else []
termination_by xs.length - j
decreasing_by have := endN_gt xs j; omega
theorem kidsW_yes {xs : List Rw} {t j : Nat} (h : j < t) (h2 : j < xs.length) : kidsW xs t j = j :: kidsW xs t (endN xs j) := by rw [kidsW, dif_pos ⟨h, h2⟩]
theorem kidsW_no {xs : List Rw} {t j : Nat} (h : ¬ j < t) : kidsW xs t j = [] := by rw [kidsW, dif_neg (fun e => h e.1)]
def kidsF (xs : List Rw) (i : Int) : List Nat :=
 if i = -1 then kidsW xs xs.length 0 else if 0 ≤ i ∧ i < xs.length then kidsW xs (endN xs i.toNat) (i.toNat + 1) else []
def fromI (i : Int) : Nat := if i = -1 then 0 else i.toNat + 1
def toI (xs : List Rw) (i : Int) : Nat := if i = -1 then xs.length else endN xs i.toNat
theorem kidsF_at {xs : List Rw} {i : Int} (h : i = -1 ∨ 0 ≤ i ∧ i < xs.length) : kidsF xs i = kidsW xs (toI xs i) (fromI i) := by
 unfold kidsF toI fromI
 rcases h with rfl | h
 ·rfl
 ·rw [if_neg (by omega), if_pos h, if_neg (by omega), if_neg (by omega)]
theorem grown_dr (w : World) (n : Nat) (row : Option Nat) : w.grownBy (w.drewN n) row := ⟨rfl, rfl, rfl, Nat.le_refl _, fun _ _ _ => rfl⟩
def KpK (n₀ B : Nat) (v : Value) (W W' : World) : Prop := Below n₀ W W' ∧ (Boxed W B 22 v → Boxed W' B 22 v)
theorem kpK_t {n₀ B : Nat} {v : Value} {X Y Z : World} (h : KpK n₀ B v X Y) (k : KpK n₀ B v Y Z) : KpK n₀ B v X Z := ⟨h.1.trans k.1, fun e => k.2 (h.2 e)⟩
theorem kpK_b {n₀ B : Nat} {v : Value} {w : World} (hn : n₀ ≤ w.heap.size) (hB : B < w.heap.size) (W : World) (l : Nat) (o o' : Obj) (hl : w.heap.size ≤ l) (h : W.heap[l]? = some o) (h1 : o.isCells = false) (h2 : o.isWalk = false) : KpK n₀ B v W (W.putObj l o') :=
 ⟨belowK_b hn W l o o' hl h h1 h2, fun e => e.kept (grownBy_putObj' W l o') (fun e' => by cases e'; omega)⟩
set_option maxHeartbeats 2000000 in
set_option maxRecDepth 100000 in
theorem kids1_in (n : Nat) (hn : 1 ≤ n) (l B1 B2 : Nat) (A : Option Addr) (c : Nat) (xs : List Rw) (i : Int) (hi : i = -1 ∨ 0 ≤ i ∧ i < xs.length) (hcap : xs.length ≤ c) (w0 : World) (hr : k35.C w0 A xs.length xs) (J Jx : List Nat → World → Prop)
  (hY : ∀ pre x W, J pre W → pre.length < xs.length → YieldAt Fence.wide (n - 1) Tryd.prog l #[.int .i64 (x : Nat)] W fun e W' =>
   (e = .returned (.bool true) ∧ J (pre ++ [x]) W' ∧ KpK w0.heap.size B1 (.slice A xs.length c) W W') ∨ (e = .returned (.bool false) ∧ Jx (pre ++ [x]) W'))
  (W : World) (hJ : AbidesFrom W.heap.size J) (hW : Below w0.heap.size w0 W) (b1 : Boxed W B1 22 (.slice A xs.length c)) (c2 : W.cell? ⟨B2, 0, none⟩ = some (.int .i64 i)) (h0 : J [] W) :
  CallsIn Fence.wide n Tryd.prog 100 #[.func (.yield l) #[] #[], .pointer (some ⟨B1, 0, none⟩), .pointer (some ⟨B2, 0, none⟩)] W fun e W' => (∃ v, e = .returned v) ∧
   ((∃ ys, ys = kidsF xs i ∧ J ys W') ∨ (∃ pre, pre <+: kidsF xs i ∧ Jx pre W')) := by
 have hxl := hr.2.1
 rw [kidsF_at hi]
 refine callsIn_of_wp Tryd.func100 rfl trivial ?_ rfl
 simp only [Tryd.ntmps100, List.size_toArray, List.length_cons, List.length_nil, Nat.reduceAdd, Nat.reduceSub, Array.replicate_succ, Array.replicate_zero, List.push_toArray, List.append_toArray, List.nil_append, List.cons_append]
 have c1 := b1.cell
 have hm1 : Tryd.prog.follows .mixedOrders = true := by kernel_rfl
 have hm2 : Tryd.prog.follows .lateStores = true := by kernel_rfl
 have hm3 : Tryd.prog.follows .lateStoresUnsure = true := by kernel_rfl
 have hE : Hid (∀ (j : Nat) (hj : j < xs.length) (W' : World), Below w0.heap.size w0 W' → CallsIn Fence.wide (n - 1) Tryd.prog 101 #[.slice A xs.length c, .int .i64 j] W' fun e w' => e = .returned (.int .i64 (endN xs j : Nat)) ∧ ∃ m, w' = W'.drewN m) := fun j hj W' hW' =>
  callsIn_wide.2 ((rows_End.calls (xs.length + 1) A c xs j _ W' (Go.Proofs.YtdnbaliibiginaaDoorW.PrintWords.Kd.C_below hr hW') hcap (end_f xs hxl j hj)).mono (fun e w' h => ⟨h.1, h.2.out⟩))
 replace hE : ∀ (j : Nat) (hj : j < xs.length), Hid _ := fun j hj => Lib.hid (hE.out j hj)
 have hfn : Fence.wide.fn 101 := trivial
 rcases hi with rfl | hi
 ·rw [show toI xs (-1) = xs.length from rfl, show fromI (-1) = 0 from rfl]
  have hdr := hJ _ _ _ none h0 (grown_dr W 1 none) (fun r e => by cases e)
  gi_wp2
  gi_region_o
  all_goals gi_wp2
  gi_loopw [6] (fun v wr => ∃ (j : Nat) (pre : List Nat), v = .int .i64 j ∧ j ≤ xs.length ∧ Hid (pre ++ kidsW xs xs.length j = kidsW xs xs.length 0) ∧ pre.length ≤ j ∧ J pre wr ∧ Below w0.heap.size w0 wr ∧ Boxed wr B1 22 (.slice A xs.length c)) (fun v _ => xs.length - (intOf v).toNat)
  case atStart => exact ⟨0, [], rfl, Nat.zero_le _, rfl, Nat.zero_le _, hdr, Go.Proofs.YtdnbaliibiginaaDoorW.PrintWords.pw_below_drewN hW 1, b1⟩
  case round =>
   obtain ⟨j, pre, rfl, hj, hpre, hpl, hJs, hB, hbx⟩ := hrel
   have hT := Lib.hid (Nat.le_refl xs.length)
   by_cases hlt : j < xs.length
   ·have hjx : j < xs.length := by have := hT.out; omega
    obtain ⟨fn, tmps, assign, body, hy, hR⟩ := hY pre j wr hJs (by omega)
    have hstep := Lib.hid (kidsW_yes hlt hjx)
    have hgt := Lib.hid (endN_gt xs j)
    have hle := Lib.hid (endN_le xs j hjx)
    have hE2 := hE j hjx
    gi_wp2
    refine hR.mono ?_
    rintro e W3 (⟨rfl, hJ3, hk3⟩ | ⟨rfl, hJx3⟩)
    ·have hb3 := hk3.2 hbx
     have hc3 := hb3.cell
     have hB3 := hB.trans hk3.1
     generalize endN xs j = q at *
     gi_wp2_with (gi_at_call 101; refine (hE2.out _ hB3).mono ?_; rintro e w1 ⟨rfl, m1, rfl⟩)
     go_roundw
     case rel => exact ⟨q, pre ++ [j], rfl, hle.out, Lib.hid (by rw [← hpre.out, hstep.out]; simp), by have := hgt.out; simp; omega, hJ _ _ _ none hJ3 (grown_dr _ _ none) (fun r e => by cases e), Go.Proofs.YtdnbaliibiginaaDoorW.PrintWords.pw_below_drewN hB3 m1, hb3⟩
     case measure => have := hgt.out; simp [intOf]; omega
    ·gi_wp2
     refine bodyPost_ret (results_none rfl _ _ _) rfl ?_
     exact ⟨⟨_, rfl⟩, .inr ⟨_, ⟨kidsW xs xs.length (endN xs j), by rw [← hpre.out, hstep.out]; simp⟩, hJx3⟩⟩
   ·have hres := kidsW_no (xs := xs) hlt
    have hp2 := hpre.out
    rw [hres, List.append_nil] at hp2
    gi_wp2
    go_end0
    exact ⟨⟨_, rfl⟩, .inl ⟨_, hp2, hJs⟩⟩
 ·obtain ⟨m, rfl⟩ : ∃ m : Nat, i = m := ⟨i.toNat, by omega⟩
  have hm : m < xs.length := by omega
  have hne : ((m : Int) != -1) = true := by rw [bne_iff_ne]; omega
  have hto : toI xs (m : Int) = endN xs m := by unfold toI; rw [if_neg (by omega)]; rfl
  have hfrom : fromI (m : Int) = m + 1 := by unfold fromI; rw [if_neg (by omega)]; rfl
  rw [hto, hfrom]
  have hEm := hE m hm
  have hEn := Lib.hid (endN_le xs m hm)
  clear hto hfrom hi
  generalize endN xs m = T at *
  gi_wp2
  gi_region_o
  all_goals gi_wp2
  gi_region_with_o (gi_at_call 101; refine (hEm.out _ ?_).mono ?_; exact ⟨hW.os, hW.tape, hW.output, hW.size, hW.block⟩; rintro e w1 ⟨rfl, m1, rfl⟩)
  all_goals gi_wp2
  all_goals (
   gi_loopw [6] (fun v wr => ∃ (j : Nat) (pre : List Nat), v = .int .i64 j ∧ j ≤ xs.length ∧ Hid (pre ++ kidsW xs T j = kidsW xs T (m + 1)) ∧ pre.length ≤ j ∧ J pre wr ∧ Below w0.heap.size w0 wr ∧ Boxed wr B1 22 (.slice A xs.length c)) (fun v _ => xs.length - (intOf v).toNat)
   case atStart => exact ⟨m + 1, [], rfl, by omega, rfl, Nat.zero_le _, hJ _ _ _ none h0 (grown_dr W _ none) (fun r e => by cases e), Go.Proofs.YtdnbaliibiginaaDoorW.PrintWords.pw_below_drewN hW _, b1⟩
   case round =>
    obtain ⟨j, pre, rfl, hj, hpre, hpl, hJs, hB, hbx⟩ := hrel
    have hT := hEn
    by_cases hlt : j < T
    ·have hjx : j < xs.length := by have := hT.out; omega
     obtain ⟨fn, tmps, assign, body, hy, hR⟩ := hY pre j wr hJs (by omega)
     have hstep := Lib.hid (kidsW_yes hlt hjx)
     have hgt := Lib.hid (endN_gt xs j)
     have hle := Lib.hid (endN_le xs j hjx)
     have hE2 := hE j hjx
     gi_wp2
     refine hR.mono ?_
     rintro e W3 (⟨rfl, hJ3, hk3⟩ | ⟨rfl, hJx3⟩)
     ·have hb3 := hk3.2 hbx
      have hc3 := hb3.cell
      have hB3 := hB.trans hk3.1
      generalize endN xs j = q at *
      gi_wp2_with (gi_at_call 101; refine (hE2.out _ hB3).mono ?_; rintro e w1 ⟨rfl, m1, rfl⟩)
      go_roundw
      case rel => exact ⟨q, pre ++ [j], rfl, hle.out, Lib.hid (by rw [← hpre.out, hstep.out]; simp), by have := hgt.out; simp; omega, hJ _ _ _ none hJ3 (grown_dr _ _ none) (fun r e => by cases e), Go.Proofs.YtdnbaliibiginaaDoorW.PrintWords.pw_below_drewN hB3 m1, hb3⟩
      case measure => have := hgt.out; simp [intOf]; omega
     ·gi_wp2
      refine bodyPost_ret (results_none rfl _ _ _) rfl ?_
      exact ⟨⟨_, rfl⟩, .inr ⟨_, ⟨kidsW xs T (endN xs j), by rw [← hpre.out, hstep.out]; simp⟩, hJx3⟩⟩
    ·have hres := kidsW_no (xs := xs) hlt
     have hp2 := hpre.out
     rw [hres, List.append_nil] at hp2
     gi_wp2
     go_end0
     exact ⟨⟨_, rfl⟩, .inl ⟨_, hp2, hJs⟩⟩)
end Go.Proofs.YtdnbaliibiginaaDoorH.W8
