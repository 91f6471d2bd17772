/- Lemmas and walks, part 21: QPW8x40. -/
import Derived.Test.YtdnbaliibiginaaDoorY4
import Derived.Test.YtdnbaliibiginaaDoorY20
set_option linter.unusedVariables false
set_option linter.unusedSimpArgs false

/- Words and walks used below. -/
namespace Go.Proofs.YtdnbaliibiginaaDoorH.W8
open Go.RowKit Go.Proofs.YtdnbaliibiginaaDoorW.PrintWords Go.Proofs.YtdnbaliibiginaaDoorW.PrintLast Go.Proofs.YtdnbaliibiginaaDoorW.PrintMore
attribute [local go_sem] max2_int min2_int max_two min_two max_three min_three max_four min_four   -- for this text's walks alone
mutual
def boltingref04_Right.l0 : Nat → List (S35) → Int → Option (Bool)
 | 0, _, _ => none
 | k + 1, x0, x3 => if x3 < (x0.length : Int) then (if 0 ≤ x3 then ((boltingref04_Row.f k ((rd_T35 x0 x3).f0) ((rd_T35 x0 x3).f1) ((rd_T35 x0 x3).f2) ((rd_T35 x0 x3).f3) ((rd_T35 x0 x3).f4)).bind fun t311 => (if t311 = true then (if ((rd_T35 x0 x3).f0) < 0 then (boltingref04_Right.j1 k x0 x3 ((rd_T35 x0 x3).f0) true) else (if x3 = 0 then (boltingref04_Right.j1 k x0 x3 ((rd_T35 x0 x3).f0) (((rd_T35 x0 x3).f0) != 0)) else (boltingref04_Right.j1 k x0 x3 ((rd_T35 x0 x3).f0) false))) else (boltingref04_Right.j1 k x0 x3 ((rd_T35 x0 x3).f0) true))) else (none)) else (some true)
def boltingref04_Right.j1 : Nat → List (S35) → Int → Int → Bool → Option (Bool)
 | 0, _, _, _, _ => none
 | k + 1, x0, x3, x4, x33 => if x33 = true then (some false) else (if x3 > 0 then (if 0 ≤ (wrap64 (x3 - 1)) then (if (wrap64 (x3 - 1)) < (x0.length : Int) then (if x4 > (wrap64 (((rd_T35 x0 (wrap64 (x3 - 1))).f0) + 1)) then (some false) else (if x4 = (wrap64 (((rd_T35 x0 (wrap64 (x3 - 1))).f0) + 1)) then (if ((rd_T35 x0 (wrap64 (x3 - 1))).f1) = 0 then (boltingref04_Right.l0 k x0 (wrap64 (x3 + 1))) else (some false)) else (boltingref04_Right.l0 k x0 (wrap64 (x3 + 1))))) else (none)) else (none)) else (boltingref04_Right.l0 k x0 (wrap64 (x3 + 1))))
end
def boltingref04_Right.f (k : Nat) (l0 : List (S35)) : Option (Bool) := boltingref04_Right.l0 k l0 0
set_option maxHeartbeats 8000000 in
set_option maxRecDepth 100000 in
theorem boltingref04_Right.calls (k : Nat) (A0 : Option Addr) (c0 : Nat) (l0 : List (S35)) (r : Bool) (w : World) (hr0 : Kd.C k35 w A0 l0.length l0) (hc0 : l0.length ≤ c0) (h : boltingref04_Right.f k l0 = some r) :
  Calls Tryd.prog 8 #[.slice A0 l0.length c0] w fun e w' => e = .returned (.bool r) ∧ Below w.heap.size w w' := by
 have hu35 := Tryd.underlying35
 have HR0 := Aside0.mk hr0
 have HC0 := Aside0.mk hc0
 clear hr0 hc0
 have HB := Aside0.mk (Below.refl w.heap.size w)
 have H : (boltingref04_Right.l0 k l0 0) = some r := h
 clear h
 have H' := Aside0.mk H
 clear H
 go_enter Tryd.func8, Tryd.ntmps8
 go_wp2
 go_loopg [3] k (fun kq v3 w' => ∃ (x3_1 : Int), v3 = .int .i64 x3_1 ∧ Aside0 (boltingref04_Right.l0 kq l0 x3_1 = some r) ∧ Aside0 (kq ≤ k) ∧ Aside0 (Below w.heap.size w w'))
 case atStart => exact ⟨(0), (by first | rfl | (simp; done) | (simp [*]; done) | (simp; generalize ByteArray.toList _ = l_; cases l_ <;> rfl)), H', ⟨Nat.le_refl _⟩, ⟨bz⟩⟩
 case round =>
  clear H'
  obtain ⟨x3_1, rfl, HA, HK1, HB⟩ := hrel
  cases gk with
  | zero => exact absurd HA.out (by simp [boltingref04_Right.l0])
  | succ k1 =>
   have H := HA.out
   clear HA
   simp only [boltingref04_Right.l0] at H
   by_cases c2 : x3_1 < (l0.length : Int)
   ·rw [if_pos c2] at H
    have c2b0 : decide (x3_1 < (l0.length : Int)) = true := decide_eq_true c2
    clear c2
    by_cases c3 : 0 ≤ x3_1
    ·rw [if_pos c3] at H
     have c3b0 : decide (0 ≤ x3_1) = true := decide_eq_true c3
     clear c3
     have HC4 := Aside0.mk H
     clear H
     have p309 : 0 ≤ (x3_1 : Int) := (by first | exact of_decide_eq_true (by first | (with_reducible assumption) | assumption) | assumption | omega)
     have q309 : x3_1 < (l0.length : Int) := (by first | exact of_decide_eq_true (by first | (with_reducible assumption) | assumption) | assumption | omega)
     obtain ⟨ad309, A309_4, c309_4, e309, hx309_0, hx309_1, hx309_2, hx309_3, hx309_4, hl309_4, hi309_4⟩ := at_T35 HR0.out x3_1 p309 q309
     cases e309
     replace hx309_0 := (HB.out.cell (World.block_lt_of_cell? w _ hx309_0)).trans hx309_0
     replace hx309_1 := (HB.out.cell (World.block_lt_of_cell? w _ hx309_1)).trans hx309_1
     replace hx309_2 := (HB.out.cell (World.block_lt_of_cell? w _ hx309_2)).trans hx309_2
     replace hx309_3 := (HB.out.cell (World.block_lt_of_cell? w _ hx309_3)).trans hx309_3
     replace hx309_4 := (HB.out.cell (World.block_lt_of_cell? w _ hx309_4)).trans hx309_4
     have HR309_4 := Aside0.mk hi309_4
     have HC309_4 := Aside0.mk hl309_4
     clear hi309_4 hl309_4
     replace p309 := eq_true p309
     replace q309 := eq_true q309
     go_upto_region 5 with (fail)
     go_cut [33] (fun v33 wc => ∃ (kq : Nat) (x33_3 : Bool), v33 = .bool x33_3 ∧ Aside0 (boltingref04_Right.j1 kq l0 x3_1 ((rd_T35 l0 x3_1).f0) x33_3 = some r) ∧ Aside0 (kq ≤ k1) ∧ Aside0 (Below w.heap.size w wc))
     case first =>
      have H := HC4.out
      clear HC4
      replace H := Option.bind_eq_some_iff.mp H
      obtain ⟨t311, A50, H⟩ := H
      replace H : (if t311 = true then (if ((rd_T35 l0 x3_1).f0) < 0 then (boltingref04_Right.j1 k1 l0 x3_1 ((rd_T35 l0 x3_1).f0) true) else (if x3_1 = 0 then (boltingref04_Right.j1 k1 l0 x3_1 ((rd_T35 l0 x3_1).f0) (((rd_T35 l0 x3_1).f0) != 0)) else (boltingref04_Right.j1 k1 l0 x3_1 ((rd_T35 l0 x3_1).f0) false))) else (boltingref04_Right.j1 k1 l0 x3_1 ((rd_T35 l0 x3_1).f0) true)) = some r := H
      have A5 := Aside0.mk A50
      clear A50
      by_cases c6 : t311 = true
      ·subst c6
       have H1 : (if ((rd_T35 l0 x3_1).f0) < 0 then (boltingref04_Right.j1 k1 l0 x3_1 ((rd_T35 l0 x3_1).f0) true) else (if x3_1 = 0 then (boltingref04_Right.j1 k1 l0 x3_1 ((rd_T35 l0 x3_1).f0) (((rd_T35 l0 x3_1).f0) != 0)) else (boltingref04_Right.j1 k1 l0 x3_1 ((rd_T35 l0 x3_1).f0) false))) = some r := by rw [if_pos rfl] at H; exact H
       clear H
       have H := H1
       clear H1
       by_cases c7 : ((rd_T35 l0 x3_1).f0) < 0
       ·rw [if_pos c7] at H
        have c7b0 : decide (((rd_T35 l0 x3_1).f0) < 0) = true := decide_eq_true c7
        clear c7
        (first | rw [c7b0] | (simp only [i64_w, i32_w]; rw [c7b0]) | skip)
        have H' := Aside0.mk H
        clear H
        have p310 : 0 ≤ (x3_1 : Int) := (by first | exact of_decide_eq_true (by first | (with_reducible assumption) | assumption) | assumption | omega)
        have q310 : x3_1 < (l0.length : Int) := (by first | exact of_decide_eq_true (by first | (with_reducible assumption) | assumption) | assumption | omega)
        obtain ⟨ad310, A310_4, c310_4, e310, hx310_0, hx310_1, hx310_2, hx310_3, hx310_4, hl310_4, hi310_4⟩ := at_T35 HR0.out x3_1 p310 q310
        obtain rfl : ad309 = ad310 := (by injection e310)
        replace hx310_0 := (HB.out.cell (World.block_lt_of_cell? w _ hx310_0)).trans hx310_0
        replace hx310_1 := (HB.out.cell (World.block_lt_of_cell? w _ hx310_1)).trans hx310_1
        replace hx310_2 := (HB.out.cell (World.block_lt_of_cell? w _ hx310_2)).trans hx310_2
        replace hx310_3 := (HB.out.cell (World.block_lt_of_cell? w _ hx310_3)).trans hx310_3
        replace hx310_4 := (HB.out.cell (World.block_lt_of_cell? w _ hx310_4)).trans hx310_4
        have HR310_4 := Aside0.mk hi310_4
        have HC310_4 := Aside0.mk hl310_4
        clear hi310_4 hl310_4
        replace p310 := eq_true p310
        replace q310 := eq_true q310
        go_wp2_with (first | ((with_reducible refine gate_callee (f := 23) rfl ?_); refine goesL_ (some 20) rfl rfl Tryd.func23 (by kernel_rfl) rfl #[.agg #[.int .i64 ((rd_T35 l0 x3_1).f0), .int .i64 ((rd_T35 l0 x3_1).f1), .string ((rd_T35 l0 x3_1).f2), .string ((rd_T35 l0 x3_1).f3), .slice A309_4 ((rd_T35 l0 x3_1).f4).length c309_4]] rfl (by (try simp only [List.map_toArray, List.map_cons, List.map_nil]); first | done | rfl | (simp only [List.length_drop, List.length_take]; rfl)) ?_; (with_reducible refine (boltingref04_Row.calls k1 ((rd_T35 l0 x3_1).f0) ((rd_T35 l0 x3_1).f1) ((rd_T35 l0 x3_1).f2) ((rd_T35 l0 x3_1).f3) _ _ ((rd_T35 l0 x3_1).f4) true _ ?side1 ?side2 A5.out).mono ?_); (case side1 => exact cz (Kd.C_below HR309_4.out HB.out)); (case side2 => exact HC309_4.out); rintro e w8 ⟨rfl, hb⟩; refine ⟨_, rfl, ?_⟩; have n0_ := Aside0.mk (below_step bz hb); clear HB; have HB := n0_; clear n0_; (try clear hb); (try clear hb2); (try clear hk); (try clear hi)))
        go_meet
        case rel => exact ⟨_, (true), (by first | rfl | (simp; done) | (simp [*]; done) | (simp; generalize ByteArray.toList _ = l_; cases l_ <;> rfl)), H', ⟨by have := HK1.out; first | omega | exact Nat.le_refl _⟩, ⟨bz⟩⟩
       ·rw [if_neg c7] at H
        have c7b0 : decide (((rd_T35 l0 x3_1).f0) < 0) = false := decide_eq_false c7
        clear c7
        (first | rw [c7b0] | (simp only [i64_w, i32_w]; rw [c7b0]) | skip)
        by_cases c9 : x3_1 = 0
        ·rw [if_pos c9] at H
         have c9b0 : (x3_1 == 0) = true := beq_iff_eq.mpr c9
         have c9b1 : (x3_1 != 0) = false := bne_eq_false_iff_eq.mpr c9
         clear c9
         have H' := Aside0.mk H
         clear H
         have p310 : 0 ≤ (x3_1 : Int) := (by first | exact of_decide_eq_true (by first | (with_reducible assumption) | assumption) | assumption | omega)
         have q310 : x3_1 < (l0.length : Int) := (by first | exact of_decide_eq_true (by first | (with_reducible assumption) | assumption) | assumption | omega)
         obtain ⟨ad310, A310_4, c310_4, e310, hx310_0, hx310_1, hx310_2, hx310_3, hx310_4, hl310_4, hi310_4⟩ := at_T35 HR0.out x3_1 p310 q310
         obtain rfl : ad309 = ad310 := (by injection e310)
         replace hx310_0 := (HB.out.cell (World.block_lt_of_cell? w _ hx310_0)).trans hx310_0
         replace hx310_1 := (HB.out.cell (World.block_lt_of_cell? w _ hx310_1)).trans hx310_1
         replace hx310_2 := (HB.out.cell (World.block_lt_of_cell? w _ hx310_2)).trans hx310_2
         replace hx310_3 := (HB.out.cell (World.block_lt_of_cell? w _ hx310_3)).trans hx310_3
         replace hx310_4 := (HB.out.cell (World.block_lt_of_cell? w _ hx310_4)).trans hx310_4
         have HR310_4 := Aside0.mk hi310_4
         have HC310_4 := Aside0.mk hl310_4
         clear hi310_4 hl310_4
         replace p310 := eq_true p310
         replace q310 := eq_true q310
         go_wp2_with (first | ((with_reducible refine gate_callee (f := 23) rfl ?_); refine goesL_ (some 20) rfl rfl Tryd.func23 (by kernel_rfl) rfl #[.agg #[.int .i64 ((rd_T35 l0 x3_1).f0), .int .i64 ((rd_T35 l0 x3_1).f1), .string ((rd_T35 l0 x3_1).f2), .string ((rd_T35 l0 x3_1).f3), .slice A309_4 ((rd_T35 l0 x3_1).f4).length c309_4]] rfl (by (try simp only [List.map_toArray, List.map_cons, List.map_nil]); first | done | rfl | (simp only [List.length_drop, List.length_take]; rfl)) ?_; (with_reducible refine (boltingref04_Row.calls k1 ((rd_T35 l0 x3_1).f0) ((rd_T35 l0 x3_1).f1) ((rd_T35 l0 x3_1).f2) ((rd_T35 l0 x3_1).f3) _ _ ((rd_T35 l0 x3_1).f4) true _ ?side1 ?side2 A5.out).mono ?_); (case side1 => exact cz (Kd.C_below HR309_4.out HB.out)); (case side2 => exact HC309_4.out); rintro e w10 ⟨rfl, hb⟩; refine ⟨_, rfl, ?_⟩; have n0_ := Aside0.mk (below_step bz hb); clear HB; have HB := n0_; clear n0_; (try clear hb); (try clear hb2); (try clear hk); (try clear hi)))
         go_meet
         case rel => exact ⟨_, ((((rd_T35 l0 x3_1).f0) != 0)), (by first | rfl | (simp; done) | (simp [*]; done) | (simp; generalize ByteArray.toList _ = l_; cases l_ <;> rfl)), H', ⟨by have := HK1.out; first | omega | exact Nat.le_refl _⟩, ⟨bz⟩⟩
        ·rw [if_neg c9] at H
         have c9b0 : (x3_1 == 0) = false := beq_eq_false_iff_ne.mpr c9
         have c9b1 : (x3_1 != 0) = true := bne_iff_ne.mpr c9
         have H' := Aside0.mk H
         clear H
         have p310 : 0 ≤ (x3_1 : Int) := (by first | exact of_decide_eq_true (by first | (with_reducible assumption) | assumption) | assumption | omega)
         have q310 : x3_1 < (l0.length : Int) := (by first | exact of_decide_eq_true (by first | (with_reducible assumption) | assumption) | assumption | omega)
         obtain ⟨ad310, A310_4, c310_4, e310, hx310_0, hx310_1, hx310_2, hx310_3, hx310_4, hl310_4, hi310_4⟩ := at_T35 HR0.out x3_1 p310 q310
         obtain rfl : ad309 = ad310 := (by injection e310)
         replace hx310_0 := (HB.out.cell (World.block_lt_of_cell? w _ hx310_0)).trans hx310_0
         replace hx310_1 := (HB.out.cell (World.block_lt_of_cell? w _ hx310_1)).trans hx310_1
         replace hx310_2 := (HB.out.cell (World.block_lt_of_cell? w _ hx310_2)).trans hx310_2
         replace hx310_3 := (HB.out.cell (World.block_lt_of_cell? w _ hx310_3)).trans hx310_3
         replace hx310_4 := (HB.out.cell (World.block_lt_of_cell? w _ hx310_4)).trans hx310_4
         have HR310_4 := Aside0.mk hi310_4
         have HC310_4 := Aside0.mk hl310_4
         clear hi310_4 hl310_4
         replace p310 := eq_true p310
         replace q310 := eq_true q310
         go_wp2_with (first | ((with_reducible refine gate_callee (f := 23) rfl ?_); refine goesL_ (some 20) rfl rfl Tryd.func23 (by kernel_rfl) rfl #[.agg #[.int .i64 ((rd_T35 l0 x3_1).f0), .int .i64 ((rd_T35 l0 x3_1).f1), .string ((rd_T35 l0 x3_1).f2), .string ((rd_T35 l0 x3_1).f3), .slice A309_4 ((rd_T35 l0 x3_1).f4).length c309_4]] rfl (by (try simp only [List.map_toArray, List.map_cons, List.map_nil]); first | done | rfl | (simp only [List.length_drop, List.length_take]; rfl)) ?_; (with_reducible refine (boltingref04_Row.calls k1 ((rd_T35 l0 x3_1).f0) ((rd_T35 l0 x3_1).f1) ((rd_T35 l0 x3_1).f2) ((rd_T35 l0 x3_1).f3) _ _ ((rd_T35 l0 x3_1).f4) true _ ?side1 ?side2 A5.out).mono ?_); (case side1 => exact cz (Kd.C_below HR309_4.out HB.out)); (case side2 => exact HC309_4.out); rintro e w11 ⟨rfl, hb⟩; refine ⟨_, rfl, ?_⟩; have n0_ := Aside0.mk (below_step bz hb); clear HB; have HB := n0_; clear n0_; (try clear hb); (try clear hb2); (try clear hk); (try clear hi)))
         go_meet
         case rel => exact ⟨_, (false), (by first | rfl | (simp; done) | (simp [*]; done) | (simp; generalize ByteArray.toList _ = l_; cases l_ <;> rfl)), H', ⟨by have := HK1.out; first | omega | exact Nat.le_refl _⟩, ⟨bz⟩⟩
      ·replace c6 := Bool.eq_false_iff.mpr c6
       subst c6
       have H1 : (boltingref04_Right.j1 k1 l0 x3_1 ((rd_T35 l0 x3_1).f0) true) = some r := by rw [if_neg (show ¬ (false = true) by decide)] at H; first | exact H | (simp only [eq_self] at H ⊢; exact H) | (simp only [eq_self, if_true] at H ⊢; exact H)
       clear H
       have H := H1
       clear H1
       have H' := Aside0.mk H
       clear H
       have p310 : 0 ≤ (x3_1 : Int) := (by first | exact of_decide_eq_true (by first | (with_reducible assumption) | assumption) | assumption | omega)
       have q310 : x3_1 < (l0.length : Int) := (by first | exact of_decide_eq_true (by first | (with_reducible assumption) | assumption) | assumption | omega)
       obtain ⟨ad310, A310_4, c310_4, e310, hx310_0, hx310_1, hx310_2, hx310_3, hx310_4, hl310_4, hi310_4⟩ := at_T35 HR0.out x3_1 p310 q310
       obtain rfl : ad309 = ad310 := (by injection e310)
       replace hx310_0 := (HB.out.cell (World.block_lt_of_cell? w _ hx310_0)).trans hx310_0
       replace hx310_1 := (HB.out.cell (World.block_lt_of_cell? w _ hx310_1)).trans hx310_1
       replace hx310_2 := (HB.out.cell (World.block_lt_of_cell? w _ hx310_2)).trans hx310_2
       replace hx310_3 := (HB.out.cell (World.block_lt_of_cell? w _ hx310_3)).trans hx310_3
       replace hx310_4 := (HB.out.cell (World.block_lt_of_cell? w _ hx310_4)).trans hx310_4
       have HR310_4 := Aside0.mk hi310_4
       have HC310_4 := Aside0.mk hl310_4
       clear hi310_4 hl310_4
       replace p310 := eq_true p310
       replace q310 := eq_true q310
       go_wp2_with (first | ((with_reducible refine gate_callee (f := 23) rfl ?_); refine goesL_ (some 20) rfl rfl Tryd.func23 (by kernel_rfl) rfl #[.agg #[.int .i64 ((rd_T35 l0 x3_1).f0), .int .i64 ((rd_T35 l0 x3_1).f1), .string ((rd_T35 l0 x3_1).f2), .string ((rd_T35 l0 x3_1).f3), .slice A309_4 ((rd_T35 l0 x3_1).f4).length c309_4]] rfl (by (try simp only [List.map_toArray, List.map_cons, List.map_nil]); first | done | rfl | (simp only [List.length_drop, List.length_take]; rfl)) ?_; (with_reducible refine (boltingref04_Row.calls k1 ((rd_T35 l0 x3_1).f0) ((rd_T35 l0 x3_1).f1) ((rd_T35 l0 x3_1).f2) ((rd_T35 l0 x3_1).f3) _ _ ((rd_T35 l0 x3_1).f4) false _ ?side1 ?side2 A5.out).mono ?_); (case side1 => exact cz (Kd.C_below HR309_4.out HB.out)); (case side2 => exact HC309_4.out); rintro e w12 ⟨rfl, hb⟩; refine ⟨_, rfl, ?_⟩; have n0_ := Aside0.mk (below_step bz hb); clear HB; have HB := n0_; clear n0_; (try clear hb); (try clear hb2); (try clear hk); (try clear hi)))
       go_meet
       case rel => exact ⟨_, (true), (by first | rfl | (simp; done) | (simp [*]; done) | (simp; generalize ByteArray.toList _ = l_; cases l_ <;> rfl)), H', ⟨by have := HK1.out; first | omega | exact Nat.le_refl _⟩, ⟨bz⟩⟩
     case rest =>
      clear HC4
      try clear c2
      try clear c2b0
      try clear p2
      try clear c3
      try clear c3b0
      try clear p3
      try clear q3
      try clear hx3
      try clear c6
      try clear c7
      try clear c7b0
      try clear c8
      try clear c9
      try clear c9b0
      try clear c9b1
      try clear hx309_0
      try clear hx309_1
      try clear hx309_2
      try clear hx309_3
      try clear hx309_4
      try clear hx310_0
      try clear hx310_1
      try clear hx310_2
      try clear hx310_3
      try clear hx310_4
      try clear p309
      try clear p310
      try clear q309
      try clear q310
      obtain ⟨kq, x33_3, rfl, HA, HJ3, HB⟩ := hcut
      cases kq with
      | zero => exact absurd HA.out (by simp [boltingref04_Right.j1])
      | succ kj3 =>
       have H := HA.out
       clear HA
       simp only [boltingref04_Right.j1] at H
       by_cases c13 : x33_3 = true
       ·subst c13
        have H1 : (some false) = some r := by rw [if_pos rfl] at H; exact H
        clear H
        have H := H1
        clear H1
        obtain rfl := Option.some.inj H
        go_wp2
        go_ret
        exact ⟨by first | rfl | (simp [errW_none, errW_some] <;> rfl) | (simp [*, errW_none, errW_some] <;> rfl), bz⟩
       ·replace c13 := Bool.eq_false_iff.mpr c13
        subst c13
        have H1 : (if x3_1 > 0 then (if 0 ≤ (wrap64 (x3_1 - 1)) then (if (wrap64 (x3_1 - 1)) < (l0.length : Int) then (if ((rd_T35 l0 x3_1).f0) > (wrap64 (((rd_T35 l0 (wrap64 (x3_1 - 1))).f0) + 1)) then (some false) else (if ((rd_T35 l0 x3_1).f0) = (wrap64 (((rd_T35 l0 (wrap64 (x3_1 - 1))).f0) + 1)) then (if ((rd_T35 l0 (wrap64 (x3_1 - 1))).f1) = 0 then (boltingref04_Right.l0 kj3 l0 (wrap64 (x3_1 + 1))) else (some false)) else (boltingref04_Right.l0 kj3 l0 (wrap64 (x3_1 + 1))))) else (none)) else (none)) else (boltingref04_Right.l0 kj3 l0 (wrap64 (x3_1 + 1)))) = some r := by rw [if_neg (show ¬ (false = true) by decide)] at H; first | exact H | (simp only [eq_self] at H ⊢; exact H) | (simp only [eq_self, if_true] at H ⊢; exact H)
        clear H
        have H := H1
        clear H1
        by_cases c14 : x3_1 > 0
        ·rw [if_pos c14] at H
         have c14b0 : decide (0 < x3_1) = true := decide_eq_true c14
         clear c14
         obtain ⟨ji15, hji15⟩ : ∃ j_ : Int, (wrap64 (x3_1 - 1)) = j_ := ⟨_, rfl⟩
         replace H : (if 0 ≤ (ji15) then (if (ji15) < (l0.length : Int) then (if ((rd_T35 l0 x3_1).f0) > (wrap64 (((rd_T35 l0 (ji15)).f0) + 1)) then (some false) else (if ((rd_T35 l0 x3_1).f0) = (wrap64 (((rd_T35 l0 (ji15)).f0) + 1)) then (if ((rd_T35 l0 (ji15)).f1) = 0 then (boltingref04_Right.l0 kj3 l0 (wrap64 (x3_1 + 1))) else (some false)) else (boltingref04_Right.l0 kj3 l0 (wrap64 (x3_1 + 1))))) else (none)) else (none)) = some r := by first | (rw [hji15] at H; exact H) | (simp only [hji15] at H ⊢; exact H)
         have hji15w : (IntKind.i64.wrap (x3_1 - 1)) = ji15 := (i64_w _).trans hji15
         by_cases c16 : 0 ≤ (ji15)
         ·rw [if_pos c16] at H
          have c16b0 : decide (0 ≤ (ji15)) = true := decide_eq_true c16
          clear c16
          by_cases c17 : (ji15) < (l0.length : Int)
          ·rw [if_pos c17] at H
           have c17b0 : decide ((ji15) < (l0.length : Int)) = true := decide_eq_true c17
           clear c17
           by_cases c18 : ((rd_T35 l0 x3_1).f0) > (wrap64 (((rd_T35 l0 (ji15)).f0) + 1))
           ·rw [if_pos c18] at H
            have c18b0 : decide ((wrap64 (((rd_T35 l0 (ji15)).f0) + 1)) < ((rd_T35 l0 x3_1).f0)) = true := decide_eq_true c18
            clear c18
            obtain rfl := Option.some.inj H
            have p312 : 0 ≤ ((ji15) : Int) := (by first | exact of_decide_eq_true (by first | (with_reducible assumption) | assumption) | assumption | omega)
            have q312 : (ji15) < (l0.length : Int) := (by first | exact of_decide_eq_true (by first | (with_reducible assumption) | assumption) | assumption | omega)
            obtain ⟨ad312, A312_4, c312_4, e312, hx312_0, hx312_1, hx312_2, hx312_3, hx312_4, hl312_4, hi312_4⟩ := at_T35 HR0.out (ji15) p312 q312
            obtain rfl : ad309 = ad312 := (by injection e312)
            replace hx312_0 := (HB.out.cell (World.block_lt_of_cell? w _ hx312_0)).trans hx312_0
            replace hx312_1 := (HB.out.cell (World.block_lt_of_cell? w _ hx312_1)).trans hx312_1
            replace hx312_2 := (HB.out.cell (World.block_lt_of_cell? w _ hx312_2)).trans hx312_2
            replace hx312_3 := (HB.out.cell (World.block_lt_of_cell? w _ hx312_3)).trans hx312_3
            replace hx312_4 := (HB.out.cell (World.block_lt_of_cell? w _ hx312_4)).trans hx312_4
            have HR312_4 := Aside0.mk hi312_4
            have HC312_4 := Aside0.mk hl312_4
            clear hi312_4 hl312_4
            replace p312 := eq_true p312
            replace q312 := eq_true q312
            go_wp2
            go_ret
            exact ⟨by first | rfl | (simp [errW_none, errW_some] <;> rfl) | (simp only [← hji15]; first | rfl | (simp [errW_none, errW_some] <;> rfl)) | (simp [*, errW_none, errW_some] <;> rfl), bz⟩
           ·rw [if_neg c18] at H
            have c18b0 : decide ((wrap64 (((rd_T35 l0 (ji15)).f0) + 1)) < ((rd_T35 l0 x3_1).f0)) = false := decide_eq_false c18
            clear c18
            by_cases c19 : ((rd_T35 l0 x3_1).f0) = (wrap64 (((rd_T35 l0 (ji15)).f0) + 1))
            ·rw [if_pos c19] at H
             have c19b0 : (((rd_T35 l0 x3_1).f0) == (wrap64 (((rd_T35 l0 (ji15)).f0) + 1))) = true := beq_iff_eq.mpr c19
             have c19b1 : (((rd_T35 l0 x3_1).f0) != (wrap64 (((rd_T35 l0 (ji15)).f0) + 1))) = false := bne_eq_false_iff_eq.mpr c19
             clear c19
             by_cases c20 : ((rd_T35 l0 (ji15)).f1) = 0
             ·rw [if_pos c20] at H
              have c20b0 : (((rd_T35 l0 (ji15)).f1) == 0) = true := beq_iff_eq.mpr c20
              have c20b1 : (((rd_T35 l0 (ji15)).f1) != 0) = false := bne_eq_false_iff_eq.mpr c20
              clear c20
              have H' := Aside0.mk H
              clear H
              have p312 : 0 ≤ ((ji15) : Int) := (by first | exact of_decide_eq_true (by first | (with_reducible assumption) | assumption) | assumption | omega)
              have q312 : (ji15) < (l0.length : Int) := (by first | exact of_decide_eq_true (by first | (with_reducible assumption) | assumption) | assumption | omega)
              obtain ⟨ad312, A312_4, c312_4, e312, hx312_0, hx312_1, hx312_2, hx312_3, hx312_4, hl312_4, hi312_4⟩ := at_T35 HR0.out (ji15) p312 q312
              obtain rfl : ad309 = ad312 := (by injection e312)
              replace hx312_0 := (HB.out.cell (World.block_lt_of_cell? w _ hx312_0)).trans hx312_0
              replace hx312_1 := (HB.out.cell (World.block_lt_of_cell? w _ hx312_1)).trans hx312_1
              replace hx312_2 := (HB.out.cell (World.block_lt_of_cell? w _ hx312_2)).trans hx312_2
              replace hx312_3 := (HB.out.cell (World.block_lt_of_cell? w _ hx312_3)).trans hx312_3
              replace hx312_4 := (HB.out.cell (World.block_lt_of_cell? w _ hx312_4)).trans hx312_4
              have HR312_4 := Aside0.mk hi312_4
              have HC312_4 := Aside0.mk hl312_4
              clear hi312_4 hl312_4
              replace p312 := eq_true p312
              replace q312 := eq_true q312
              have p313 : 0 ≤ ((ji15) : Int) := (by first | exact of_decide_eq_true (by first | (with_reducible assumption) | assumption) | assumption | omega)
              have q313 : (ji15) < (l0.length : Int) := (by first | exact of_decide_eq_true (by first | (with_reducible assumption) | assumption) | assumption | omega)
              obtain ⟨ad313, A313_4, c313_4, e313, hx313_0, hx313_1, hx313_2, hx313_3, hx313_4, hl313_4, hi313_4⟩ := at_T35 HR0.out (ji15) p313 q313
              obtain rfl : ad309 = ad313 := (by injection e313)
              replace hx313_0 := (HB.out.cell (World.block_lt_of_cell? w _ hx313_0)).trans hx313_0
              replace hx313_1 := (HB.out.cell (World.block_lt_of_cell? w _ hx313_1)).trans hx313_1
              replace hx313_2 := (HB.out.cell (World.block_lt_of_cell? w _ hx313_2)).trans hx313_2
              replace hx313_3 := (HB.out.cell (World.block_lt_of_cell? w _ hx313_3)).trans hx313_3
              replace hx313_4 := (HB.out.cell (World.block_lt_of_cell? w _ hx313_4)).trans hx313_4
              have HR313_4 := Aside0.mk hi313_4
              have HC313_4 := Aside0.mk hl313_4
              clear hi313_4 hl313_4
              replace p313 := eq_true p313
              replace q313 := eq_true q313
              have ea_ := Option.some.inj (hx312_4.symm.trans hx313_4)
              injection ea_ with ea_ en_ ec_
              subst ea_
              subst ec_
              clear en_
              have p314 : 0 ≤ ((ji15) : Int) := (by first | exact of_decide_eq_true (by first | (with_reducible assumption) | assumption) | assumption | omega)
              have q314 : (ji15) < (l0.length : Int) := (by first | exact of_decide_eq_true (by first | (with_reducible assumption) | assumption) | assumption | omega)
              obtain ⟨ad314, A314_4, c314_4, e314, hx314_0, hx314_1, hx314_2, hx314_3, hx314_4, hl314_4, hi314_4⟩ := at_T35 HR0.out (ji15) p314 q314
              obtain rfl : ad309 = ad314 := (by injection e314)
              replace hx314_0 := (HB.out.cell (World.block_lt_of_cell? w _ hx314_0)).trans hx314_0
              replace hx314_1 := (HB.out.cell (World.block_lt_of_cell? w _ hx314_1)).trans hx314_1
              replace hx314_2 := (HB.out.cell (World.block_lt_of_cell? w _ hx314_2)).trans hx314_2
              replace hx314_3 := (HB.out.cell (World.block_lt_of_cell? w _ hx314_3)).trans hx314_3
              replace hx314_4 := (HB.out.cell (World.block_lt_of_cell? w _ hx314_4)).trans hx314_4
              have HR314_4 := Aside0.mk hi314_4
              have HC314_4 := Aside0.mk hl314_4
              clear hi314_4 hl314_4
              replace p314 := eq_true p314
              replace q314 := eq_true q314
              have ea_ := Option.some.inj (hx312_4.symm.trans hx314_4)
              injection ea_ with ea_ en_ ec_
              subst ea_
              subst ec_
              clear en_
              go_wp2
              go_roundg kj3
              case measure => have := HK1.out; have := HJ3.out; omega
              case rel => exact ⟨(wrap64 (x3_1 + 1)), (by first | rfl | (simp; done) | (simp [*]; done) | (simp; generalize ByteArray.toList _ = l_; cases l_ <;> rfl)), H', ⟨by have := HK1.out; have := HJ3.out; omega⟩, ⟨bz⟩⟩
             ·rw [if_neg c20] at H
              have c20b0 : (((rd_T35 l0 (ji15)).f1) == 0) = false := beq_eq_false_iff_ne.mpr c20
              have c20b1 : (((rd_T35 l0 (ji15)).f1) != 0) = true := bne_iff_ne.mpr c20
              obtain rfl := Option.some.inj H
              have p312 : 0 ≤ ((ji15) : Int) := (by first | exact of_decide_eq_true (by first | (with_reducible assumption) | assumption) | assumption | omega)
              have q312 : (ji15) < (l0.length : Int) := (by first | exact of_decide_eq_true (by first | (with_reducible assumption) | assumption) | assumption | omega)
              obtain ⟨ad312, A312_4, c312_4, e312, hx312_0, hx312_1, hx312_2, hx312_3, hx312_4, hl312_4, hi312_4⟩ := at_T35 HR0.out (ji15) p312 q312
              obtain rfl : ad309 = ad312 := (by injection e312)
              replace hx312_0 := (HB.out.cell (World.block_lt_of_cell? w _ hx312_0)).trans hx312_0
              replace hx312_1 := (HB.out.cell (World.block_lt_of_cell? w _ hx312_1)).trans hx312_1
              replace hx312_2 := (HB.out.cell (World.block_lt_of_cell? w _ hx312_2)).trans hx312_2
              replace hx312_3 := (HB.out.cell (World.block_lt_of_cell? w _ hx312_3)).trans hx312_3
              replace hx312_4 := (HB.out.cell (World.block_lt_of_cell? w _ hx312_4)).trans hx312_4
              have HR312_4 := Aside0.mk hi312_4
              have HC312_4 := Aside0.mk hl312_4
              clear hi312_4 hl312_4
              replace p312 := eq_true p312
              replace q312 := eq_true q312
              have p313 : 0 ≤ ((ji15) : Int) := (by first | exact of_decide_eq_true (by first | (with_reducible assumption) | assumption) | assumption | omega)
              have q313 : (ji15) < (l0.length : Int) := (by first | exact of_decide_eq_true (by first | (with_reducible assumption) | assumption) | assumption | omega)
              obtain ⟨ad313, A313_4, c313_4, e313, hx313_0, hx313_1, hx313_2, hx313_3, hx313_4, hl313_4, hi313_4⟩ := at_T35 HR0.out (ji15) p313 q313
              obtain rfl : ad309 = ad313 := (by injection e313)
              replace hx313_0 := (HB.out.cell (World.block_lt_of_cell? w _ hx313_0)).trans hx313_0
              replace hx313_1 := (HB.out.cell (World.block_lt_of_cell? w _ hx313_1)).trans hx313_1
              replace hx313_2 := (HB.out.cell (World.block_lt_of_cell? w _ hx313_2)).trans hx313_2
              replace hx313_3 := (HB.out.cell (World.block_lt_of_cell? w _ hx313_3)).trans hx313_3
              replace hx313_4 := (HB.out.cell (World.block_lt_of_cell? w _ hx313_4)).trans hx313_4
              have HR313_4 := Aside0.mk hi313_4
              have HC313_4 := Aside0.mk hl313_4
              clear hi313_4 hl313_4
              replace p313 := eq_true p313
              replace q313 := eq_true q313
              have ea_ := Option.some.inj (hx312_4.symm.trans hx313_4)
              injection ea_ with ea_ en_ ec_
              subst ea_
              subst ec_
              clear en_
              have p314 : 0 ≤ ((ji15) : Int) := (by first | exact of_decide_eq_true (by first | (with_reducible assumption) | assumption) | assumption | omega)
              have q314 : (ji15) < (l0.length : Int) := (by first | exact of_decide_eq_true (by first | (with_reducible assumption) | assumption) | assumption | omega)
              obtain ⟨ad314, A314_4, c314_4, e314, hx314_0, hx314_1, hx314_2, hx314_3, hx314_4, hl314_4, hi314_4⟩ := at_T35 HR0.out (ji15) p314 q314
              obtain rfl : ad309 = ad314 := (by injection e314)
              replace hx314_0 := (HB.out.cell (World.block_lt_of_cell? w _ hx314_0)).trans hx314_0
              replace hx314_1 := (HB.out.cell (World.block_lt_of_cell? w _ hx314_1)).trans hx314_1
              replace hx314_2 := (HB.out.cell (World.block_lt_of_cell? w _ hx314_2)).trans hx314_2
              replace hx314_3 := (HB.out.cell (World.block_lt_of_cell? w _ hx314_3)).trans hx314_3
              replace hx314_4 := (HB.out.cell (World.block_lt_of_cell? w _ hx314_4)).trans hx314_4
              have HR314_4 := Aside0.mk hi314_4
              have HC314_4 := Aside0.mk hl314_4
              clear hi314_4 hl314_4
              replace p314 := eq_true p314
              replace q314 := eq_true q314
              have ea_ := Option.some.inj (hx312_4.symm.trans hx314_4)
              injection ea_ with ea_ en_ ec_
              subst ea_
              subst ec_
              clear en_
              go_wp2
              go_ret
              exact ⟨by first | rfl | (simp [errW_none, errW_some] <;> rfl) | (simp only [← hji15]; first | rfl | (simp [errW_none, errW_some] <;> rfl)) | (simp [*, errW_none, errW_some] <;> rfl), bz⟩
            ·rw [if_neg c19] at H
             have c19b0 : (((rd_T35 l0 x3_1).f0) == (wrap64 (((rd_T35 l0 (ji15)).f0) + 1))) = false := beq_eq_false_iff_ne.mpr c19
             have c19b1 : (((rd_T35 l0 x3_1).f0) != (wrap64 (((rd_T35 l0 (ji15)).f0) + 1))) = true := bne_iff_ne.mpr c19
             have H' := Aside0.mk H
             clear H
             have p312 : 0 ≤ ((ji15) : Int) := (by first | exact of_decide_eq_true (by first | (with_reducible assumption) | assumption) | assumption | omega)
             have q312 : (ji15) < (l0.length : Int) := (by first | exact of_decide_eq_true (by first | (with_reducible assumption) | assumption) | assumption | omega)
             obtain ⟨ad312, A312_4, c312_4, e312, hx312_0, hx312_1, hx312_2, hx312_3, hx312_4, hl312_4, hi312_4⟩ := at_T35 HR0.out (ji15) p312 q312
             obtain rfl : ad309 = ad312 := (by injection e312)
             replace hx312_0 := (HB.out.cell (World.block_lt_of_cell? w _ hx312_0)).trans hx312_0
             replace hx312_1 := (HB.out.cell (World.block_lt_of_cell? w _ hx312_1)).trans hx312_1
             replace hx312_2 := (HB.out.cell (World.block_lt_of_cell? w _ hx312_2)).trans hx312_2
             replace hx312_3 := (HB.out.cell (World.block_lt_of_cell? w _ hx312_3)).trans hx312_3
             replace hx312_4 := (HB.out.cell (World.block_lt_of_cell? w _ hx312_4)).trans hx312_4
             have HR312_4 := Aside0.mk hi312_4
             have HC312_4 := Aside0.mk hl312_4
             clear hi312_4 hl312_4
             replace p312 := eq_true p312
             replace q312 := eq_true q312
             have p313 : 0 ≤ ((ji15) : Int) := (by first | exact of_decide_eq_true (by first | (with_reducible assumption) | assumption) | assumption | omega)
             have q313 : (ji15) < (l0.length : Int) := (by first | exact of_decide_eq_true (by first | (with_reducible assumption) | assumption) | assumption | omega)
             obtain ⟨ad313, A313_4, c313_4, e313, hx313_0, hx313_1, hx313_2, hx313_3, hx313_4, hl313_4, hi313_4⟩ := at_T35 HR0.out (ji15) p313 q313
             obtain rfl : ad309 = ad313 := (by injection e313)
             replace hx313_0 := (HB.out.cell (World.block_lt_of_cell? w _ hx313_0)).trans hx313_0
             replace hx313_1 := (HB.out.cell (World.block_lt_of_cell? w _ hx313_1)).trans hx313_1
             replace hx313_2 := (HB.out.cell (World.block_lt_of_cell? w _ hx313_2)).trans hx313_2
             replace hx313_3 := (HB.out.cell (World.block_lt_of_cell? w _ hx313_3)).trans hx313_3
             replace hx313_4 := (HB.out.cell (World.block_lt_of_cell? w _ hx313_4)).trans hx313_4
             have HR313_4 := Aside0.mk hi313_4
             have HC313_4 := Aside0.mk hl313_4
             clear hi313_4 hl313_4
             replace p313 := eq_true p313
             replace q313 := eq_true q313
             have ea_ := Option.some.inj (hx312_4.symm.trans hx313_4)
             injection ea_ with ea_ en_ ec_
             subst ea_
             subst ec_
             clear en_
             go_wp2
             go_roundg kj3
             case measure => have := HK1.out; have := HJ3.out; omega
             case rel => exact ⟨(wrap64 (x3_1 + 1)), (by first | rfl | (simp; done) | (simp [*]; done) | (simp; generalize ByteArray.toList _ = l_; cases l_ <;> rfl)), H', ⟨by have := HK1.out; have := HJ3.out; omega⟩, ⟨bz⟩⟩
          ·rw [if_neg c17] at H
           exact absurd H (by simp)
         ·rw [if_neg c16] at H
          exact absurd H (by simp)
        ·rw [if_neg c14] at H
         have c14b0 : decide (0 < x3_1) = false := decide_eq_false c14
         clear c14
         have H' := Aside0.mk H
         clear H
         go_wp2
         go_roundg kj3
         case measure => have := HK1.out; have := HJ3.out; omega
         case rel => exact ⟨(wrap64 (x3_1 + 1)), (by first | rfl | (simp; done) | (simp [*]; done) | (simp; generalize ByteArray.toList _ = l_; cases l_ <;> rfl)), H', ⟨by have := HK1.out; have := HJ3.out; omega⟩, ⟨bz⟩⟩
    ·rw [if_neg c3] at H
     exact absurd H (by simp)
   ·rw [if_neg c2] at H
    have c2b0 : decide (x3_1 < (l0.length : Int)) = false := decide_eq_false c2
    clear c2
    obtain rfl := Option.some.inj H
    go_wp2
    go_ret
    exact ⟨by first | rfl | (simp [errW_none, errW_some] <;> rfl) | (simp [*, errW_none, errW_some] <;> rfl), bz⟩
end Go.Proofs.YtdnbaliibiginaaDoorH.W8
