/- Lemmas and walks, part 21: QPW7x53, QPW7x54, QW7W. -/
import Derived.Test.YtkcmghlhpbepcaaGreatDoorN83
import Derived.Test.YtkcmghlhpbepcaaGreatDoorN820
import Derived.Test.YtkcmghlhpbepcaaGreatDoorN814
import Derived.Test.YtkcmghlhpbepcaaGreatDoorN819
set_option linter.unusedVariables false
set_option linter.unusedSimpArgs false

/- Words and walks used below. -/
namespace Go.Proofs.YtkcmghlhpbepcaaGreatDoorH.W7
open Go.RowKit Go.Proofs.YtkcmghlhpbepcaaGreatDoorW.PrintWords Go.Proofs.YtkcmghlhpbepcaaGreatDoorW.PrintLast Go.Proofs.YtkcmghlhpbepcaaGreatDoorW.PrintMore
attribute [local go_sem] max2_int min2_int max_two min_two max_three min_three max_four min_four   -- for this text's walks alone
mutual
def rows_right.l0 : Nat → Int → List (S34) → Int → Int → Option (Bool)
 | 0, _, _, _, _ => none
 | k + 1, x3, x6, x7, x8 => if x8 < x7 then (if 0 ≤ x8 then (if x8 < (x6.length : Int) then (if ((rd_T34 x6 x8).f0) < 0 then (rows_right.j1 k x6 x7 x8 true ((rd_T34 x6 x8).f0) ((rd_T34 x6 x8).f1) ((rd_T34 x6 x8).f2) ((rd_T34 x6 x8).f3) ((rd_T34 x6 x8).f4)) else (if ((rd_T34 x6 x8).f0) > x3 then (rows_right.j1 k x6 x7 x8 true ((rd_T34 x6 x8).f0) ((rd_T34 x6 x8).f1) ((rd_T34 x6 x8).f2) ((rd_T34 x6 x8).f3) ((rd_T34 x6 x8).f4)) else ((rows_row.f k ((rd_T34 x6 x8).f0) ((rd_T34 x6 x8).f1) ((rd_T34 x6 x8).f2) ((rd_T34 x6 x8).f3) ((rd_T34 x6 x8).f4)).bind fun t583 => (rows_right.j1 k x6 x7 x8 (!t583) ((rd_T34 x6 x8).f0) ((rd_T34 x6 x8).f1) ((rd_T34 x6 x8).f2) ((rd_T34 x6 x8).f3) ((rd_T34 x6 x8).f4))))) else (none)) else (none)) else (some true)
def rows_right.j1 : Nat → List (S34) → Int → Int → Bool → Int → Int → ByteArray → ByteArray → List (S36) → Option (Bool)
 | 0, _, _, _, _, _, _, _, _, _ => none
 | k + 1, x6, x7, x8, x25, x583000, x583001, x583002, x583003, x583004 => if x25 = true then (some false) else (if x583001 = 0 then (rows_right.l0 k (wrap64 (x583000 + 1)) x6 x7 (wrap64 (x8 + 1))) else (rows_right.l0 k x583000 x6 x7 (wrap64 (x8 + 1))))
end
def rows_right.f (k : Nat) (l0 : List (S34)) : Option (Bool) := rows_right.l0 k 0 l0 (l0.length : Int) 0
set_option maxHeartbeats 8000000 in
set_option maxRecDepth 100000 in
theorem rows_right.calls (k : Nat) (A0 : Option Addr) (c0 : Nat) (l0 : List (S34)) (r : Bool) (w : World) (hr0 : Kd.C k34 w A0 l0.length l0) (hc0 : l0.length ≤ c0) (h : rows_right.f k l0 = some r) :
 Calls Tryz.prog 85 #[.slice A0 l0.length c0] w fun e w' => e = .returned (.bool r) ∧ Below w.heap.size w w' := by
 have hu34 := Tryz.underlying34
 have HR0 := Aside0.mk hr0
 have HC0 := Aside0.mk hc0
 clear hr0 hc0
 have HB := Aside0.mk (Below.refl w.heap.size w)
 have H : (rows_right.l0 k 0 l0 (l0.length : Int) 0) = some r := h
 clear h
 have H' := Aside0.mk H
 clear H
 go_enter Tryz.func85, Tryz.ntmps85
 go_wp2
 go_loopg [3, 8] k (fun kq v3 v8 w' => ∃ (x3_1 : Int) (x8_1 : Int), v3 = .int .i64 x3_1 ∧ v8 = .int .i64 x8_1 ∧ Aside0 (rows_right.l0 kq x3_1 l0 (l0.length : Int) x8_1 = some r) ∧ Aside0 (kq ≤ k) ∧ Aside0 (Below w.heap.size w w'))
 case atStart => exact ⟨(0), (0), (by first | rfl | (simp; done) | (simp [*]; done) | (simp; generalize ByteArray.toList _ = l_; cases l_ <;> rfl)), (by first | rfl | (simp; done) | (simp [*]; done) | (simp; generalize ByteArray.toList _ = l_; cases l_ <;> rfl)), H', ⟨Nat.le_refl _⟩, ⟨bz⟩⟩
 case round =>
  clear H'
  obtain ⟨x3_1, x8_1, rfl, rfl, HA, HK1, HB⟩ := hrel
  cases gk with
  | zero => exact absurd HA.out (by simp [rows_right.l0])
  | succ k1 =>
    have H := HA.out
    clear HA
    simp only [rows_right.l0] at H
    by_cases c2 : x8_1 < (l0.length : Int)
    ·rw [if_pos c2] at H
     have c2b0 : decide (x8_1 < (l0.length : Int)) = true := decide_eq_true c2
     clear c2
     by_cases c3 : 0 ≤ x8_1
     ·rw [if_pos c3] at H
      have c3b0 : decide (0 ≤ x8_1) = true := decide_eq_true c3
      clear c3
      by_cases c4 : x8_1 < (l0.length : Int)
      ·rw [if_pos c4] at H
       have c4b0 : decide (x8_1 < (l0.length : Int)) = true := decide_eq_true c4
       clear c4
       have HC5 := Aside0.mk H
       clear H
       have p581 : 0 ≤ (x8_1 : Int) := (by first | exact of_decide_eq_true (by first | (with_reducible assumption) | assumption) | assumption | omega)
       have q581 : x8_1 < (l0.length : Int) := (by first | exact of_decide_eq_true (by first | (with_reducible assumption) | assumption) | assumption | omega)
       obtain ⟨ad581, A581_4, c581_4, e581, hx581_0, hx581_1, hx581_2, hx581_3, hx581_4, hl581_4, hi581_4⟩ := at_T34 HR0.out x8_1 p581 q581
       cases e581
       replace hx581_0 := (HB.out.cell (World.block_lt_of_cell? w _ hx581_0)).trans hx581_0
       replace hx581_1 := (HB.out.cell (World.block_lt_of_cell? w _ hx581_1)).trans hx581_1
       replace hx581_2 := (HB.out.cell (World.block_lt_of_cell? w _ hx581_2)).trans hx581_2
       replace hx581_3 := (HB.out.cell (World.block_lt_of_cell? w _ hx581_3)).trans hx581_3
       replace hx581_4 := (HB.out.cell (World.block_lt_of_cell? w _ hx581_4)).trans hx581_4
       have HR581_4 := Aside0.mk hi581_4
       have HC581_4 := Aside0.mk hl581_4
       clear hi581_4 hl581_4
       replace p581 := eq_true p581
       replace q581 := eq_true q581
       go_upto_region 5 with (first | ((with_reducible refine gate_dst (N := 5) rfl ?_); refine box_event ?hg (N := 5) ?hd (cs := #[.int .i64 0, .int .i64 0, .string (⟨#[]⟩ : ByteArray), .string (⟨#[]⟩ : ByteArray), .slice none 0 0]) (t := 34) ?hr ?_; (case hd => rfl); (case hg => rfl); (case hr => first | (go_simp; done) | (go_simp; rfl)); intro gb582 hg w6 hbox hb; have n0_ := Aside0.mk (below_step bz hb); have n1_ := Aside0.mk (hbox); have n2_ := Aside0.mk ((by rw [hg]; exact (below_size bz) : w.heap.size ≤ gb582)); have n3_ := Aside0.mk ((by rw [hg]; exact (below_size bz) : w.heap.size ≤ gb582)); clear HB; have HB := n0_; have BK582 := n1_; have GW582 := n2_; have GE582 := n3_; clear n0_ n1_ n2_ n3_; clear hb hbox hg; have hcz7_0 : w6.cell? ⟨gb582, 0, none⟩ = some (.int .i64 0) := (blk_cell BK582.out 0).trans rfl; have hcz7_1 : w6.cell? ⟨gb582, 1, none⟩ = some (.int .i64 0) := (blk_cell BK582.out 1).trans rfl; have hcz7_2 : w6.cell? ⟨gb582, 2, none⟩ = some (.string (⟨#[]⟩ : ByteArray)) := (blk_cell BK582.out 2).trans rfl; have hcz7_3 : w6.cell? ⟨gb582, 3, none⟩ = some (.string (⟨#[]⟩ : ByteArray)) := (blk_cell BK582.out 3).trans rfl; have hcz7_4 : w6.cell? ⟨gb582, 4, none⟩ = some (.slice none 0 0) := (blk_cell BK582.out 4).trans rfl; have hfz7_0 := blk_frozen BK582.out 0; have hfz7_1 := blk_frozen BK582.out 1; have hfz7_2 := blk_frozen BK582.out 2; have hfz7_3 := blk_frozen BK582.out 3; have hfz7_4 := blk_frozen BK582.out 4))
       (try simp only [Act.put, List.setIfInBounds_toArray, List.set_cons_zero, List.set_cons_succ])
       go_cut [25] (fun v25 wc => ∃ (kq : Nat) (x25_4 : Bool), v25 = .bool x25_4 ∧ Aside0 (rows_right.j1 kq l0 (l0.length : Int) x8_1 x25_4 ((rd_T34 l0 x8_1).f0) ((rd_T34 l0 x8_1).f1) ((rd_T34 l0 x8_1).f2) ((rd_T34 l0 x8_1).f3) ((rd_T34 l0 x8_1).f4) = some r) ∧ Aside0 (kq ≤ k1) ∧ Aside0 (wc.heap[gb582]? = some (.cells #[.int .i64 ((rd_T34 l0 x8_1).f0), .int .i64 ((rd_T34 l0 x8_1).f1), .string ((rd_T34 l0 x8_1).f2), .string ((rd_T34 l0 x8_1).f3), (.slice A581_4 ((rd_T34 l0 x8_1).f4).length c581_4)] 34 (0, 0))) ∧ Aside0 (Below w.heap.size w wc))
       case first =>
        have H := HC5.out
        clear HC5
        by_cases c8 : ((rd_T34 l0 x8_1).f0) < 0
        ·rw [if_pos c8] at H
         have c8b0 : decide (((rd_T34 l0 x8_1).f0) < 0) = true := decide_eq_true c8
         clear c8
         (first | rw [c8b0] | (simp only [i64_w, i32_w]; rw [c8b0]) | skip)
         have H' := Aside0.mk H
         clear H
         have hcz9_0 : w6.cell? ⟨gb582, 0, none⟩ = some (.int .i64 0) := (blk_cell BK582.out 0).trans rfl
         have hcz9_1 : w6.cell? ⟨gb582, 1, none⟩ = some (.int .i64 0) := (blk_cell BK582.out 1).trans rfl
         have hcz9_2 : w6.cell? ⟨gb582, 2, none⟩ = some (.string (⟨#[]⟩ : ByteArray)) := (blk_cell BK582.out 2).trans rfl
         have hcz9_3 : w6.cell? ⟨gb582, 3, none⟩ = some (.string (⟨#[]⟩ : ByteArray)) := (blk_cell BK582.out 3).trans rfl
         have hcz9_4 : w6.cell? ⟨gb582, 4, none⟩ = some (.slice none 0 0) := (blk_cell BK582.out 4).trans rfl
         have hfz9_0 := blk_frozen BK582.out 0
         have hfz9_1 := blk_frozen BK582.out 1
         have hfz9_2 := blk_frozen BK582.out 2
         have hfz9_3 := blk_frozen BK582.out 3
         have hfz9_4 := blk_frozen BK582.out 4
         go_wp2
         go_meet
         case rel => exact ⟨_, (true), (by first | rfl | (simp; done) | (simp [*]; done) | (simp; generalize ByteArray.toList _ = l_; cases l_ <;> rfl)), H', ⟨by have := HK1.out; first | omega | exact Nat.le_refl _⟩, ⟨by (with_reducible repeat (first | refine blk_drewN ?_ _ | refine blk_drew ?_ | refine blk_alloc ?_ _)); refine blk_put (cs := #[.int .i64 ((rd_T34 l0 x8_1).f0), .int .i64 ((rd_T34 l0 x8_1).f1), .string ((rd_T34 l0 x8_1).f2), .string ((rd_T34 l0 x8_1).f3), .slice none 0 0]) ?_ 4 _ rfl; (with_reducible repeat (first | refine blk_drewN ?_ _ | refine blk_drew ?_ | refine blk_alloc ?_ _)); refine blk_put (cs := #[.int .i64 ((rd_T34 l0 x8_1).f0), .int .i64 ((rd_T34 l0 x8_1).f1), .string ((rd_T34 l0 x8_1).f2), .string (⟨#[]⟩ : ByteArray), .slice none 0 0]) ?_ 3 _ rfl; (with_reducible repeat (first | refine blk_drewN ?_ _ | refine blk_drew ?_ | refine blk_alloc ?_ _)); refine blk_put (cs := #[.int .i64 ((rd_T34 l0 x8_1).f0), .int .i64 ((rd_T34 l0 x8_1).f1), .string (⟨#[]⟩ : ByteArray), .string (⟨#[]⟩ : ByteArray), .slice none 0 0]) ?_ 2 _ rfl; (with_reducible repeat (first | refine blk_drewN ?_ _ | refine blk_drew ?_ | refine blk_alloc ?_ _)); refine blk_put (cs := #[.int .i64 ((rd_T34 l0 x8_1).f0), .int .i64 0, .string (⟨#[]⟩ : ByteArray), .string (⟨#[]⟩ : ByteArray), .slice none 0 0]) ?_ 1 _ rfl; (with_reducible repeat (first | refine blk_drewN ?_ _ | refine blk_drew ?_ | refine blk_alloc ?_ _)); refine blk_put (cs := #[.int .i64 0, .int .i64 0, .string (⟨#[]⟩ : ByteArray), .string (⟨#[]⟩ : ByteArray), .slice none 0 0]) ?_ 0 _ rfl; (with_reducible repeat (first | refine blk_drewN ?_ _ | refine blk_drew ?_ | refine blk_alloc ?_ _)); exact BK582.out⟩, ⟨bs GE582.out⟩⟩
        ·rw [if_neg c8] at H
         have c8b0 : decide (((rd_T34 l0 x8_1).f0) < 0) = false := decide_eq_false c8
         clear c8
         (first | rw [c8b0] | (simp only [i64_w, i32_w]; rw [c8b0]) | skip)
         by_cases c10 : ((rd_T34 l0 x8_1).f0) > x3_1
         ·rw [if_pos c10] at H
          have c10b0 : decide (x3_1 < ((rd_T34 l0 x8_1).f0)) = true := decide_eq_true c10
          clear c10
          have H' := Aside0.mk H
          clear H
          have hcz11_0 : w6.cell? ⟨gb582, 0, none⟩ = some (.int .i64 0) := (blk_cell BK582.out 0).trans rfl
          have hcz11_1 : w6.cell? ⟨gb582, 1, none⟩ = some (.int .i64 0) := (blk_cell BK582.out 1).trans rfl
          have hcz11_2 : w6.cell? ⟨gb582, 2, none⟩ = some (.string (⟨#[]⟩ : ByteArray)) := (blk_cell BK582.out 2).trans rfl
          have hcz11_3 : w6.cell? ⟨gb582, 3, none⟩ = some (.string (⟨#[]⟩ : ByteArray)) := (blk_cell BK582.out 3).trans rfl
          have hcz11_4 : w6.cell? ⟨gb582, 4, none⟩ = some (.slice none 0 0) := (blk_cell BK582.out 4).trans rfl
          have hfz11_0 := blk_frozen BK582.out 0
          have hfz11_1 := blk_frozen BK582.out 1
          have hfz11_2 := blk_frozen BK582.out 2
          have hfz11_3 := blk_frozen BK582.out 3
          have hfz11_4 := blk_frozen BK582.out 4
          go_wp2
          go_meet
          case rel => exact ⟨_, (true), (by first | rfl | (simp; done) | (simp [*]; done) | (simp; generalize ByteArray.toList _ = l_; cases l_ <;> rfl)), H', ⟨by have := HK1.out; first | omega | exact Nat.le_refl _⟩, ⟨by (with_reducible repeat (first | refine blk_drewN ?_ _ | refine blk_drew ?_ | refine blk_alloc ?_ _)); refine blk_put (cs := #[.int .i64 ((rd_T34 l0 x8_1).f0), .int .i64 ((rd_T34 l0 x8_1).f1), .string ((rd_T34 l0 x8_1).f2), .string ((rd_T34 l0 x8_1).f3), .slice none 0 0]) ?_ 4 _ rfl; (with_reducible repeat (first | refine blk_drewN ?_ _ | refine blk_drew ?_ | refine blk_alloc ?_ _)); refine blk_put (cs := #[.int .i64 ((rd_T34 l0 x8_1).f0), .int .i64 ((rd_T34 l0 x8_1).f1), .string ((rd_T34 l0 x8_1).f2), .string (⟨#[]⟩ : ByteArray), .slice none 0 0]) ?_ 3 _ rfl; (with_reducible repeat (first | refine blk_drewN ?_ _ | refine blk_drew ?_ | refine blk_alloc ?_ _)); refine blk_put (cs := #[.int .i64 ((rd_T34 l0 x8_1).f0), .int .i64 ((rd_T34 l0 x8_1).f1), .string (⟨#[]⟩ : ByteArray), .string (⟨#[]⟩ : ByteArray), .slice none 0 0]) ?_ 2 _ rfl; (with_reducible repeat (first | refine blk_drewN ?_ _ | refine blk_drew ?_ | refine blk_alloc ?_ _)); refine blk_put (cs := #[.int .i64 ((rd_T34 l0 x8_1).f0), .int .i64 0, .string (⟨#[]⟩ : ByteArray), .string (⟨#[]⟩ : ByteArray), .slice none 0 0]) ?_ 1 _ rfl; (with_reducible repeat (first | refine blk_drewN ?_ _ | refine blk_drew ?_ | refine blk_alloc ?_ _)); refine blk_put (cs := #[.int .i64 0, .int .i64 0, .string (⟨#[]⟩ : ByteArray), .string (⟨#[]⟩ : ByteArray), .slice none 0 0]) ?_ 0 _ rfl; (with_reducible repeat (first | refine blk_drewN ?_ _ | refine blk_drew ?_ | refine blk_alloc ?_ _)); exact BK582.out⟩, ⟨bs GE582.out⟩⟩
         ·rw [if_neg c10] at H
          have c10b0 : decide (x3_1 < ((rd_T34 l0 x8_1).f0)) = false := decide_eq_false c10
          clear c10
          replace H := Option.bind_eq_some_iff.mp H
          obtain ⟨t583, A120, H⟩ := H
          replace H : (rows_right.j1 k1 l0 (l0.length : Int) x8_1 (!t583) ((rd_T34 l0 x8_1).f0) ((rd_T34 l0 x8_1).f1) ((rd_T34 l0 x8_1).f2) ((rd_T34 l0 x8_1).f3) ((rd_T34 l0 x8_1).f4)) = some r := H
          have A12 := Aside0.mk A120
          clear A120
          have H' := Aside0.mk H
          clear H
          have hcz13_0 : w6.cell? ⟨gb582, 0, none⟩ = some (.int .i64 0) := (blk_cell BK582.out 0).trans rfl
          have hcz13_1 : w6.cell? ⟨gb582, 1, none⟩ = some (.int .i64 0) := (blk_cell BK582.out 1).trans rfl
          have hcz13_2 : w6.cell? ⟨gb582, 2, none⟩ = some (.string (⟨#[]⟩ : ByteArray)) := (blk_cell BK582.out 2).trans rfl
          have hcz13_3 : w6.cell? ⟨gb582, 3, none⟩ = some (.string (⟨#[]⟩ : ByteArray)) := (blk_cell BK582.out 3).trans rfl
          have hcz13_4 : w6.cell? ⟨gb582, 4, none⟩ = some (.slice none 0 0) := (blk_cell BK582.out 4).trans rfl
          have hfz13_0 := blk_frozen BK582.out 0
          have hfz13_1 := blk_frozen BK582.out 1
          have hfz13_2 := blk_frozen BK582.out 2
          have hfz13_3 := blk_frozen BK582.out 3
          have hfz13_4 := blk_frozen BK582.out 4
          go_wp2_with (first | (go_at_call 131; (with_reducible refine (rows_row.calls k1 ((rd_T34 l0 x8_1).f0) ((rd_T34 l0 x8_1).f1) ((rd_T34 l0 x8_1).f2) ((rd_T34 l0 x8_1).f3) _ _ ((rd_T34 l0 x8_1).f4) t583 _ ?side1 ?side2 A12.out).mono ?_); (case side1 => exact Kd.C_below HR581_4.out (bs GE582.out)); (case side2 => exact HC581_4.out); rintro e w14 ⟨rfl, hb⟩; have n0_ := Aside0.mk (blk_below (g := gb582) (o := .cells #[.int .i64 ((rd_T34 l0 x8_1).f0), .int .i64 ((rd_T34 l0 x8_1).f1), .string ((rd_T34 l0 x8_1).f2), .string ((rd_T34 l0 x8_1).f3), .slice A581_4 ((rd_T34 l0 x8_1).f4).length c581_4] 34 (0, 0)) (by (with_reducible repeat (first | refine blk_drewN ?_ _ | refine blk_drew ?_ | refine blk_alloc ?_ _)); refine blk_put (cs := #[.int .i64 ((rd_T34 l0 x8_1).f0), .int .i64 ((rd_T34 l0 x8_1).f1), .string ((rd_T34 l0 x8_1).f2), .string ((rd_T34 l0 x8_1).f3), .slice none 0 0]) ?_ 4 _ rfl; (with_reducible repeat (first | refine blk_drewN ?_ _ | refine blk_drew ?_ | refine blk_alloc ?_ _)); refine blk_put (cs := #[.int .i64 ((rd_T34 l0 x8_1).f0), .int .i64 ((rd_T34 l0 x8_1).f1), .string ((rd_T34 l0 x8_1).f2), .string (⟨#[]⟩ : ByteArray), .slice none 0 0]) ?_ 3 _ rfl; (with_reducible repeat (first | refine blk_drewN ?_ _ | refine blk_drew ?_ | refine blk_alloc ?_ _)); refine blk_put (cs := #[.int .i64 ((rd_T34 l0 x8_1).f0), .int .i64 ((rd_T34 l0 x8_1).f1), .string (⟨#[]⟩ : ByteArray), .string (⟨#[]⟩ : ByteArray), .slice none 0 0]) ?_ 2 _ rfl; (with_reducible repeat (first | refine blk_drewN ?_ _ | refine blk_drew ?_ | refine blk_alloc ?_ _)); refine blk_put (cs := #[.int .i64 ((rd_T34 l0 x8_1).f0), .int .i64 0, .string (⟨#[]⟩ : ByteArray), .string (⟨#[]⟩ : ByteArray), .slice none 0 0]) ?_ 1 _ rfl; (with_reducible repeat (first | refine blk_drewN ?_ _ | refine blk_drew ?_ | refine blk_alloc ?_ _)); refine blk_put (cs := #[.int .i64 0, .int .i64 0, .string (⟨#[]⟩ : ByteArray), .string (⟨#[]⟩ : ByteArray), .slice none 0 0]) ?_ 0 _ rfl; (with_reducible repeat (first | refine blk_drewN ?_ _ | refine blk_drew ?_ | refine blk_alloc ?_ _)); exact BK582.out) hb); have n1_ := Aside0.mk (below_step (bs GE582.out) hb); clear BK582; clear HB; have BK582 := n0_; have HB := n1_; clear n0_ n1_; (try clear hb); (try clear hb2); (try clear hk); (try clear hi)))
          go_meet
          case rel => exact ⟨_, (!t583), (by first | rfl | (simp; done) | (simp [*]; done) | (simp; generalize ByteArray.toList _ = l_; cases l_ <;> rfl)), H', ⟨by have := HK1.out; first | omega | exact Nat.le_refl _⟩, ⟨by (with_reducible repeat (first | refine blk_drewN ?_ _ | refine blk_drew ?_ | refine blk_alloc ?_ _)); exact BK582.out⟩, ⟨bs GE582.out⟩⟩
       case rest =>
        clear HC5
        try clear c1
        try clear c2
        try clear c2b0
        try clear p2
        try clear c3
        try clear c3b0
        try clear c4
        try clear c4b0
        try clear c5
        try clear p5
        try clear q5
        try clear hx5
        try clear c8
        try clear c8b0
        try clear c10
        try clear c10b0
        try clear hcz11_0
        try clear hcz11_1
        try clear hcz11_2
        try clear hcz11_3
        try clear hcz11_4
        try clear hcz13_0
        try clear hcz13_1
        try clear hcz13_2
        try clear hcz13_3
        try clear hcz13_4
        try clear hcz7_0
        try clear hcz7_1
        try clear hcz7_2
        try clear hcz7_3
        try clear hcz7_4
        try clear hcz9_0
        try clear hcz9_1
        try clear hcz9_2
        try clear hcz9_3
        try clear hcz9_4
        try clear hfz11_0
        try clear hfz11_1
        try clear hfz11_2
        try clear hfz11_3
        try clear hfz11_4
        try clear hfz13_0
        try clear hfz13_1
        try clear hfz13_2
        try clear hfz13_3
        try clear hfz13_4
        try clear hfz7_0
        try clear hfz7_1
        try clear hfz7_2
        try clear hfz7_3
        try clear hfz7_4
        try clear hfz9_0
        try clear hfz9_1
        try clear hfz9_2
        try clear hfz9_3
        try clear hfz9_4
        try clear hx581_0
        try clear hx581_1
        try clear hx581_2
        try clear hx581_3
        try clear hx581_4
        try clear p581
        try clear q581
        obtain ⟨kq, x25_4, rfl, HA, HJ4, BK582, HB⟩ := hcut
        cases kq with
        | zero => exact absurd HA.out (by simp [rows_right.j1])
        | succ kj4 =>
          have H := HA.out
          clear HA
          simp only [rows_right.j1] at H
          by_cases c15 : x25_4 = true
          ·subst c15
           have H1 : (some false) = some r := by rw [if_pos rfl] at H; exact H
           clear H
           have H := H1
           clear H1
           obtain rfl := Option.some.inj H
           go_wp2
           go_ret
           exact ⟨by first | rfl | (simp [errW_none, errW_some] <;> rfl) | (simp [*, errW_none, errW_some] <;> rfl), bs GE582.out⟩
          ·replace c15 := Bool.eq_false_iff.mpr c15
           subst c15
           have H1 : (if ((rd_T34 l0 x8_1).f1) = 0 then (rows_right.l0 kj4 (wrap64 (((rd_T34 l0 x8_1).f0) + 1)) l0 (l0.length : Int) (wrap64 (x8_1 + 1))) else (rows_right.l0 kj4 ((rd_T34 l0 x8_1).f0) l0 (l0.length : Int) (wrap64 (x8_1 + 1)))) = some r := by rw [if_neg (show ¬ (false = true) by decide)] at H; first | exact H | (simp only [eq_self] at H ⊢; exact H) | (simp only [eq_self, if_true] at H ⊢; exact H)
           clear H
           have H := H1
           clear H1
           by_cases c16 : ((rd_T34 l0 x8_1).f1) = 0
           ·rw [if_pos c16] at H
            have c16b0 : (((rd_T34 l0 x8_1).f1) == 0) = true := beq_iff_eq.mpr c16
            have c16b1 : (((rd_T34 l0 x8_1).f1) != 0) = false := bne_eq_false_iff_eq.mpr c16
            clear c16
            have H' := Aside0.mk H
            clear H
            have hcz17_0 : wc.cell? ⟨gb582, 0, none⟩ = some (.int .i64 ((rd_T34 l0 x8_1).f0)) := (blk_cell BK582.out 0).trans rfl
            have hcz17_1 : wc.cell? ⟨gb582, 1, none⟩ = some (.int .i64 ((rd_T34 l0 x8_1).f1)) := (blk_cell BK582.out 1).trans rfl
            have hcz17_2 : wc.cell? ⟨gb582, 2, none⟩ = some (.string ((rd_T34 l0 x8_1).f2)) := (blk_cell BK582.out 2).trans rfl
            have hcz17_3 : wc.cell? ⟨gb582, 3, none⟩ = some (.string ((rd_T34 l0 x8_1).f3)) := (blk_cell BK582.out 3).trans rfl
            have hcz17_4 : wc.cell? ⟨gb582, 4, none⟩ = some (.slice A581_4 ((rd_T34 l0 x8_1).f4).length c581_4) := (blk_cell BK582.out 4).trans rfl
            have hfz17_0 := blk_frozen BK582.out 0
            have hfz17_1 := blk_frozen BK582.out 1
            have hfz17_2 := blk_frozen BK582.out 2
            have hfz17_3 := blk_frozen BK582.out 3
            have hfz17_4 := blk_frozen BK582.out 4
            go_wp2
            go_roundg kj4
            case measure => have := HK1.out; have := HJ4.out; omega
            case rel => exact ⟨(wrap64 (((rd_T34 l0 x8_1).f0) + 1)), (wrap64 (x8_1 + 1)), (by first | rfl | (simp; done) | (simp [*]; done) | (simp; generalize ByteArray.toList _ = l_; cases l_ <;> rfl)), (by first | rfl | (simp; done) | (simp [*]; done) | (simp; generalize ByteArray.toList _ = l_; cases l_ <;> rfl)), H', ⟨by have := HK1.out; have := HJ4.out; omega⟩, ⟨bs GE582.out⟩⟩
           ·rw [if_neg c16] at H
            have c16b0 : (((rd_T34 l0 x8_1).f1) == 0) = false := beq_eq_false_iff_ne.mpr c16
            have c16b1 : (((rd_T34 l0 x8_1).f1) != 0) = true := bne_iff_ne.mpr c16
            have H' := Aside0.mk H
            clear H
            have hcz18_0 : wc.cell? ⟨gb582, 0, none⟩ = some (.int .i64 ((rd_T34 l0 x8_1).f0)) := (blk_cell BK582.out 0).trans rfl
            have hcz18_1 : wc.cell? ⟨gb582, 1, none⟩ = some (.int .i64 ((rd_T34 l0 x8_1).f1)) := (blk_cell BK582.out 1).trans rfl
            have hcz18_2 : wc.cell? ⟨gb582, 2, none⟩ = some (.string ((rd_T34 l0 x8_1).f2)) := (blk_cell BK582.out 2).trans rfl
            have hcz18_3 : wc.cell? ⟨gb582, 3, none⟩ = some (.string ((rd_T34 l0 x8_1).f3)) := (blk_cell BK582.out 3).trans rfl
            have hcz18_4 : wc.cell? ⟨gb582, 4, none⟩ = some (.slice A581_4 ((rd_T34 l0 x8_1).f4).length c581_4) := (blk_cell BK582.out 4).trans rfl
            have hfz18_0 := blk_frozen BK582.out 0
            have hfz18_1 := blk_frozen BK582.out 1
            have hfz18_2 := blk_frozen BK582.out 2
            have hfz18_3 := blk_frozen BK582.out 3
            have hfz18_4 := blk_frozen BK582.out 4
            go_wp2
            go_roundg kj4
            case measure => have := HK1.out; have := HJ4.out; omega
            case rel => exact ⟨(((rd_T34 l0 x8_1).f0)), (wrap64 (x8_1 + 1)), (by first | rfl | (simp; done) | (simp [*]; done) | (simp; generalize ByteArray.toList _ = l_; cases l_ <;> rfl)), (by first | rfl | (simp; done) | (simp [*]; done) | (simp; generalize ByteArray.toList _ = l_; cases l_ <;> rfl)), H', ⟨by have := HK1.out; have := HJ4.out; omega⟩, ⟨bs GE582.out⟩⟩
      ·rw [if_neg c4] at H
       exact absurd H (by simp)
     ·rw [if_neg c3] at H
      exact absurd H (by simp)
    ·rw [if_neg c2] at H
     have c2b0 : decide (x8_1 < (l0.length : Int)) = false := decide_eq_false c2
     clear c2
     obtain rfl := Option.some.inj H
     go_wp2
     go_ret
     exact ⟨by first | rfl | (simp [errW_none, errW_some] <;> rfl) | (simp [*, errW_none, errW_some] <;> rfl), bz⟩
end Go.Proofs.YtkcmghlhpbepcaaGreatDoorH.W7

/- Words and walks used below. -/
namespace Go.Proofs.YtkcmghlhpbepcaaGreatDoorH.W7
open Go.RowKit Go.Proofs.YtkcmghlhpbepcaaGreatDoorW.PrintWords Go.Proofs.YtkcmghlhpbepcaaGreatDoorW.PrintLast Go.Proofs.YtkcmghlhpbepcaaGreatDoorW.PrintMore
attribute [local go_sem] max2_int min2_int max_two min_two max_three min_three max_four min_four   -- for this text's walks alone
def rows_Check.f (k : Nat) (l0 : List (S34)) : Option (Int) := (rows_big.f l0).bind fun t584 => (if t584 = true then (some 2) else ((rows_right.f k l0).bind fun t585 => (if t585 = true then (some 0) else (some 40))))
set_option maxHeartbeats 8000000 in
set_option maxRecDepth 100000 in
theorem rows_Check.calls (k : Nat) (A0 : Option Addr) (c0 : Nat) (l0 : List (S34)) (r : Int) (w : World) (hr0 : Kd.C k34 w A0 l0.length l0) (hc0 : l0.length ≤ c0) (h : rows_Check.f k l0 = some r) :
 Calls Tryz.prog 39 #[.slice A0 l0.length c0] w fun e w' => e = .returned (.int .i64 r) ∧ Below w.heap.size w w' := by
 have HR0 := Aside0.mk hr0
 have HC0 := Aside0.mk hc0
 clear hr0 hc0
 have HB := Aside0.mk (Below.refl w.heap.size w)
 have H : ((rows_big.f l0).bind fun t584 => (if t584 = true then (some 2) else ((rows_right.f k l0).bind fun t585 => (if t585 = true then (some 0) else (some 40))))) = some r := h
 clear h
 replace H := Option.bind_eq_some_iff.mp H
 obtain ⟨t584, A20, H⟩ := H
 replace H : (if t584 = true then (some 2) else ((rows_right.f k l0).bind fun t585 => (if t585 = true then (some 0) else (some 40)))) = some r := H
 have A2 := Aside0.mk A20
 clear A20
 by_cases c3 : t584 = true
 ·subst c3
  have H1 : (some 2) = some r := by rw [if_pos rfl] at H; exact H
  clear H
  have H := H1
  clear H1
  obtain rfl := Option.some.inj H
  go_enter Tryz.func39, Tryz.ntmps39
  go_wp2_with (first | ((with_reducible refine gate_callee (f := 84) rfl ?_); refine goesL_ (some 5) rfl rfl Tryz.func84 (by kernel_rfl) rfl #[.slice A0 l0.length c0] rfl (by (try simp only [List.map_toArray, List.map_cons, List.map_nil]); first | done | rfl | (simp only [List.length_drop, List.length_take]; rfl)) ?_; (with_reducible refine (rows_big.calls _ _ l0 true _ ?side1 ?side2 A2.out).mono ?_); (case side1 => repeat (first | exact HR0.out | (with_reducible refine Kd.C_alloc ?_ _) | (with_reducible refine Kd.C_drewN ?_ _) | (with_reducible refine Kd.C_drew ?_))); (case side2 => exact HC0.out); rintro e w4 ⟨rfl, hb⟩; refine ⟨_, rfl, ?_⟩; have n0_ := Aside0.mk (below_step bz hb); clear HB; have HB := n0_; clear n0_; (try clear hb); (try clear hb2); (try clear hk); (try clear hi)))
  go_ret
  exact ⟨by first | rfl | (simp [errW_none, errW_some] <;> rfl) | (simp [*, errW_none, errW_some] <;> rfl), bz⟩
 ·replace c3 := Bool.eq_false_iff.mpr c3
  subst c3
  have H1 : ((rows_right.f k l0).bind fun t585 => (if t585 = true then (some 0) else (some 40))) = some r := by rw [if_neg (show ¬ (false = true) by decide)] at H; first | exact H | (simp only [eq_self] at H ⊢; exact H) | (simp only [eq_self, if_true] at H ⊢; exact H)
  clear H
  have H := H1
  clear H1
  replace H := Option.bind_eq_some_iff.mp H
  obtain ⟨t585, A50, H⟩ := H
  replace H : (if t585 = true then (some 0) else (some 40)) = some r := H
  have A5 := Aside0.mk A50
  clear A50
  by_cases c6 : t585 = true
  ·subst c6
   have H1 : (some 0) = some r := by rw [if_pos rfl] at H; exact H
   clear H
   have H := H1
   clear H1
   obtain rfl := Option.some.inj H
   go_enter Tryz.func39, Tryz.ntmps39
   go_wp2_with (first | ((with_reducible refine gate_callee (f := 84) rfl ?_); refine goesL_ (some 5) rfl rfl Tryz.func84 (by kernel_rfl) rfl #[.slice A0 l0.length c0] rfl (by (try simp only [List.map_toArray, List.map_cons, List.map_nil]); first | done | rfl | (simp only [List.length_drop, List.length_take]; rfl)) ?_; (with_reducible refine (rows_big.calls _ _ l0 false _ ?side1 ?side2 A2.out).mono ?_); (case side1 => repeat (first | exact HR0.out | (with_reducible refine Kd.C_alloc ?_ _) | (with_reducible refine Kd.C_drewN ?_ _) | (with_reducible refine Kd.C_drew ?_))); (case side2 => exact HC0.out); rintro e w7 ⟨rfl, hb⟩; refine ⟨_, rfl, ?_⟩; have n0_ := Aside0.mk (below_step bz hb); clear HB; have HB := n0_; clear n0_; (try clear hb); (try clear hb2); (try clear hk); (try clear hi)) | ((with_reducible refine gate_callee (f := 85) rfl ?_); refine goesL_ (some 8) rfl rfl Tryz.func85 (by kernel_rfl) rfl #[.slice A0 l0.length c0] rfl (by (try simp only [List.map_toArray, List.map_cons, List.map_nil]); first | done | rfl | (simp only [List.length_drop, List.length_take]; rfl)) ?_; (with_reducible refine (rows_right.calls k _ _ l0 true _ ?side1 ?side2 A5.out).mono ?_); (case side1 => exact cz (Kd.C_below HR0.out HB.out)); (case side2 => exact HC0.out); rintro e w8 ⟨rfl, hb⟩; refine ⟨_, rfl, ?_⟩; have n0_ := Aside0.mk (below_step bz hb); clear HB; have HB := n0_; clear n0_; (try clear hb); (try clear hb2); (try clear hk); (try clear hi)))
   go_ret
   exact ⟨by first | rfl | (simp [errW_none, errW_some] <;> rfl) | (simp [*, errW_none, errW_some] <;> rfl), bz⟩
  ·replace c6 := Bool.eq_false_iff.mpr c6
   subst c6
   have H1 : (some 40) = some r := by rw [if_neg (show ¬ (false = true) by decide)] at H; first | exact H | (simp only [eq_self] at H ⊢; exact H) | (simp only [eq_self, if_true] at H ⊢; exact H)
   clear H
   have H := H1
   clear H1
   obtain rfl := Option.some.inj H
   go_enter Tryz.func39, Tryz.ntmps39
   go_wp2_with (first | ((with_reducible refine gate_callee (f := 84) rfl ?_); refine goesL_ (some 5) rfl rfl Tryz.func84 (by kernel_rfl) rfl #[.slice A0 l0.length c0] rfl (by (try simp only [List.map_toArray, List.map_cons, List.map_nil]); first | done | rfl | (simp only [List.length_drop, List.length_take]; rfl)) ?_; (with_reducible refine (rows_big.calls _ _ l0 false _ ?side1 ?side2 A2.out).mono ?_); (case side1 => repeat (first | exact HR0.out | (with_reducible refine Kd.C_alloc ?_ _) | (with_reducible refine Kd.C_drewN ?_ _) | (with_reducible refine Kd.C_drew ?_))); (case side2 => exact HC0.out); rintro e w9 ⟨rfl, hb⟩; refine ⟨_, rfl, ?_⟩; have n0_ := Aside0.mk (below_step bz hb); clear HB; have HB := n0_; clear n0_; (try clear hb); (try clear hb2); (try clear hk); (try clear hi)) | ((with_reducible refine gate_callee (f := 85) rfl ?_); refine goesL_ (some 8) rfl rfl Tryz.func85 (by kernel_rfl) rfl #[.slice A0 l0.length c0] rfl (by (try simp only [List.map_toArray, List.map_cons, List.map_nil]); first | done | rfl | (simp only [List.length_drop, List.length_take]; rfl)) ?_; (with_reducible refine (rows_right.calls k _ _ l0 false _ ?side1 ?side2 A5.out).mono ?_); (case side1 => exact cz (Kd.C_below HR0.out HB.out)); (case side2 => exact HC0.out); rintro e w10 ⟨rfl, hb⟩; refine ⟨_, rfl, ?_⟩; have n0_ := Aside0.mk (below_step bz hb); clear HB; have HB := n0_; clear n0_; (try clear hb); (try clear hb2); (try clear hk); (try clear hi)))
   go_ret
   exact ⟨by first | rfl | (simp [errW_none, errW_some] <;> rfl) | (simp [*, errW_none, errW_some] <;> rfl), bz⟩
end Go.Proofs.YtkcmghlhpbepcaaGreatDoorH.W7

/- Rows that stand where they may are right: what the printed check comes to, in lists alone. -/
namespace Go.Proofs.YtkcmghlhpbepcaaGreatDoorH.W7
open Go.RowKit Go.Proofs Go.Proofs.YtkcmghlhpbepcaaGreatDoorH Go.Proofs.YtkcmghlhpbepcaaGreatDoor Go.Proofs.YtkcmghlhpbepcaaGreatDoorW.PrintWords
def stk (l : List Rw) : List ByteArray := l.foldl after []
theorem laws_stk {o : List Rw} {st : List ByteArray} (h : Laws o st) : st = stk o := by
 induction h with
 | nil => rfl
 | snoc out st x h hx ih =>
   unfold stk at *
   rw [List.foldl_append, ← ih]
   rfl
theorem laws_at {o : List Rw} {st : List ByteArray} (h : Laws o st) : ∀ i : Nat, (hi : i < o.length) → Stands (stk (o.take i)) o[i] := by
 induction h with
 | nil => intro i hi; simp at hi
 | snoc out st x h hx ih =>
   intro i hi
   rw [List.length_append] at hi
   simp only [List.length_cons, List.length_nil] at hi
   rcases Nat.lt_or_ge i out.length with e | e
   ·rw [List.getElem_append_left e, List.take_append_of_le_length (by omega)]
    exact ih i e
   ·obtain rfl : i = out.length := by omega
    rw [List.getElem_append_right (Nat.le_refl _), List.take_append_of_le_length (Nat.le_refl _), List.take_length, ← laws_stk h]
    simpa using hx
theorem stk_succ (o : List Rw) (i : Nat) (hi : i < o.length) : stk (o.take (i + 1)) = after (stk (o.take i)) o[i] := by
 unfold stk
 rw [List.take_succ_eq_append_getElem hi, List.foldl_append]
 rfl
theorem after_len {st : List ByteArray} {x : Rw} (h : Stands st x) : ((after st x).length : Int) = if x.f1 = 0 then x.f0 + 1 else x.f0 := by
 have h1 := h.lo
 have h2 := h.hi
 unfold after
 split
 ·rw [List.length_append, List.length_take]
  simp only [List.length_cons, List.length_nil]
  omega
 ·rw [List.length_take]
  omega
theorem row_l1 (x : List At) (hx : x.length ≤ 1000000) (hd : distinct x) (i : Nat) (hi : i < x.length) (y0 y1 : Int) (y2 y3 : ByteArray) (y : List At) (q : Nat) : ∀ (d j k : Nat), j + d = i → q + d + 1 ≤ k →
 ∃ k', q ≤ k' ∧ rows_row.l1 k x (x.length : Int) i (x.take i) ((x.take i).length : Int) j y0 y1 y2 y3 y (x[i].f0) (x[i].f1) = rows_row.l0 k' x (x.length : Int) ((i + 1 : Nat) : Int) y0 y1 y2 y3 y
 | 0, j, k, hj, hk => by
   obtain ⟨k, rfl⟩ : ∃ m, k = m + 1 := ⟨k - 1, by omega⟩
   refine ⟨k, by omega, ?_⟩
   have ht : (x.take i).length = i := by rw [List.length_take]; omega
   simp only [rows_row.l1]
   rw [if_neg (by rw [ht]; omega), wN (by omega)]
 | d + 1, j, k, hj, hk => by
   obtain ⟨k, rfl⟩ : ∃ m, k = m + 1 := ⟨k - 1, by omega⟩
   have ht : (x.take i).length = i := by rw [List.length_take]; omega
   have hr : rd_T36 (x.take i) j = x[j]'(by omega) := by rw [rd36_at _ j (by omega), List.getElem_take]
   obtain ⟨k', h1, h2⟩ := row_l1 x hx hd i hi y0 y1 y2 y3 y q d (j + 1) k (by omega) (by omega)
   refine ⟨k', h1, ?_⟩
   simp only [rows_row.l1]
   rw [if_pos (by rw [ht]; omega), if_pos (by omega), if_pos (by rw [ht]; omega), hr, if_neg (fun e => by have := hd i j hi (by omega) e; omega), wN (by omega)]
   exact h2
theorem row_l0 (x : List At) (hx : x.length ≤ 1000000) (hd : distinct x) (y0 y1 : Int) (y2 y3 : ByteArray) : ∀ (d i k : Nat), i + d = x.length → d * (x.length + 2) + 1 ≤ k →
 rows_row.l0 k x (x.length : Int) i y0 y1 y2 y3 x = some true
 | 0, i, k, hi, hk => by
   obtain ⟨k, rfl⟩ : ∃ m, k = m + 1 := ⟨k - 1, by omega⟩
   simp only [rows_row.l0]
   rw [if_neg (by omega)]
 | d + 1, i, k, hi, hk => by
   have e : (d + 1) * (x.length + 2) = d * (x.length + 2) + x.length + 2 := by rw [Nat.succ_mul]; omega
   obtain ⟨k, rfl⟩ : ∃ m, k = m + 1 := ⟨k - 1, by omega⟩
   have hil : i < x.length := by omega
   obtain ⟨k', h1, h2⟩ := row_l1 x hx hd i hil y0 y1 y2 y3 x (d * (x.length + 2) + 1) i 0 k (Nat.zero_add _) (by omega)
   simp only [rows_row.l0]
   rw [if_pos (by omega), if_pos (by omega), if_pos (by omega), if_pos (by omega), Option.bind_some, Int.toNat_natCast, rd36_at x i hil]
   rw [show ((0 : Nat) : Int) = 0 from rfl] at h2
   rw [h2]
   exact row_l0 x hx hd y0 y1 y2 y3 d (i + 1) k' (by omega) h1
theorem row_true (x : Rw) (h : RowOk x) (hx : x.f4.length ≤ 1000000) (k : Nat) (hk : x.f4.length * (x.f4.length + 2) + 4 ≤ k) : rows_row.f k x.f0 x.f1 x.f2 x.f3 x.f4 = some true := by
 obtain ⟨k, rfl⟩ : ∃ m, k = m + 2 := ⟨k - 2, by omega⟩
 unfold rows_row.f
 have j0t : x.f1 ≠ 0 → rows_row.j0 (k + 2) true x.f0 x.f1 x.f2 x.f3 x.f4 = some true := fun h0 => by
  obtain ⟨h1, h2⟩ := h.no h0
  simp only [rows_row.j0]
  rw [if_pos trivial, if_pos (by rw [Lib.toList_data]; exact h1), h2]
  rfl
 rcases h.kind with e | e | e
 ·rw [if_neg (by omega), e]
  obtain ⟨h1, h2, h3⟩ := h.el e
  rw [show (((0 : Int) == 2)) = false from rfl]
  simp only [rows_row.j0]
  rw [if_neg (by decide), if_pos trivial, if_neg (by rw [Lib.toList_data]; exact h1)]
  simp only [rows_row.j1]
  rw [if_neg (by rw [Lib.toList_data, h2]; decide)]
  exact row_l0 x.f4 hx h3 x.f0 0 x.f2 x.f3 x.f4.length 0 k (Nat.zero_add _) (by omega)
 ·rw [if_pos e]
  exact j0t (by omega)
 ·rw [if_neg (by omega), show (x.f1 == 2) = true from beq_iff_eq.2 e]
  exact j0t (by omega)
theorem right_l0v (o : List Rw) (hl : o.length ≤ 1000000) (hs : ∀ i : Nat, (hi : i < o.length) → Stands (stk (o.take i)) o[i]) (C : Nat) (ha : ∀ x ∈ o, x.f4.length ≤ 1000000 ∧ x.f4.length * (x.f4.length + 2) + 4 ≤ C) (hd : ∀ x ∈ o, x.f0 ≤ 1000000) : ∀ (d i k : Nat), i + d = o.length → 2 * d + C + 1 ≤ k →
 rows_right.l0 k ((stk (o.take i)).length : Int) o (o.length : Int) i = some true
 | 0, i, k, hi, hk => by
   obtain ⟨k, rfl⟩ : ∃ m, k = m + 1 := ⟨k - 1, by omega⟩
   simp only [rows_right.l0]
   rw [if_neg (by omega)]
 | d + 1, i, k, hi, hk => by
   obtain ⟨k, rfl⟩ : ∃ m, k = m + 2 := ⟨k - 2, by omega⟩
   have hil : i < o.length := by omega
   have hst := hs i hil
   have h1 := hst.lo
   have h2 := hst.hi
   have hm := List.getElem_mem hil
   have h3 := hd _ hm
   obtain ⟨h4, h5⟩ := ha _ hm
   have hlen := after_len hst
   have ih := right_l0v o hl hs C ha hd d (i + 1) k (by omega) (by omega)
   rw [stk_succ o i hil, hlen] at ih
   simp only [rows_right.l0]
   rw [if_pos (by omega), if_pos (by omega), if_pos (by omega), rd35_at o i hil]
   rw [if_neg (by omega), if_neg (by omega), row_true _ hst.ok h4 _ (by omega), Option.bind_some]
   simp only [rows_right.j1]
   rw [if_neg (by decide), wN (by omega)]
   split
   ·rename_i e
    rw [if_pos e] at ih
    rw [wM (by omega) (by omega)]
    exact ih
   ·rename_i e
    rw [if_neg e] at ih
    exact ih
theorem check_true (o : List Rw) (hl : o.length ≤ 4096) (hs : ∀ i : Nat, (hi : i < o.length) → Stands (stk (o.take i)) o[i]) (C : Nat) (ha : ∀ x ∈ o, x.f4.length ≤ 1000000 ∧ x.f4.length * (x.f4.length + 2) + 4 ≤ C) (hd : ∀ x ∈ o, x.f0 < 60) (k : Nat) (hk : 2 * o.length + C + 1 ≤ k) :
 rows_Check.f k o = some 0 := by
 unfold rows_Check.f rows_right.f
 have hr := right_l0v o (by omega) hs C ha (fun x hx => by have := hd x hx; omega) o.length 0 k (Nat.zero_add _) hk
 rw [List.take_zero] at hr
 have hb : rows_big.f o = some false := by
  unfold rows_big.f
  rw [decide_eq_false (by omega), Bool.false_or]
  congr 1
  rw [List.any_eq_false]
  intro x hx
  have := hd x hx
  unfold deepB
  simp
  omega
 rw [hb, Option.bind_some, if_neg (by decide)]
 rw [show ((stk []).length : Int) = 0 from rfl, show ((0 : Nat) : Int) = 0 from rfl] at hr
 rw [hr]
 rfl
end Go.Proofs.YtkcmghlhpbepcaaGreatDoorH.W7
