/- Lemmas and walks, part 28: QPW8x19, QPW8x20, QR8N. -/
import Derived.Test.YtdnbaliibiginaaDoorY4
import Derived.Test.YtdnbaliibiginaaDoorY27
import Derived.Test.YtdnbaliibiginaaDoorY7
import Derived.Laws.Runes
import Derived.Laws.RangeAny
import Derived.WalkMore
import Derived.Deep.LoopGhost
import Derived.Lib.MapLaws
import Derived.Test.YtdnbaliibiginaaDoorY8
import Derived.Test.YtdnbaliibiginaaDoorY5
set_option linter.unusedVariables false
set_option linter.unusedSimpArgs false

/- Words and walks used below. -/
namespace Go.Proofs.YtdnbaliibiginaaDoorH.W8
open Go.RowKit Go.Proofs.YtdnbaliibiginaaDoorW.PrintWords Go.Proofs.YtdnbaliibiginaaDoorW.PrintLast Go.Proofs.YtdnbaliibiginaaDoorW.PrintMore
attribute [local go_sem] max2_int min2_int max_two min_two max_three min_three max_four min_four   -- for this text's walks alone
mutual
def rows_right.l0 : Nat → Int → List (S35) → Int → Int → Option (Bool)
 | 0, _, _, _, _ => none
 | k + 1, x3, x6, x7, x8 => if x8 < x7 then (if 0 ≤ x8 then (if x8 < (x6.length : Int) then (if ((rd_T35 x6 x8).f0) < 0 then (rows_right.j1 k x6 x7 x8 true ((rd_T35 x6 x8).f0) ((rd_T35 x6 x8).f1) ((rd_T35 x6 x8).f2) ((rd_T35 x6 x8).f3) ((rd_T35 x6 x8).f4)) else (if ((rd_T35 x6 x8).f0) > x3 then (rows_right.j1 k x6 x7 x8 true ((rd_T35 x6 x8).f0) ((rd_T35 x6 x8).f1) ((rd_T35 x6 x8).f2) ((rd_T35 x6 x8).f3) ((rd_T35 x6 x8).f4)) else ((rows_row.f k ((rd_T35 x6 x8).f0) ((rd_T35 x6 x8).f1) ((rd_T35 x6 x8).f2) ((rd_T35 x6 x8).f3) ((rd_T35 x6 x8).f4)).bind fun t164 => (rows_right.j1 k x6 x7 x8 (!t164) ((rd_T35 x6 x8).f0) ((rd_T35 x6 x8).f1) ((rd_T35 x6 x8).f2) ((rd_T35 x6 x8).f3) ((rd_T35 x6 x8).f4))))) else (none)) else (none)) else (some true)
def rows_right.j1 : Nat → List (S35) → Int → Int → Bool → Int → Int → ByteArray → ByteArray → List (S45) → Option (Bool)
 | 0, _, _, _, _, _, _, _, _, _ => none
 | k + 1, x6, x7, x8, x25, x164000, x164001, x164002, x164003, x164004 => if x25 = true then (some false) else (if x164001 = 0 then (rows_right.l0 k (wrap64 (x164000 + 1)) x6 x7 (wrap64 (x8 + 1))) else (rows_right.l0 k x164000 x6 x7 (wrap64 (x8 + 1))))
end
def rows_right.f (k : Nat) (l0 : List (S35)) : Option (Bool) := rows_right.l0 k 0 l0 (l0.length : Int) 0
set_option maxHeartbeats 8000000 in
set_option maxRecDepth 100000 in
theorem rows_right.calls (k : Nat) (A0 : Option Addr) (c0 : Nat) (l0 : List (S35)) (r : Bool) (w : World) (hr0 : Kd.C k35 w A0 l0.length l0) (hc0 : l0.length ≤ c0) (h : rows_right.f k l0 = some r) :
  Calls Tryd.prog 54 #[.slice A0 l0.length c0] w fun e w' => e = .returned (.bool r) ∧ Below w.heap.size w w' := by
 have hu35 := Tryd.underlying35
 have HR0 := Aside0.mk hr0
 have HC0 := Aside0.mk hc0
 clear hr0 hc0
 have HB := Aside0.mk (Below.refl w.heap.size w)
 have H : (rows_right.l0 k 0 l0 (l0.length : Int) 0) = some r := h
 clear h
 have H' := Aside0.mk H
 clear H
 go_enter Tryd.func54, Tryd.ntmps54
 go_wp2
 go_loopg [3, 8] k (fun kq v3 v8 w' => ∃ (x3_1 : Int) (x8_1 : Int), v3 = .int .i64 x3_1 ∧ v8 = .int .i64 x8_1 ∧ Aside0 (rows_right.l0 kq x3_1 l0 (l0.length : Int) x8_1 = some r) ∧ Aside0 (kq ≤ k) ∧ Aside0 (Below w.heap.size w w'))
 case atStart => exact ⟨(0), (0), (by first | rfl | (simp; done) | (simp [*]; done) | (simp; generalize ByteArray.toList _ = l_; cases l_ <;> rfl)), (by first | rfl | (simp; done) | (simp [*]; done) | (simp; generalize ByteArray.toList _ = l_; cases l_ <;> rfl)), H', ⟨Nat.le_refl _⟩, ⟨bz⟩⟩
 case round =>
  clear H'
  obtain ⟨x3_1, x8_1, rfl, rfl, HA, HK1, HB⟩ := hrel
  cases gk with
  | zero => exact absurd HA.out (by simp [rows_right.l0])
  | succ k1 =>
   have H := HA.out
   clear HA
   simp only [rows_right.l0] at H
   by_cases c2 : x8_1 < (l0.length : Int)
   ·rw [if_pos c2] at H
    have c2b0 : decide (x8_1 < (l0.length : Int)) = true := decide_eq_true c2
    clear c2
    by_cases c3 : 0 ≤ x8_1
    ·rw [if_pos c3] at H
     have c3b0 : decide (0 ≤ x8_1) = true := decide_eq_true c3
     clear c3
     by_cases c4 : x8_1 < (l0.length : Int)
     ·rw [if_pos c4] at H
      have c4b0 : decide (x8_1 < (l0.length : Int)) = true := decide_eq_true c4
      clear c4
      have HC5 := Aside0.mk H
      clear H
      have p162 : 0 ≤ (x8_1 : Int) := (by first | exact of_decide_eq_true (by first | (with_reducible assumption) | assumption) | assumption | omega)
      have q162 : x8_1 < (l0.length : Int) := (by first | exact of_decide_eq_true (by first | (with_reducible assumption) | assumption) | assumption | omega)
      obtain ⟨ad162, A162_4, c162_4, e162, hx162_0, hx162_1, hx162_2, hx162_3, hx162_4, hl162_4, hi162_4⟩ := at_T35 HR0.out x8_1 p162 q162
      cases e162
      replace hx162_0 := (HB.out.cell (World.block_lt_of_cell? w _ hx162_0)).trans hx162_0
      replace hx162_1 := (HB.out.cell (World.block_lt_of_cell? w _ hx162_1)).trans hx162_1
      replace hx162_2 := (HB.out.cell (World.block_lt_of_cell? w _ hx162_2)).trans hx162_2
      replace hx162_3 := (HB.out.cell (World.block_lt_of_cell? w _ hx162_3)).trans hx162_3
      replace hx162_4 := (HB.out.cell (World.block_lt_of_cell? w _ hx162_4)).trans hx162_4
      have HR162_4 := Aside0.mk hi162_4
      have HC162_4 := Aside0.mk hl162_4
      clear hi162_4 hl162_4
      replace p162 := eq_true p162
      replace q162 := eq_true q162
      go_upto_region 5 with (first | ((with_reducible refine gate_dst (N := 5) rfl ?_); refine box_event ?hg (N := 5) ?hd (cs := #[.int .i64 0, .int .i64 0, .string (⟨#[]⟩ : ByteArray), .string (⟨#[]⟩ : ByteArray), .slice none 0 0]) (t := 35) ?hr ?_; (case hd => rfl); (case hg => rfl); (case hr => first | (go_simp; done) | (go_simp; rfl)); intro gb163 hg w6 hbox hb; have n0_ := Aside0.mk (below_step bz hb); have n1_ := Aside0.mk (hbox); have n2_ := Aside0.mk ((by rw [hg]; exact (below_size bz) : w.heap.size ≤ gb163)); have n3_ := Aside0.mk ((by rw [hg]; exact (below_size bz) : w.heap.size ≤ gb163)); clear HB; have HB := n0_; have BK163 := n1_; have GW163 := n2_; have GE163 := n3_; clear n0_ n1_ n2_ n3_; clear hb hbox hg; have hcz7_0 : w6.cell? ⟨gb163, 0, none⟩ = some (.int .i64 0) := (blk_cell BK163.out 0).trans rfl; have hcz7_1 : w6.cell? ⟨gb163, 1, none⟩ = some (.int .i64 0) := (blk_cell BK163.out 1).trans rfl; have hcz7_2 : w6.cell? ⟨gb163, 2, none⟩ = some (.string (⟨#[]⟩ : ByteArray)) := (blk_cell BK163.out 2).trans rfl; have hcz7_3 : w6.cell? ⟨gb163, 3, none⟩ = some (.string (⟨#[]⟩ : ByteArray)) := (blk_cell BK163.out 3).trans rfl; have hcz7_4 : w6.cell? ⟨gb163, 4, none⟩ = some (.slice none 0 0) := (blk_cell BK163.out 4).trans rfl; have hfz7_0 := blk_frozen BK163.out 0; have hfz7_1 := blk_frozen BK163.out 1; have hfz7_2 := blk_frozen BK163.out 2; have hfz7_3 := blk_frozen BK163.out 3; have hfz7_4 := blk_frozen BK163.out 4))
      (try simp only [Act.put, List.setIfInBounds_toArray, List.set_cons_zero, List.set_cons_succ])
      go_cut [25] (fun v25 wc => ∃ (kq : Nat) (x25_4 : Bool), v25 = .bool x25_4 ∧ Aside0 (rows_right.j1 kq l0 (l0.length : Int) x8_1 x25_4 ((rd_T35 l0 x8_1).f0) ((rd_T35 l0 x8_1).f1) ((rd_T35 l0 x8_1).f2) ((rd_T35 l0 x8_1).f3) ((rd_T35 l0 x8_1).f4) = some r) ∧ Aside0 (kq ≤ k1) ∧ Aside0 (wc.heap[gb163]? = some (.cells #[.int .i64 ((rd_T35 l0 x8_1).f0), .int .i64 ((rd_T35 l0 x8_1).f1), .string ((rd_T35 l0 x8_1).f2), .string ((rd_T35 l0 x8_1).f3), (.slice A162_4 ((rd_T35 l0 x8_1).f4).length c162_4)] 35 (0, 0))) ∧ Aside0 (Below w.heap.size w wc))
      case first =>
       have H := HC5.out
       clear HC5
       by_cases c8 : ((rd_T35 l0 x8_1).f0) < 0
       ·rw [if_pos c8] at H
        have c8b0 : decide (((rd_T35 l0 x8_1).f0) < 0) = true := decide_eq_true c8
        clear c8
        (first | rw [c8b0] | (simp only [i64_w, i32_w]; rw [c8b0]) | skip)
        have H' := Aside0.mk H
        clear H
        have hcz9_0 : w6.cell? ⟨gb163, 0, none⟩ = some (.int .i64 0) := (blk_cell BK163.out 0).trans rfl
        have hcz9_1 : w6.cell? ⟨gb163, 1, none⟩ = some (.int .i64 0) := (blk_cell BK163.out 1).trans rfl
        have hcz9_2 : w6.cell? ⟨gb163, 2, none⟩ = some (.string (⟨#[]⟩ : ByteArray)) := (blk_cell BK163.out 2).trans rfl
        have hcz9_3 : w6.cell? ⟨gb163, 3, none⟩ = some (.string (⟨#[]⟩ : ByteArray)) := (blk_cell BK163.out 3).trans rfl
        have hcz9_4 : w6.cell? ⟨gb163, 4, none⟩ = some (.slice none 0 0) := (blk_cell BK163.out 4).trans rfl
        have hfz9_0 := blk_frozen BK163.out 0
        have hfz9_1 := blk_frozen BK163.out 1
        have hfz9_2 := blk_frozen BK163.out 2
        have hfz9_3 := blk_frozen BK163.out 3
        have hfz9_4 := blk_frozen BK163.out 4
        go_wp2
        go_meet
        case rel => exact ⟨_, (true), (by first | rfl | (simp; done) | (simp [*]; done) | (simp; generalize ByteArray.toList _ = l_; cases l_ <;> rfl)), H', ⟨by have := HK1.out; first | omega | exact Nat.le_refl _⟩, ⟨by (with_reducible repeat (first | refine blk_drewN ?_ _ | refine blk_drew ?_ | refine blk_alloc ?_ _)); refine blk_put (cs := #[.int .i64 ((rd_T35 l0 x8_1).f0), .int .i64 ((rd_T35 l0 x8_1).f1), .string ((rd_T35 l0 x8_1).f2), .string ((rd_T35 l0 x8_1).f3), .slice none 0 0]) ?_ 4 _ rfl; (with_reducible repeat (first | refine blk_drewN ?_ _ | refine blk_drew ?_ | refine blk_alloc ?_ _)); refine blk_put (cs := #[.int .i64 ((rd_T35 l0 x8_1).f0), .int .i64 ((rd_T35 l0 x8_1).f1), .string ((rd_T35 l0 x8_1).f2), .string (⟨#[]⟩ : ByteArray), .slice none 0 0]) ?_ 3 _ rfl; (with_reducible repeat (first | refine blk_drewN ?_ _ | refine blk_drew ?_ | refine blk_alloc ?_ _)); refine blk_put (cs := #[.int .i64 ((rd_T35 l0 x8_1).f0), .int .i64 ((rd_T35 l0 x8_1).f1), .string (⟨#[]⟩ : ByteArray), .string (⟨#[]⟩ : ByteArray), .slice none 0 0]) ?_ 2 _ rfl; (with_reducible repeat (first | refine blk_drewN ?_ _ | refine blk_drew ?_ | refine blk_alloc ?_ _)); refine blk_put (cs := #[.int .i64 ((rd_T35 l0 x8_1).f0), .int .i64 0, .string (⟨#[]⟩ : ByteArray), .string (⟨#[]⟩ : ByteArray), .slice none 0 0]) ?_ 1 _ rfl; (with_reducible repeat (first | refine blk_drewN ?_ _ | refine blk_drew ?_ | refine blk_alloc ?_ _)); refine blk_put (cs := #[.int .i64 0, .int .i64 0, .string (⟨#[]⟩ : ByteArray), .string (⟨#[]⟩ : ByteArray), .slice none 0 0]) ?_ 0 _ rfl; (with_reducible repeat (first | refine blk_drewN ?_ _ | refine blk_drew ?_ | refine blk_alloc ?_ _)); exact BK163.out⟩, ⟨bs GE163.out⟩⟩
       ·rw [if_neg c8] at H
        have c8b0 : decide (((rd_T35 l0 x8_1).f0) < 0) = false := decide_eq_false c8
        clear c8
        (first | rw [c8b0] | (simp only [i64_w, i32_w]; rw [c8b0]) | skip)
        by_cases c10 : ((rd_T35 l0 x8_1).f0) > x3_1
        ·rw [if_pos c10] at H
         have c10b0 : decide (x3_1 < ((rd_T35 l0 x8_1).f0)) = true := decide_eq_true c10
         clear c10
         have H' := Aside0.mk H
         clear H
         have hcz11_0 : w6.cell? ⟨gb163, 0, none⟩ = some (.int .i64 0) := (blk_cell BK163.out 0).trans rfl
         have hcz11_1 : w6.cell? ⟨gb163, 1, none⟩ = some (.int .i64 0) := (blk_cell BK163.out 1).trans rfl
         have hcz11_2 : w6.cell? ⟨gb163, 2, none⟩ = some (.string (⟨#[]⟩ : ByteArray)) := (blk_cell BK163.out 2).trans rfl
         have hcz11_3 : w6.cell? ⟨gb163, 3, none⟩ = some (.string (⟨#[]⟩ : ByteArray)) := (blk_cell BK163.out 3).trans rfl
         have hcz11_4 : w6.cell? ⟨gb163, 4, none⟩ = some (.slice none 0 0) := (blk_cell BK163.out 4).trans rfl
         have hfz11_0 := blk_frozen BK163.out 0
         have hfz11_1 := blk_frozen BK163.out 1
         have hfz11_2 := blk_frozen BK163.out 2
         have hfz11_3 := blk_frozen BK163.out 3
         have hfz11_4 := blk_frozen BK163.out 4
         go_wp2
         go_meet
         case rel => exact ⟨_, (true), (by first | rfl | (simp; done) | (simp [*]; done) | (simp; generalize ByteArray.toList _ = l_; cases l_ <;> rfl)), H', ⟨by have := HK1.out; first | omega | exact Nat.le_refl _⟩, ⟨by (with_reducible repeat (first | refine blk_drewN ?_ _ | refine blk_drew ?_ | refine blk_alloc ?_ _)); refine blk_put (cs := #[.int .i64 ((rd_T35 l0 x8_1).f0), .int .i64 ((rd_T35 l0 x8_1).f1), .string ((rd_T35 l0 x8_1).f2), .string ((rd_T35 l0 x8_1).f3), .slice none 0 0]) ?_ 4 _ rfl; (with_reducible repeat (first | refine blk_drewN ?_ _ | refine blk_drew ?_ | refine blk_alloc ?_ _)); refine blk_put (cs := #[.int .i64 ((rd_T35 l0 x8_1).f0), .int .i64 ((rd_T35 l0 x8_1).f1), .string ((rd_T35 l0 x8_1).f2), .string (⟨#[]⟩ : ByteArray), .slice none 0 0]) ?_ 3 _ rfl; (with_reducible repeat (first | refine blk_drewN ?_ _ | refine blk_drew ?_ | refine blk_alloc ?_ _)); refine blk_put (cs := #[.int .i64 ((rd_T35 l0 x8_1).f0), .int .i64 ((rd_T35 l0 x8_1).f1), .string (⟨#[]⟩ : ByteArray), .string (⟨#[]⟩ : ByteArray), .slice none 0 0]) ?_ 2 _ rfl; (with_reducible repeat (first | refine blk_drewN ?_ _ | refine blk_drew ?_ | refine blk_alloc ?_ _)); refine blk_put (cs := #[.int .i64 ((rd_T35 l0 x8_1).f0), .int .i64 0, .string (⟨#[]⟩ : ByteArray), .string (⟨#[]⟩ : ByteArray), .slice none 0 0]) ?_ 1 _ rfl; (with_reducible repeat (first | refine blk_drewN ?_ _ | refine blk_drew ?_ | refine blk_alloc ?_ _)); refine blk_put (cs := #[.int .i64 0, .int .i64 0, .string (⟨#[]⟩ : ByteArray), .string (⟨#[]⟩ : ByteArray), .slice none 0 0]) ?_ 0 _ rfl; (with_reducible repeat (first | refine blk_drewN ?_ _ | refine blk_drew ?_ | refine blk_alloc ?_ _)); exact BK163.out⟩, ⟨bs GE163.out⟩⟩
        ·rw [if_neg c10] at H
         have c10b0 : decide (x3_1 < ((rd_T35 l0 x8_1).f0)) = false := decide_eq_false c10
         clear c10
         replace H := Option.bind_eq_some_iff.mp H
         obtain ⟨t164, A120, H⟩ := H
         replace H : (rows_right.j1 k1 l0 (l0.length : Int) x8_1 (!t164) ((rd_T35 l0 x8_1).f0) ((rd_T35 l0 x8_1).f1) ((rd_T35 l0 x8_1).f2) ((rd_T35 l0 x8_1).f3) ((rd_T35 l0 x8_1).f4)) = some r := H
         have A12 := Aside0.mk A120
         clear A120
         have H' := Aside0.mk H
         clear H
         have hcz13_0 : w6.cell? ⟨gb163, 0, none⟩ = some (.int .i64 0) := (blk_cell BK163.out 0).trans rfl
         have hcz13_1 : w6.cell? ⟨gb163, 1, none⟩ = some (.int .i64 0) := (blk_cell BK163.out 1).trans rfl
         have hcz13_2 : w6.cell? ⟨gb163, 2, none⟩ = some (.string (⟨#[]⟩ : ByteArray)) := (blk_cell BK163.out 2).trans rfl
         have hcz13_3 : w6.cell? ⟨gb163, 3, none⟩ = some (.string (⟨#[]⟩ : ByteArray)) := (blk_cell BK163.out 3).trans rfl
         have hcz13_4 : w6.cell? ⟨gb163, 4, none⟩ = some (.slice none 0 0) := (blk_cell BK163.out 4).trans rfl
         have hfz13_0 := blk_frozen BK163.out 0
         have hfz13_1 := blk_frozen BK163.out 1
         have hfz13_2 := blk_frozen BK163.out 2
         have hfz13_3 := blk_frozen BK163.out 3
         have hfz13_4 := blk_frozen BK163.out 4
         go_wp2_with (first | (go_at_call 78; (with_reducible refine (rows_row.calls k1 ((rd_T35 l0 x8_1).f0) ((rd_T35 l0 x8_1).f1) ((rd_T35 l0 x8_1).f2) ((rd_T35 l0 x8_1).f3) _ _ ((rd_T35 l0 x8_1).f4) t164 _ ?side1 ?side2 A12.out).mono ?_); (case side1 => exact Kd.C_below HR162_4.out (bs GE163.out)); (case side2 => exact HC162_4.out); rintro e w14 ⟨rfl, hb⟩; have n0_ := Aside0.mk (blk_below (g := gb163) (o := .cells #[.int .i64 ((rd_T35 l0 x8_1).f0), .int .i64 ((rd_T35 l0 x8_1).f1), .string ((rd_T35 l0 x8_1).f2), .string ((rd_T35 l0 x8_1).f3), .slice A162_4 ((rd_T35 l0 x8_1).f4).length c162_4] 35 (0, 0)) (by (with_reducible repeat (first | refine blk_drewN ?_ _ | refine blk_drew ?_ | refine blk_alloc ?_ _)); refine blk_put (cs := #[.int .i64 ((rd_T35 l0 x8_1).f0), .int .i64 ((rd_T35 l0 x8_1).f1), .string ((rd_T35 l0 x8_1).f2), .string ((rd_T35 l0 x8_1).f3), .slice none 0 0]) ?_ 4 _ rfl; (with_reducible repeat (first | refine blk_drewN ?_ _ | refine blk_drew ?_ | refine blk_alloc ?_ _)); refine blk_put (cs := #[.int .i64 ((rd_T35 l0 x8_1).f0), .int .i64 ((rd_T35 l0 x8_1).f1), .string ((rd_T35 l0 x8_1).f2), .string (⟨#[]⟩ : ByteArray), .slice none 0 0]) ?_ 3 _ rfl; (with_reducible repeat (first | refine blk_drewN ?_ _ | refine blk_drew ?_ | refine blk_alloc ?_ _)); refine blk_put (cs := #[.int .i64 ((rd_T35 l0 x8_1).f0), .int .i64 ((rd_T35 l0 x8_1).f1), .string (⟨#[]⟩ : ByteArray), .string (⟨#[]⟩ : ByteArray), .slice none 0 0]) ?_ 2 _ rfl; (with_reducible repeat (first | refine blk_drewN ?_ _ | refine blk_drew ?_ | refine blk_alloc ?_ _)); refine blk_put (cs := #[.int .i64 ((rd_T35 l0 x8_1).f0), .int .i64 0, .string (⟨#[]⟩ : ByteArray), .string (⟨#[]⟩ : ByteArray), .slice none 0 0]) ?_ 1 _ rfl; (with_reducible repeat (first | refine blk_drewN ?_ _ | refine blk_drew ?_ | refine blk_alloc ?_ _)); refine blk_put (cs := #[.int .i64 0, .int .i64 0, .string (⟨#[]⟩ : ByteArray), .string (⟨#[]⟩ : ByteArray), .slice none 0 0]) ?_ 0 _ rfl; (with_reducible repeat (first | refine blk_drewN ?_ _ | refine blk_drew ?_ | refine blk_alloc ?_ _)); exact BK163.out) hb); have n1_ := Aside0.mk (below_step (bs GE163.out) hb); clear BK163; clear HB; have BK163 := n0_; have HB := n1_; clear n0_ n1_; (try clear hb); (try clear hb2); (try clear hk); (try clear hi)))
         go_meet
         case rel => exact ⟨_, (!t164), (by first | rfl | (simp; done) | (simp [*]; done) | (simp; generalize ByteArray.toList _ = l_; cases l_ <;> rfl)), H', ⟨by have := HK1.out; first | omega | exact Nat.le_refl _⟩, ⟨by (with_reducible repeat (first | refine blk_drewN ?_ _ | refine blk_drew ?_ | refine blk_alloc ?_ _)); exact BK163.out⟩, ⟨bs GE163.out⟩⟩
      case rest =>
       clear HC5
       try clear c1
       try clear p1
       try clear q1
       try clear hx1
       try clear c2
       try clear c2b0
       try clear p2
       try clear c3
       try clear c3b0
       try clear c4
       try clear c4b0
       try clear c5
       try clear c8
       try clear c8b0
       try clear c10
       try clear c10b0
       try clear hcz11_0
       try clear hcz11_1
       try clear hcz11_2
       try clear hcz11_3
       try clear hcz11_4
       try clear hcz13_0
       try clear hcz13_1
       try clear hcz13_2
       try clear hcz13_3
       try clear hcz13_4
       try clear hcz7_0
       try clear hcz7_1
       try clear hcz7_2
       try clear hcz7_3
       try clear hcz7_4
       try clear hcz9_0
       try clear hcz9_1
       try clear hcz9_2
       try clear hcz9_3
       try clear hcz9_4
       try clear hfz11_0
       try clear hfz11_1
       try clear hfz11_2
       try clear hfz11_3
       try clear hfz11_4
       try clear hfz13_0
       try clear hfz13_1
       try clear hfz13_2
       try clear hfz13_3
       try clear hfz13_4
       try clear hfz7_0
       try clear hfz7_1
       try clear hfz7_2
       try clear hfz7_3
       try clear hfz7_4
       try clear hfz9_0
       try clear hfz9_1
       try clear hfz9_2
       try clear hfz9_3
       try clear hfz9_4
       try clear hx162_0
       try clear hx162_1
       try clear hx162_2
       try clear hx162_3
       try clear hx162_4
       try clear p162
       try clear q162
       obtain ⟨kq, x25_4, rfl, HA, HJ4, BK163, HB⟩ := hcut
       cases kq with
       | zero => exact absurd HA.out (by simp [rows_right.j1])
       | succ kj4 =>
        have H := HA.out
        clear HA
        simp only [rows_right.j1] at H
        by_cases c15 : x25_4 = true
        ·subst c15
         have H1 : (some false) = some r := by rw [if_pos rfl] at H; exact H
         clear H
         have H := H1
         clear H1
         obtain rfl := Option.some.inj H
         go_wp2
         go_ret
         exact ⟨by first | rfl | (simp [errW_none, errW_some] <;> rfl) | (simp [*, errW_none, errW_some] <;> rfl), bs GE163.out⟩
        ·replace c15 := Bool.eq_false_iff.mpr c15
         subst c15
         have H1 : (if ((rd_T35 l0 x8_1).f1) = 0 then (rows_right.l0 kj4 (wrap64 (((rd_T35 l0 x8_1).f0) + 1)) l0 (l0.length : Int) (wrap64 (x8_1 + 1))) else (rows_right.l0 kj4 ((rd_T35 l0 x8_1).f0) l0 (l0.length : Int) (wrap64 (x8_1 + 1)))) = some r := by rw [if_neg (show ¬ (false = true) by decide)] at H; first | exact H | (simp only [eq_self] at H ⊢; exact H) | (simp only [eq_self, if_true] at H ⊢; exact H)
         clear H
         have H := H1
         clear H1
         by_cases c16 : ((rd_T35 l0 x8_1).f1) = 0
         ·rw [if_pos c16] at H
          have c16b0 : (((rd_T35 l0 x8_1).f1) == 0) = true := beq_iff_eq.mpr c16
          have c16b1 : (((rd_T35 l0 x8_1).f1) != 0) = false := bne_eq_false_iff_eq.mpr c16
          clear c16
          have H' := Aside0.mk H
          clear H
          have hcz17_0 : wc.cell? ⟨gb163, 0, none⟩ = some (.int .i64 ((rd_T35 l0 x8_1).f0)) := (blk_cell BK163.out 0).trans rfl
          have hcz17_1 : wc.cell? ⟨gb163, 1, none⟩ = some (.int .i64 ((rd_T35 l0 x8_1).f1)) := (blk_cell BK163.out 1).trans rfl
          have hcz17_2 : wc.cell? ⟨gb163, 2, none⟩ = some (.string ((rd_T35 l0 x8_1).f2)) := (blk_cell BK163.out 2).trans rfl
          have hcz17_3 : wc.cell? ⟨gb163, 3, none⟩ = some (.string ((rd_T35 l0 x8_1).f3)) := (blk_cell BK163.out 3).trans rfl
          have hcz17_4 : wc.cell? ⟨gb163, 4, none⟩ = some (.slice A162_4 ((rd_T35 l0 x8_1).f4).length c162_4) := (blk_cell BK163.out 4).trans rfl
          have hfz17_0 := blk_frozen BK163.out 0
          have hfz17_1 := blk_frozen BK163.out 1
          have hfz17_2 := blk_frozen BK163.out 2
          have hfz17_3 := blk_frozen BK163.out 3
          have hfz17_4 := blk_frozen BK163.out 4
          go_wp2
          go_roundg kj4
          case measure => have := HK1.out; have := HJ4.out; omega
          case rel => exact ⟨(wrap64 (((rd_T35 l0 x8_1).f0) + 1)), (wrap64 (x8_1 + 1)), (by first | rfl | (simp; done) | (simp [*]; done) | (simp; generalize ByteArray.toList _ = l_; cases l_ <;> rfl)), (by first | rfl | (simp; done) | (simp [*]; done) | (simp; generalize ByteArray.toList _ = l_; cases l_ <;> rfl)), H', ⟨by have := HK1.out; have := HJ4.out; omega⟩, ⟨bs GE163.out⟩⟩
         ·rw [if_neg c16] at H
          have c16b0 : (((rd_T35 l0 x8_1).f1) == 0) = false := beq_eq_false_iff_ne.mpr c16
          have c16b1 : (((rd_T35 l0 x8_1).f1) != 0) = true := bne_iff_ne.mpr c16
          have H' := Aside0.mk H
          clear H
          have hcz18_0 : wc.cell? ⟨gb163, 0, none⟩ = some (.int .i64 ((rd_T35 l0 x8_1).f0)) := (blk_cell BK163.out 0).trans rfl
          have hcz18_1 : wc.cell? ⟨gb163, 1, none⟩ = some (.int .i64 ((rd_T35 l0 x8_1).f1)) := (blk_cell BK163.out 1).trans rfl
          have hcz18_2 : wc.cell? ⟨gb163, 2, none⟩ = some (.string ((rd_T35 l0 x8_1).f2)) := (blk_cell BK163.out 2).trans rfl
          have hcz18_3 : wc.cell? ⟨gb163, 3, none⟩ = some (.string ((rd_T35 l0 x8_1).f3)) := (blk_cell BK163.out 3).trans rfl
          have hcz18_4 : wc.cell? ⟨gb163, 4, none⟩ = some (.slice A162_4 ((rd_T35 l0 x8_1).f4).length c162_4) := (blk_cell BK163.out 4).trans rfl
          have hfz18_0 := blk_frozen BK163.out 0
          have hfz18_1 := blk_frozen BK163.out 1
          have hfz18_2 := blk_frozen BK163.out 2
          have hfz18_3 := blk_frozen BK163.out 3
          have hfz18_4 := blk_frozen BK163.out 4
          go_wp2
          go_roundg kj4
          case measure => have := HK1.out; have := HJ4.out; omega
          case rel => exact ⟨(((rd_T35 l0 x8_1).f0)), (wrap64 (x8_1 + 1)), (by first | rfl | (simp; done) | (simp [*]; done) | (simp; generalize ByteArray.toList _ = l_; cases l_ <;> rfl)), (by first | rfl | (simp; done) | (simp [*]; done) | (simp; generalize ByteArray.toList _ = l_; cases l_ <;> rfl)), H', ⟨by have := HK1.out; have := HJ4.out; omega⟩, ⟨bs GE163.out⟩⟩
     ·rw [if_neg c4] at H
      exact absurd H (by simp)
    ·rw [if_neg c3] at H
     exact absurd H (by simp)
   ·rw [if_neg c2] at H
    have c2b0 : decide (x8_1 < (l0.length : Int)) = false := decide_eq_false c2
    clear c2
    obtain rfl := Option.some.inj H
    go_wp2
    go_ret
    exact ⟨by first | rfl | (simp [errW_none, errW_some] <;> rfl) | (simp [*, errW_none, errW_some] <;> rfl), bz⟩
end Go.Proofs.YtdnbaliibiginaaDoorH.W8

/- Words and walks used below. -/
namespace Go.Proofs.YtdnbaliibiginaaDoorH.W8
open Go.RowKit Go.Proofs.YtdnbaliibiginaaDoorW.PrintWords Go.Proofs.YtdnbaliibiginaaDoorW.PrintLast Go.Proofs.YtdnbaliibiginaaDoorW.PrintMore
attribute [local go_sem] max2_int min2_int max_two min_two max_three min_three max_four min_four   -- for this text's walks alone
def rows_Check.f (k : Nat) (l0 : List (S35)) : Option (Int) := (rows_big.f l0).bind fun t165 => (if t165 = true then (some 2) else ((rows_right.f k l0).bind fun t166 => (if t166 = true then (some 0) else (some 40))))
set_option maxHeartbeats 8000000 in
set_option maxRecDepth 100000 in
theorem rows_Check.calls (k : Nat) (A0 : Option Addr) (c0 : Nat) (l0 : List (S35)) (r : Int) (w : World) (hr0 : Kd.C k35 w A0 l0.length l0) (hc0 : l0.length ≤ c0) (h : rows_Check.f k l0 = some r) :
  Calls Tryd.prog 32 #[.slice A0 l0.length c0] w fun e w' => e = .returned (.int .i64 r) ∧ Below w.heap.size w w' := by
 have HR0 := Aside0.mk hr0
 have HC0 := Aside0.mk hc0
 clear hr0 hc0
 have HB := Aside0.mk (Below.refl w.heap.size w)
 have H : ((rows_big.f l0).bind fun t165 => (if t165 = true then (some 2) else ((rows_right.f k l0).bind fun t166 => (if t166 = true then (some 0) else (some 40))))) = some r := h
 clear h
 replace H := Option.bind_eq_some_iff.mp H
 obtain ⟨t165, A20, H⟩ := H
 replace H : (if t165 = true then (some 2) else ((rows_right.f k l0).bind fun t166 => (if t166 = true then (some 0) else (some 40)))) = some r := H
 have A2 := Aside0.mk A20
 clear A20
 by_cases c3 : t165 = true
 ·subst c3
  have H1 : (some 2) = some r := by rw [if_pos rfl] at H; exact H
  clear H
  have H := H1
  clear H1
  obtain rfl := Option.some.inj H
  go_enter Tryd.func32, Tryd.ntmps32
  go_wp2_with (first | ((with_reducible refine gate_callee (f := 53) rfl ?_); refine goesL_ (some 5) rfl rfl Tryd.func53 (by kernel_rfl) rfl #[.slice A0 l0.length c0] rfl (by (try simp only [List.map_toArray, List.map_cons, List.map_nil]); first | done | rfl | (simp only [List.length_drop, List.length_take]; rfl)) ?_; (with_reducible refine (rows_big.calls _ _ l0 true _ ?side1 ?side2 A2.out).mono ?_); (case side1 => repeat (first | exact HR0.out | (with_reducible refine Kd.C_alloc ?_ _) | (with_reducible refine Kd.C_drewN ?_ _) | (with_reducible refine Kd.C_drew ?_))); (case side2 => exact HC0.out); rintro e w4 ⟨rfl, hb⟩; refine ⟨_, rfl, ?_⟩; have n0_ := Aside0.mk (below_step bz hb); clear HB; have HB := n0_; clear n0_; (try clear hb); (try clear hb2); (try clear hk); (try clear hi)))
  go_ret
  exact ⟨by first | rfl | (simp [errW_none, errW_some] <;> rfl) | (simp [*, errW_none, errW_some] <;> rfl), bz⟩
 ·replace c3 := Bool.eq_false_iff.mpr c3
  subst c3
  have H1 : ((rows_right.f k l0).bind fun t166 => (if t166 = true then (some 0) else (some 40))) = some r := by rw [if_neg (show ¬ (false = true) by decide)] at H; first | exact H | (simp only [eq_self] at H ⊢; exact H) | (simp only [eq_self, if_true] at H ⊢; exact H)
  clear H
  have H := H1
  clear H1
  replace H := Option.bind_eq_some_iff.mp H
  obtain ⟨t166, A50, H⟩ := H
  replace H : (if t166 = true then (some 0) else (some 40)) = some r := H
  have A5 := Aside0.mk A50
  clear A50
  by_cases c6 : t166 = true
  ·subst c6
   have H1 : (some 0) = some r := by rw [if_pos rfl] at H; exact H
   clear H
   have H := H1
   clear H1
   obtain rfl := Option.some.inj H
   go_enter Tryd.func32, Tryd.ntmps32
   go_wp2_with (first | ((with_reducible refine gate_callee (f := 53) rfl ?_); refine goesL_ (some 5) rfl rfl Tryd.func53 (by kernel_rfl) rfl #[.slice A0 l0.length c0] rfl (by (try simp only [List.map_toArray, List.map_cons, List.map_nil]); first | done | rfl | (simp only [List.length_drop, List.length_take]; rfl)) ?_; (with_reducible refine (rows_big.calls _ _ l0 false _ ?side1 ?side2 A2.out).mono ?_); (case side1 => repeat (first | exact HR0.out | (with_reducible refine Kd.C_alloc ?_ _) | (with_reducible refine Kd.C_drewN ?_ _) | (with_reducible refine Kd.C_drew ?_))); (case side2 => exact HC0.out); rintro e w7 ⟨rfl, hb⟩; refine ⟨_, rfl, ?_⟩; have n0_ := Aside0.mk (below_step bz hb); clear HB; have HB := n0_; clear n0_; (try clear hb); (try clear hb2); (try clear hk); (try clear hi)) | ((with_reducible refine gate_callee (f := 54) rfl ?_); refine goesL_ (some 8) rfl rfl Tryd.func54 (by kernel_rfl) rfl #[.slice A0 l0.length c0] rfl (by (try simp only [List.map_toArray, List.map_cons, List.map_nil]); first | done | rfl | (simp only [List.length_drop, List.length_take]; rfl)) ?_; (with_reducible refine (rows_right.calls k _ _ l0 true _ ?side1 ?side2 A5.out).mono ?_); (case side1 => exact cz (Kd.C_below HR0.out HB.out)); (case side2 => exact HC0.out); rintro e w8 ⟨rfl, hb⟩; refine ⟨_, rfl, ?_⟩; have n0_ := Aside0.mk (below_step bz hb); clear HB; have HB := n0_; clear n0_; (try clear hb); (try clear hb2); (try clear hk); (try clear hi)))
   go_ret
   exact ⟨by first | rfl | (simp [errW_none, errW_some] <;> rfl) | (simp [*, errW_none, errW_some] <;> rfl), bz⟩
  ·replace c6 := Bool.eq_false_iff.mpr c6
   subst c6
   have H1 : (some 40) = some r := by rw [if_neg (show ¬ (false = true) by decide)] at H; first | exact H | (simp only [eq_self] at H ⊢; exact H) | (simp only [eq_self, if_true] at H ⊢; exact H)
   clear H
   have H := H1
   clear H1
   obtain rfl := Option.some.inj H
   go_enter Tryd.func32, Tryd.ntmps32
   go_wp2_with (first | ((with_reducible refine gate_callee (f := 53) rfl ?_); refine goesL_ (some 5) rfl rfl Tryd.func53 (by kernel_rfl) rfl #[.slice A0 l0.length c0] rfl (by (try simp only [List.map_toArray, List.map_cons, List.map_nil]); first | done | rfl | (simp only [List.length_drop, List.length_take]; rfl)) ?_; (with_reducible refine (rows_big.calls _ _ l0 false _ ?side1 ?side2 A2.out).mono ?_); (case side1 => repeat (first | exact HR0.out | (with_reducible refine Kd.C_alloc ?_ _) | (with_reducible refine Kd.C_drewN ?_ _) | (with_reducible refine Kd.C_drew ?_))); (case side2 => exact HC0.out); rintro e w9 ⟨rfl, hb⟩; refine ⟨_, rfl, ?_⟩; have n0_ := Aside0.mk (below_step bz hb); clear HB; have HB := n0_; clear n0_; (try clear hb); (try clear hb2); (try clear hk); (try clear hi)) | ((with_reducible refine gate_callee (f := 54) rfl ?_); refine goesL_ (some 8) rfl rfl Tryd.func54 (by kernel_rfl) rfl #[.slice A0 l0.length c0] rfl (by (try simp only [List.map_toArray, List.map_cons, List.map_nil]); first | done | rfl | (simp only [List.length_drop, List.length_take]; rfl)) ?_; (with_reducible refine (rows_right.calls k _ _ l0 false _ ?side1 ?side2 A5.out).mono ?_); (case side1 => exact cz (Kd.C_below HR0.out HB.out)); (case side2 => exact HC0.out); rintro e w10 ⟨rfl, hb⟩; refine ⟨_, rfl, ?_⟩; have n0_ := Aside0.mk (below_step bz hb); clear HB; have HB := n0_; clear n0_; (try clear hb); (try clear hb2); (try clear hk); (try clear hi)))
   go_ret
   exact ⟨by first | rfl | (simp [errW_none, errW_some] <;> rfl) | (simp [*, errW_none, errW_some] <;> rfl), bz⟩
end Go.Proofs.YtdnbaliibiginaaDoorH.W8

/- strings.ContainsAny of the two bytes 0 and 13, at every text. -/
namespace Go.Proofs.YtdnbaliibiginaaDoor
open Go.RowKit Go.Proofs
theorem decode_key (s : ByteArray) (i : Nat) (hi : i < s.size) :
  ((s.get! i).toNat < 128 ∧ Utf8.decode s i = ((s.get! i).toNat, 1)) ∨
  (128 ≤ (s.get! i).toNat ∧ 128 ≤ (Utf8.decode s i).1 ∧ Utf8.valid (Utf8.decode s i).1 = true ∧ 1 ≤ (Utf8.decode s i).2 ∧ i + (Utf8.decode s i).2 ≤ s.size ∧ ∀ k, k < (Utf8.decode s i).2 → 128 ≤ (s.get! (i + k)).toNat) := by
 by_cases h0 : (s.get! i).toNat < 128
 ·refine .inl ⟨h0, ?_⟩
  rw [Lib.decode_at]
  unfold Lib.decodeN
  rw [if_pos h0]
 ·refine .inr ⟨by omega, ?_⟩
  have hk : ∀ k, k < 4 → (k = 0 ∨ k = 1 ∨ k = 2 ∨ k = 3) := by omega
  rw [Lib.decode_at]
  rcases Lib.decodeN_shape (s.size - i) (s.get! i).toNat (s.get! (i + 1)).toNat (s.get! (i + 2)).toNat (s.get! (i + 3)).toNat with ⟨c, e⟩ | ⟨c1, c2, c3, cv, e⟩ | ⟨c1, c2, c3, c4, cv, cs, e⟩ | ⟨c1, c2, c3, c4, c5, cv, cw, e⟩ | e
  ·exact absurd c h0
  ·rw [e]
   refine ⟨by simp only; omega, by simp only [Utf8.valid]; simp; omega, by simp only; omega, by simp only; omega, fun k hk => ?_⟩
   simp only at hk
   obtain rfl | rfl : k = 0 ∨ k = 1 := by omega
   ·rw [Nat.add_zero]; omega
   ·omega
  ·rw [e]
   refine ⟨by simp only; omega, by simp only [Utf8.valid]; simp; omega, by simp only; omega, by simp only; omega, fun k hk => ?_⟩
   simp only at hk
   obtain rfl | rfl | rfl : k = 0 ∨ k = 1 ∨ k = 2 := by omega
   ·rw [Nat.add_zero]; omega
   ·omega
   ·omega
  ·rw [e]
   refine ⟨by simp only; omega, by simp only [Utf8.valid]; simp; omega, by simp only; omega, by simp only; omega, fun k hk => ?_⟩
   simp only at hk
   obtain rfl | rfl | rfl | rfl : k = 0 ∨ k = 1 ∨ k = 2 ∨ k = 3 := by omega
   ·rw [Nat.add_zero]; omega
   ·omega
   ·omega
   ·omega
  ·rw [e]
   refine ⟨by simp only; omega, by decide, by simp only; omega, by simp only; omega, fun k hk => ?_⟩
   simp only at hk
   obtain rfl : k = 0 := by omega
   rw [Nat.add_zero]; omega
def nulcr : ByteArray := ⟨#[0, 13]⟩
set_option maxHeartbeats 2000000 in
set_option maxRecDepth 100000 in
theorem idxRune_hi (c : Nat) (h128 : 128 ≤ c) (hv : Utf8.valid c = true) (w : World) :
  Calls Tryd.prog 104 #[.string nulcr, .int .i32 c] w fun e w' => e = .returned (.int .i64 (-1)) ∧ Below w.heap.size w w' := by
 obtain ⟨hf1, hf2, hf3⟩ := encode_facts (c : Int) hv (by omega)
 have hvr : Lib.validRune (c : Int) = true := by
  unfold Lib.validRune
  simp only [Utf8.valid] at hv
  simp at hv ⊢
  omega
 have hlt : decide ((c : Int) < 128) = false := decide_eq_false (by omega)
 have h0 : decide ((0 : Int) ≤ (c : Int)) = true := decide_eq_true (by omega)
 by_cases he : c = 65533
 ·subst he
  have hr00 : ∀ (W : World) (ty : TypeId), (Instr.next (.pointer (some ⟨W.heap.size, 0, none⟩)) true ty).run Tryd.prog (W.iter nulcr 0) = .ok (.tuple #[.bool true, .int .i64 0, .int .i32 0]) (W.iter nulcr 1) := fun W ty => run_next_ascii W nulcr 0 ty (by decide) (by decide)
  have hr01 : ∀ (W : World) (ty : TypeId), (Instr.next (.pointer (some ⟨W.heap.size, 0, none⟩)) true ty).run Tryd.prog (W.iter nulcr 1) = .ok (.tuple #[.bool true, .int .i64 1, .int .i32 13]) (W.iter nulcr 2) := fun W ty => run_next_ascii W nulcr 1 ty (by decide) (by decide)
  have hr02 : ∀ (W : World) (ty : TypeId), (Instr.next (.pointer (some ⟨W.heap.size, 0, none⟩)) true ty).run Tryd.prog (W.iter nulcr 2) = .ok (.tuple #[.bool false]) (W.iter nulcr 2) := fun W ty => run_next_end W nulcr 2 ty (by decide)
  clear hf1 hf2 hf3 hv hvr h128
  go_enter Tryd.func104, Tryd.ntmps104
  go_wp2
  go_loopg [5, 6] 2 (fun g _ _ wx => ∃ i : Nat, i + g = 2 ∧ wx = w.iter nulcr i)
  case atStart => exact ⟨0, rfl, rfl⟩
  case round =>
   obtain ⟨i, hig, rfl⟩ := hrel
   cases gk with
   | zero =>
    obtain rfl : i = 2 := by omega
    go_wp2
    go_ret
    exact ⟨rfl, (Below.refl _ w).alloc (Nat.le_refl _) _⟩
   | succ g =>
    obtain rfl | rfl : i = 0 ∨ i = 1 := by omega
    ·go_wp2
     go_roundg g
     case measure => omega
     case rel => exact ⟨1, by omega, rfl⟩
    ·go_wp2
     go_roundg g
     case measure => omega
     case rel => exact ⟨2, by omega, rfl⟩
 ·have hne : ((c : Int) == 65533) = false := by rw [beq_eq_false_iff_ne]; omega
  have u21 := Tryd.underlying21
  have u9 := Tryd.underlying9
  obtain ⟨E, hE⟩ : ∃ E, Utf8.encode (c : Int) = E := ⟨_, rfl⟩
  rw [hE] at hf1 hf2 hf3
  have hsz : nulcr.size = 2 := rfl
  by_cases h2 : E.size = 2
  ·obtain ⟨a, b, rfl⟩ : ∃ a b : UInt8, E = ⟨#[a, b]⟩ := by
    obtain ⟨⟨l⟩⟩ := E
    change l.length = 2 at h2
    match l, h2 with
    | [a, b], _ => exact ⟨a, b, rfl⟩
   have hb : 128 ≤ b.toNat := hf3 (show 1 < 2 by omega)
   clear hf2 hf3 h2
   have hb1 : (((nulcr[1]'(by decide)).toNat : Int) != ((b.toNat : Nat) : Int)) = true := by rw [bne_iff_ne]; intro e; have : (nulcr[1]'(by decide)).toNat = 13 := rfl; omega
   have hib : ∀ c, Lib.indexByte ByteArray.empty.data.toList c = -1 := fun c => rfl
   have hb2 : ((13 : Int) != ((b.toNat : Nat) : Int)) = true := by rw [bne_iff_ne]; omega
   go_enter Tryd.func104, Tryd.ntmps104
   go_wp2_with (go_at_call 123; ((with_reducible refine (Tryd.utf8_ValidRune _ _).mono ?_); rintro e w3 ⟨rfl, rfl⟩; rw [hvr]))
   go_step3
   go_wp2
   go_loopw [9] (fun v wr => v = .int .i64 1 ∧ Below w3.heap.size w3 wr) (fun v _ => 0)
   case atStart => exact ⟨rfl, Below.refl _ _⟩
   case round =>
    obtain ⟨rfl, hB⟩ := hrel
    go_wp2
    go_step3
    go_wp2
    go_region
    replace hib := Lib.hid hib
    clear hb1 hb2 hf1 hlt h0 hne hv hvr hE
    generalize (nulcr[1]'(by decide)).toNat = z13
    go_wp2
    go_region_with (go_at_call 122; ((with_reducible refine (Tryd.strings_IndexByte _ _ _).mono ?_); rintro e w4 ⟨rfl, hw4⟩; rw [hib.out, hw4]))
    all_goals (
     go_wp2
     rw [Exit.noGoto_ret]
     show Exit.noGoto (Exit.inBlock 0 _) Exit.ret _ _
     rw [Exit.noGoto_ret]
     show bodyPost Tryd.prog Tryd.f104 (fun e w' => e = .returned (.int .i64 (-1)) ∧ Below w3.heap.size w3 w') Exit.ret _ _
     go_ret
     exact ⟨rfl, (hB.drew).drew⟩)
  ·have hlast : ¬ ((E.size : Int) - 1 < 2) := by omega
   go_enter Tryd.func104, Tryd.ntmps104
   go_wp2_with (go_at_call 123; ((with_reducible refine (Tryd.utf8_ValidRune _ _).mono ?_); rintro e w3 ⟨rfl, rfl⟩; rw [hvr]))
   go_step3
   go_wp2
   go_loopw [9] (fun v wr => v = .int .i64 (E.size - 1) ∧ Below w3.heap.size w3 wr) (fun v _ => 0)
   case atStart => exact ⟨rfl, Below.refl _ _⟩
   case round =>
    obtain ⟨rfl, hB⟩ := hrel
    clear hlt h0 hne hv hvr hE hf3
    go_wp2
    rw [Exit.noGoto_ret]
    show bodyPost Tryd.prog Tryd.f104 (fun e w' => e = .returned (.int .i64 (-1)) ∧ Below w3.heap.size w3 w') Exit.ret _ _
    go_ret
    exact ⟨rfl, hB⟩
def nul13 (l : List UInt8) : Bool := l.any (fun b => b == 0 || b == 13)
def seen13 (l : List UInt8) (i : Nat) : Bool := nul13 (l.take i)
end Go.Proofs.YtdnbaliibiginaaDoor
