/- Lemmas and walks, part 20: QPW7x52. -/
import Derived.Test.YtkcmghlhpbepcaaGreatDoorN83
set_option linter.unusedVariables false
set_option linter.unusedSimpArgs false

/- Words and walks used below. -/
namespace Go.Proofs.YtkcmghlhpbepcaaGreatDoorH.W7
open Go.RowKit Go.Proofs.YtkcmghlhpbepcaaGreatDoorW.PrintWords Go.Proofs.YtkcmghlhpbepcaaGreatDoorW.PrintLast Go.Proofs.YtkcmghlhpbepcaaGreatDoorW.PrintMore
attribute [local go_sem] max2_int min2_int max_two min_two max_three min_three max_four min_four   -- for this text's walks alone
mutual
def rows_row.j0 : Nat → Bool → Int → Int → ByteArray → ByteArray → List (S36) → Option (Bool)
 | 0, _, _, _, _, _, _ => none
 | k + 1, x14, x573000, x573001, x573002, x573003, x573004 => if x14 = true then (if x573002.toList = ([] : List UInt8) then (some ((x573004.length : Int) == 0)) else (some false)) else (if x573001 = 0 then (if x573002.toList = ([] : List UInt8) then (rows_row.j1 k true x573000 x573001 x573002 x573003 x573004) else (rows_row.j1 k (x573003.toList != ([] : List UInt8)) x573000 x573001 x573002 x573003 x573004)) else (rows_row.j1 k true x573000 x573001 x573002 x573003 x573004))
def rows_row.j1 : Nat → Bool → Int → Int → ByteArray → ByteArray → List (S36) → Option (Bool)
 | 0, _, _, _, _, _, _ => none
 | k + 1, x36, x573000, x573001, x573002, x573003, x573004 => if x36 = true then (some false) else (rows_row.l0 k x573004 (x573004.length : Int) 0 x573000 x573001 x573002 x573003 x573004)
def rows_row.l0 : Nat → List (S36) → Int → Int → Int → Int → ByteArray → ByteArray → List (S36) → Option (Bool)
 | 0, _, _, _, _, _, _, _, _ => none
 | k + 1, x38, x39, x40, x573000, x573001, x573002, x573003, x573004 => if x40 < x39 then (if 0 ≤ x40 then (if x40 < (x38.length : Int) then (if x40 ≤ (x573004.length : Int) then ((some (x573004.take (x40 : Int).toNat : List (S36))).bind fun y575 => (rows_row.l1 k x38 x39 x40 y575 (y575.length : Int) 0 x573000 x573001 x573002 x573003 x573004 ((rd_T36 x38 x40).f0) ((rd_T36 x38 x40).f1))) else (none)) else (none)) else (none)) else (some true)
def rows_row.l1 : Nat → List (S36) → Int → Int → List (S36) → Int → Int → Int → Int → ByteArray → ByteArray → List (S36) → ByteArray → ByteArray → Option (Bool)
 | 0, _, _, _, _, _, _, _, _, _, _, _, _, _ => none
 | k + 1, x38, x39, x40, x48, x49, x50, x573000, x573001, x573002, x573003, x573004, x575000, x575001 => if x50 < x49 then (if 0 ≤ x50 then (if x50 < (x48.length : Int) then (if x575000.toList = ((rd_T36 x48 x50).f0).toList then (some false) else (rows_row.l1 k x38 x39 x40 x48 x49 (wrap64 (x50 + 1)) x573000 x573001 x573002 x573003 x573004 x575000 x575001)) else (none)) else (none)) else (rows_row.l0 k x38 x39 (wrap64 (x40 + 1)) x573000 x573001 x573002 x573003 x573004)
end
def rows_row.f (k : Nat) (a0_0 : Int) (a0_1 : Int) (a0_2 : ByteArray) (a0_3 : ByteArray) (l0_4 : List (S36)) : Option (Bool) := if a0_1 = 1 then (rows_row.j0 k true a0_0 a0_1 a0_2 a0_3 l0_4) else (rows_row.j0 k (a0_1 == 2) a0_0 a0_1 a0_2 a0_3 l0_4)
set_option maxHeartbeats 8000000 in
set_option maxRecDepth 100000 in
theorem rows_row.calls (k : Nat) (a0_0 : Int) (a0_1 : Int) (a0_2 : ByteArray) (a0_3 : ByteArray) (A0_4 : Option Addr) (c0_4 : Nat) (l0_4 : List (S36)) (r : Bool) (w : World) (hr0_4 : Kd.C k36 w A0_4 l0_4.length l0_4) (hc0_4 : l0_4.length ≤ c0_4) (h : rows_row.f k a0_0 a0_1 a0_2 a0_3 l0_4 = some r) :
 Calls Tryz.prog 131 #[.agg #[.int .i64 a0_0, .int .i64 a0_1, .string a0_2, .string a0_3, .slice A0_4 l0_4.length c0_4]] w fun e w' => e = .returned (.bool r) ∧ Below w.heap.size w w' := by
 have hu34 := Tryz.underlying34
 have hu36 := Tryz.underlying36
 have HR0_4 := Aside0.mk hr0_4
 have HC0_4 := Aside0.mk hc0_4
 clear hr0_4 hc0_4
 have HB := Aside0.mk (Below.refl w.heap.size w)
 have H : (if a0_1 = 1 then (rows_row.j0 k true a0_0 a0_1 a0_2 a0_3 l0_4) else (rows_row.j0 k (a0_1 == 2) a0_0 a0_1 a0_2 a0_3 l0_4)) = some r := h
 clear h
 have HC2 := Aside0.mk H
 clear H
 go_enter Tryz.func131, Tryz.ntmps131
 go_upto_region 1 with (first | ((with_reducible refine gate_dst (N := 1) rfl ?_); (try (refine gate_guard (by rfl) ?_; dsimp only)); refine box_event ?hg (N := 1) ?hd (cs := #[.int .i64 a0_0, .int .i64 a0_1, .string a0_2, .string a0_3, .slice A0_4 l0_4.length c0_4]) (t := 34) ?hr ?_; (case hd => rfl); (case hg => rfl); (case hr => first | (go_simp; done) | (go_simp; rfl)); intro gb572 hg w3 hbox hb; have n0_ := Aside0.mk (below_step bz hb); have n1_ := Aside0.mk (hbox); have n2_ := Aside0.mk ((by rw [hg]; exact (below_size bz) : w.heap.size ≤ gb572)); have n3_ := Aside0.mk ((by rw [hg]; exact (below_size bz) : w.heap.size ≤ gb572)); clear HB; have HB := n0_; have BK572 := n1_; have GW572 := n2_; have GE572 := n3_; clear n0_ n1_ n2_ n3_; clear hb hbox hg))
 (try simp only [Act.put, List.setIfInBounds_toArray, List.set_cons_zero, List.set_cons_succ])
 go_cut [14] (fun v14 wc => ∃ (kq : Nat) (x14_1 : Bool), v14 = .bool x14_1 ∧ Aside0 (rows_row.j0 kq x14_1 a0_0 a0_1 a0_2 a0_3 l0_4 = some r) ∧ Aside0 (kq ≤ k) ∧ Aside0 (wc.heap[gb572]? = some (.cells #[.int .i64 a0_0, .int .i64 a0_1, .string a0_2, .string a0_3, (.slice A0_4 l0_4.length c0_4)] 34 (0, 0))) ∧ Aside0 (Below w.heap.size w wc))
 case first =>
  have H := HC2.out
  clear HC2
  by_cases c4 : a0_1 = 1
  ·rw [if_pos c4] at H
   have c4b0 : (a0_1 == 1) = true := beq_iff_eq.mpr c4
   have c4b1 : (a0_1 != 1) = false := bne_eq_false_iff_eq.mpr c4
   clear c4
   (first | rw [c4b0] | (simp only [i64_w, i32_w]; rw [c4b0]) | skip)
   have H' := Aside0.mk H
   clear H
   have hcz5_0 : w3.cell? ⟨gb572, 0, none⟩ = some (.int .i64 a0_0) := (blk_cell BK572.out 0).trans rfl
   have hcz5_1 : w3.cell? ⟨gb572, 1, none⟩ = some (.int .i64 a0_1) := (blk_cell BK572.out 1).trans rfl
   have hcz5_2 : w3.cell? ⟨gb572, 2, none⟩ = some (.string a0_2) := (blk_cell BK572.out 2).trans rfl
   have hcz5_3 : w3.cell? ⟨gb572, 3, none⟩ = some (.string a0_3) := (blk_cell BK572.out 3).trans rfl
   have hcz5_4 : w3.cell? ⟨gb572, 4, none⟩ = some (.slice A0_4 l0_4.length c0_4) := (blk_cell BK572.out 4).trans rfl
   have hfz5_0 := blk_frozen BK572.out 0
   have hfz5_1 := blk_frozen BK572.out 1
   have hfz5_2 := blk_frozen BK572.out 2
   have hfz5_3 := blk_frozen BK572.out 3
   have hfz5_4 := blk_frozen BK572.out 4
   go_wp2
   go_meet
   case rel => exact ⟨_, (true), (by first | rfl | (simp; done) | (simp [*]; done) | (simp; generalize ByteArray.toList _ = l_; cases l_ <;> rfl)), H', ⟨by first | omega | exact Nat.le_refl _⟩, ⟨by (with_reducible repeat (first | refine blk_drewN ?_ _ | refine blk_drew ?_ | refine blk_alloc ?_ _)); exact BK572.out⟩, ⟨bs GE572.out⟩⟩
  ·rw [if_neg c4] at H
   have c4b0 : (a0_1 == 1) = false := beq_eq_false_iff_ne.mpr c4
   have c4b1 : (a0_1 != 1) = true := bne_iff_ne.mpr c4
   (first | rw [c4b0] | (simp only [i64_w, i32_w]; rw [c4b0]) | skip)
   have H' := Aside0.mk H
   clear H
   have hcz6_0 : w3.cell? ⟨gb572, 0, none⟩ = some (.int .i64 a0_0) := (blk_cell BK572.out 0).trans rfl
   have hcz6_1 : w3.cell? ⟨gb572, 1, none⟩ = some (.int .i64 a0_1) := (blk_cell BK572.out 1).trans rfl
   have hcz6_2 : w3.cell? ⟨gb572, 2, none⟩ = some (.string a0_2) := (blk_cell BK572.out 2).trans rfl
   have hcz6_3 : w3.cell? ⟨gb572, 3, none⟩ = some (.string a0_3) := (blk_cell BK572.out 3).trans rfl
   have hcz6_4 : w3.cell? ⟨gb572, 4, none⟩ = some (.slice A0_4 l0_4.length c0_4) := (blk_cell BK572.out 4).trans rfl
   have hfz6_0 := blk_frozen BK572.out 0
   have hfz6_1 := blk_frozen BK572.out 1
   have hfz6_2 := blk_frozen BK572.out 2
   have hfz6_3 := blk_frozen BK572.out 3
   have hfz6_4 := blk_frozen BK572.out 4
   go_wp2
   go_meet
   case rel => exact ⟨_, ((a0_1 == 2)), (by first | rfl | (simp; done) | (simp [*]; done) | (simp; generalize ByteArray.toList _ = l_; cases l_ <;> rfl)), H', ⟨by first | omega | exact Nat.le_refl _⟩, ⟨by (with_reducible repeat (first | refine blk_drewN ?_ _ | refine blk_drew ?_ | refine blk_alloc ?_ _)); exact BK572.out⟩, ⟨bs GE572.out⟩⟩
 case rest =>
  clear HC2
  try clear c1
  try clear p2
  try clear c4
  try clear c4b0
  try clear c4b1
  try clear hcz5_0
  try clear hcz5_1
  try clear hcz5_2
  try clear hcz5_3
  try clear hcz5_4
  try clear hcz6_0
  try clear hcz6_1
  try clear hcz6_2
  try clear hcz6_3
  try clear hcz6_4
  try clear hfz5_0
  try clear hfz5_1
  try clear hfz5_2
  try clear hfz5_3
  try clear hfz5_4
  try clear hfz6_0
  try clear hfz6_1
  try clear hfz6_2
  try clear hfz6_3
  try clear hfz6_4
  obtain ⟨kq, x14_1, rfl, HA, HJ1, BK572, HB⟩ := hcut
  cases kq with
  | zero => exact absurd HA.out (by simp [rows_row.j0])
  | succ kj1 =>
    have H := HA.out
    clear HA
    simp only [rows_row.j0] at H
    by_cases c7 : x14_1 = true
    ·subst c7
     have H1 : (if a0_2.toList = ([] : List UInt8) then (some ((l0_4.length : Int) == 0)) else (some false)) = some r := by rw [if_pos rfl] at H; exact H
     clear H
     have H := H1
     clear H1
     by_cases c8 : a0_2.toList = ([] : List UInt8)
     ·rw [if_pos c8] at H
      have c8b0 : (a0_2.toList == ([] : List UInt8)) = true := beq_iff_eq.mpr c8
      have c8b1 : (a0_2.toList != ([] : List UInt8)) = false := bne_eq_false_iff_eq.mpr c8
      clear c8
      obtain rfl := Option.some.inj H
      have hcz9_0 : wc.cell? ⟨gb572, 0, none⟩ = some (.int .i64 a0_0) := (blk_cell BK572.out 0).trans rfl
      have hcz9_1 : wc.cell? ⟨gb572, 1, none⟩ = some (.int .i64 a0_1) := (blk_cell BK572.out 1).trans rfl
      have hcz9_2 : wc.cell? ⟨gb572, 2, none⟩ = some (.string a0_2) := (blk_cell BK572.out 2).trans rfl
      have hcz9_3 : wc.cell? ⟨gb572, 3, none⟩ = some (.string a0_3) := (blk_cell BK572.out 3).trans rfl
      have hcz9_4 : wc.cell? ⟨gb572, 4, none⟩ = some (.slice A0_4 l0_4.length c0_4) := (blk_cell BK572.out 4).trans rfl
      have hfz9_0 := blk_frozen BK572.out 0
      have hfz9_1 := blk_frozen BK572.out 1
      have hfz9_2 := blk_frozen BK572.out 2
      have hfz9_3 := blk_frozen BK572.out 3
      have hfz9_4 := blk_frozen BK572.out 4
      go_wp2
      go_ret
      exact ⟨by first | rfl | (simp [errW_none, errW_some] <;> rfl) | (simp [*, errW_none, errW_some] <;> rfl), bs GE572.out⟩
     ·rw [if_neg c8] at H
      have c8b0 : (a0_2.toList == ([] : List UInt8)) = false := beq_eq_false_iff_ne.mpr c8
      have c8b1 : (a0_2.toList != ([] : List UInt8)) = true := bne_iff_ne.mpr c8
      obtain rfl := Option.some.inj H
      have hcz10_0 : wc.cell? ⟨gb572, 0, none⟩ = some (.int .i64 a0_0) := (blk_cell BK572.out 0).trans rfl
      have hcz10_1 : wc.cell? ⟨gb572, 1, none⟩ = some (.int .i64 a0_1) := (blk_cell BK572.out 1).trans rfl
      have hcz10_2 : wc.cell? ⟨gb572, 2, none⟩ = some (.string a0_2) := (blk_cell BK572.out 2).trans rfl
      have hcz10_3 : wc.cell? ⟨gb572, 3, none⟩ = some (.string a0_3) := (blk_cell BK572.out 3).trans rfl
      have hcz10_4 : wc.cell? ⟨gb572, 4, none⟩ = some (.slice A0_4 l0_4.length c0_4) := (blk_cell BK572.out 4).trans rfl
      have hfz10_0 := blk_frozen BK572.out 0
      have hfz10_1 := blk_frozen BK572.out 1
      have hfz10_2 := blk_frozen BK572.out 2
      have hfz10_3 := blk_frozen BK572.out 3
      have hfz10_4 := blk_frozen BK572.out 4
      go_wp2
      go_ret
      exact ⟨by first | rfl | (simp [errW_none, errW_some] <;> rfl) | (simp [*, errW_none, errW_some] <;> rfl), bs GE572.out⟩
    ·replace c7 := Bool.eq_false_iff.mpr c7
     subst c7
     have H1 : (if a0_1 = 0 then (if a0_2.toList = ([] : List UInt8) then (rows_row.j1 kj1 true a0_0 a0_1 a0_2 a0_3 l0_4) else (rows_row.j1 kj1 (a0_3.toList != ([] : List UInt8)) a0_0 a0_1 a0_2 a0_3 l0_4)) else (rows_row.j1 kj1 true a0_0 a0_1 a0_2 a0_3 l0_4)) = some r := by rw [if_neg (show ¬ (false = true) by decide)] at H; first | exact H | (simp only [eq_self] at H ⊢; exact H) | (simp only [eq_self, if_true] at H ⊢; exact H)
     clear H
     have H := H1
     clear H1
     have HC11 := Aside0.mk H
     clear H
     go_upto_region 3 with (fail)
     go_cut [36] (fun v36 wc => ∃ (kq : Nat) (x36_10 : Bool), v36 = .bool x36_10 ∧ Aside0 (rows_row.j1 kq x36_10 a0_0 a0_1 a0_2 a0_3 l0_4 = some r) ∧ Aside0 (kq ≤ kj1) ∧ Aside0 (wc.heap[gb572]? = some (.cells #[.int .i64 a0_0, .int .i64 a0_1, .string a0_2, .string a0_3, (.slice A0_4 l0_4.length c0_4)] 34 (0, 0))) ∧ Aside0 (Below w.heap.size w wc))
     case first =>
      have H := HC11.out
      clear HC11
      by_cases c12 : a0_1 = 0
      ·rw [if_pos c12] at H
       have c12b0 : (a0_1 == 0) = true := beq_iff_eq.mpr c12
       have c12b1 : (a0_1 != 0) = false := bne_eq_false_iff_eq.mpr c12
       clear c12
       (first | rw [c12b0] | (simp only [i64_w, i32_w]; rw [c12b0]) | skip)
       by_cases c13 : a0_2.toList = ([] : List UInt8)
       ·rw [if_pos c13] at H
        have c13b0 : (a0_2.toList == ([] : List UInt8)) = true := beq_iff_eq.mpr c13
        have c13b1 : (a0_2.toList != ([] : List UInt8)) = false := bne_eq_false_iff_eq.mpr c13
        clear c13
        have H' := Aside0.mk H
        clear H
        have hcz14_0 : wc.cell? ⟨gb572, 0, none⟩ = some (.int .i64 a0_0) := (blk_cell BK572.out 0).trans rfl
        have hcz14_1 : wc.cell? ⟨gb572, 1, none⟩ = some (.int .i64 a0_1) := (blk_cell BK572.out 1).trans rfl
        have hcz14_2 : wc.cell? ⟨gb572, 2, none⟩ = some (.string a0_2) := (blk_cell BK572.out 2).trans rfl
        have hcz14_3 : wc.cell? ⟨gb572, 3, none⟩ = some (.string a0_3) := (blk_cell BK572.out 3).trans rfl
        have hcz14_4 : wc.cell? ⟨gb572, 4, none⟩ = some (.slice A0_4 l0_4.length c0_4) := (blk_cell BK572.out 4).trans rfl
        have hfz14_0 := blk_frozen BK572.out 0
        have hfz14_1 := blk_frozen BK572.out 1
        have hfz14_2 := blk_frozen BK572.out 2
        have hfz14_3 := blk_frozen BK572.out 3
        have hfz14_4 := blk_frozen BK572.out 4
        go_wp2
        go_meet
        case rel => exact ⟨_, (true), (by first | rfl | (simp; done) | (simp [*]; done) | (simp; generalize ByteArray.toList _ = l_; cases l_ <;> rfl)), H', ⟨by have := HJ1.out; first | omega | exact Nat.le_refl _⟩, ⟨by (with_reducible repeat (first | refine blk_drewN ?_ _ | refine blk_drew ?_ | refine blk_alloc ?_ _)); exact BK572.out⟩, ⟨bs GE572.out⟩⟩
       ·rw [if_neg c13] at H
        have c13b0 : (a0_2.toList == ([] : List UInt8)) = false := beq_eq_false_iff_ne.mpr c13
        have c13b1 : (a0_2.toList != ([] : List UInt8)) = true := bne_iff_ne.mpr c13
        have H' := Aside0.mk H
        clear H
        have hcz15_0 : wc.cell? ⟨gb572, 0, none⟩ = some (.int .i64 a0_0) := (blk_cell BK572.out 0).trans rfl
        have hcz15_1 : wc.cell? ⟨gb572, 1, none⟩ = some (.int .i64 a0_1) := (blk_cell BK572.out 1).trans rfl
        have hcz15_2 : wc.cell? ⟨gb572, 2, none⟩ = some (.string a0_2) := (blk_cell BK572.out 2).trans rfl
        have hcz15_3 : wc.cell? ⟨gb572, 3, none⟩ = some (.string a0_3) := (blk_cell BK572.out 3).trans rfl
        have hcz15_4 : wc.cell? ⟨gb572, 4, none⟩ = some (.slice A0_4 l0_4.length c0_4) := (blk_cell BK572.out 4).trans rfl
        have hfz15_0 := blk_frozen BK572.out 0
        have hfz15_1 := blk_frozen BK572.out 1
        have hfz15_2 := blk_frozen BK572.out 2
        have hfz15_3 := blk_frozen BK572.out 3
        have hfz15_4 := blk_frozen BK572.out 4
        go_wp2
        go_meet
        case rel => exact ⟨_, ((a0_3.toList != ([] : List UInt8))), (by first | rfl | (simp; done) | (simp [*]; done) | (simp; generalize ByteArray.toList _ = l_; cases l_ <;> rfl)), H', ⟨by have := HJ1.out; first | omega | exact Nat.le_refl _⟩, ⟨by (with_reducible repeat (first | refine blk_drewN ?_ _ | refine blk_drew ?_ | refine blk_alloc ?_ _)); exact BK572.out⟩, ⟨bs GE572.out⟩⟩
      ·rw [if_neg c12] at H
       have c12b0 : (a0_1 == 0) = false := beq_eq_false_iff_ne.mpr c12
       have c12b1 : (a0_1 != 0) = true := bne_iff_ne.mpr c12
       (first | rw [c12b0] | (simp only [i64_w, i32_w]; rw [c12b0]) | skip)
       have H' := Aside0.mk H
       clear H
       have hcz16_0 : wc.cell? ⟨gb572, 0, none⟩ = some (.int .i64 a0_0) := (blk_cell BK572.out 0).trans rfl
       have hcz16_1 : wc.cell? ⟨gb572, 1, none⟩ = some (.int .i64 a0_1) := (blk_cell BK572.out 1).trans rfl
       have hcz16_2 : wc.cell? ⟨gb572, 2, none⟩ = some (.string a0_2) := (blk_cell BK572.out 2).trans rfl
       have hcz16_3 : wc.cell? ⟨gb572, 3, none⟩ = some (.string a0_3) := (blk_cell BK572.out 3).trans rfl
       have hcz16_4 : wc.cell? ⟨gb572, 4, none⟩ = some (.slice A0_4 l0_4.length c0_4) := (blk_cell BK572.out 4).trans rfl
       have hfz16_0 := blk_frozen BK572.out 0
       have hfz16_1 := blk_frozen BK572.out 1
       have hfz16_2 := blk_frozen BK572.out 2
       have hfz16_3 := blk_frozen BK572.out 3
       have hfz16_4 := blk_frozen BK572.out 4
       go_wp2
       go_meet
       case rel => exact ⟨_, (true), (by first | rfl | (simp; done) | (simp [*]; done) | (simp; generalize ByteArray.toList _ = l_; cases l_ <;> rfl)), H', ⟨by have := HJ1.out; first | omega | exact Nat.le_refl _⟩, ⟨by (with_reducible repeat (first | refine blk_drewN ?_ _ | refine blk_drew ?_ | refine blk_alloc ?_ _)); exact BK572.out⟩, ⟨bs GE572.out⟩⟩
     case rest =>
      clear HC11
      try clear c1
      try clear p2
      try clear c4
      try clear c4b0
      try clear c4b1
      try clear c7
      try clear c8
      try clear c8b0
      try clear c8b1
      try clear c12
      try clear c12b0
      try clear c12b1
      try clear c13
      try clear c13b0
      try clear c13b1
      try clear hcz10_0
      try clear hcz10_1
      try clear hcz10_2
      try clear hcz10_3
      try clear hcz10_4
      try clear hcz14_0
      try clear hcz14_1
      try clear hcz14_2
      try clear hcz14_3
      try clear hcz14_4
      try clear hcz15_0
      try clear hcz15_1
      try clear hcz15_2
      try clear hcz15_3
      try clear hcz15_4
      try clear hcz16_0
      try clear hcz16_1
      try clear hcz16_2
      try clear hcz16_3
      try clear hcz16_4
      try clear hcz5_0
      try clear hcz5_1
      try clear hcz5_2
      try clear hcz5_3
      try clear hcz5_4
      try clear hcz6_0
      try clear hcz6_1
      try clear hcz6_2
      try clear hcz6_3
      try clear hcz6_4
      try clear hcz9_0
      try clear hcz9_1
      try clear hcz9_2
      try clear hcz9_3
      try clear hcz9_4
      try clear hfz10_0
      try clear hfz10_1
      try clear hfz10_2
      try clear hfz10_3
      try clear hfz10_4
      try clear hfz14_0
      try clear hfz14_1
      try clear hfz14_2
      try clear hfz14_3
      try clear hfz14_4
      try clear hfz15_0
      try clear hfz15_1
      try clear hfz15_2
      try clear hfz15_3
      try clear hfz15_4
      try clear hfz16_0
      try clear hfz16_1
      try clear hfz16_2
      try clear hfz16_3
      try clear hfz16_4
      try clear hfz5_0
      try clear hfz5_1
      try clear hfz5_2
      try clear hfz5_3
      try clear hfz5_4
      try clear hfz6_0
      try clear hfz6_1
      try clear hfz6_2
      try clear hfz6_3
      try clear hfz6_4
      try clear hfz9_0
      try clear hfz9_1
      try clear hfz9_2
      try clear hfz9_3
      try clear hfz9_4
      try clear p2
      obtain ⟨kq, x36_10, rfl, HA, HJ10, BK572, HB⟩ := hcut
      cases kq with
      | zero => exact absurd HA.out (by simp [rows_row.j1])
      | succ kj10 =>
        have H := HA.out
        clear HA
        simp only [rows_row.j1] at H
        by_cases c17 : x36_10 = true
        ·subst c17
         have H1 : (some false) = some r := by rw [if_pos rfl] at H; exact H
         clear H
         have H := H1
         clear H1
         obtain rfl := Option.some.inj H
         go_wp2
         go_ret
         exact ⟨by first | rfl | (simp [errW_none, errW_some] <;> rfl) | (simp [*, errW_none, errW_some] <;> rfl), bs GE572.out⟩
        ·replace c17 := Bool.eq_false_iff.mpr c17
         subst c17
         have H1 : (rows_row.l0 kj10 l0_4 (l0_4.length : Int) 0 a0_0 a0_1 a0_2 a0_3 l0_4) = some r := by rw [if_neg (show ¬ (false = true) by decide)] at H; first | exact H | (simp only [eq_self] at H ⊢; exact H) | (simp only [eq_self, if_true] at H ⊢; exact H)
         clear H
         have H := H1
         clear H1
         have H' := Aside0.mk H
         clear H
         have hcz18_0 : wc.cell? ⟨gb572, 0, none⟩ = some (.int .i64 a0_0) := (blk_cell BK572.out 0).trans rfl
         have hcz18_1 : wc.cell? ⟨gb572, 1, none⟩ = some (.int .i64 a0_1) := (blk_cell BK572.out 1).trans rfl
         have hcz18_2 : wc.cell? ⟨gb572, 2, none⟩ = some (.string a0_2) := (blk_cell BK572.out 2).trans rfl
         have hcz18_3 : wc.cell? ⟨gb572, 3, none⟩ = some (.string a0_3) := (blk_cell BK572.out 3).trans rfl
         have hcz18_4 : wc.cell? ⟨gb572, 4, none⟩ = some (.slice A0_4 l0_4.length c0_4) := (blk_cell BK572.out 4).trans rfl
         have hfz18_0 := blk_frozen BK572.out 0
         have hfz18_1 := blk_frozen BK572.out 1
         have hfz18_2 := blk_frozen BK572.out 2
         have hfz18_3 := blk_frozen BK572.out 3
         have hfz18_4 := blk_frozen BK572.out 4
         go_wp2
         go_loopg [40] kj10 (fun kq v40 w' => ∃ (x40_3 : Int), v40 = .int .i64 x40_3 ∧ Aside0 (rows_row.l0 kq l0_4 (l0_4.length : Int) x40_3 a0_0 a0_1 a0_2 a0_3 l0_4 = some r) ∧ Aside0 (kq ≤ kj10) ∧ Aside0 (w'.heap[gb572]? = some (.cells #[.int .i64 a0_0, .int .i64 a0_1, .string a0_2, .string a0_3, (.slice A0_4 l0_4.length c0_4)] 34 (0, 0))) ∧ Aside0 (Below w.heap.size w w'))
         case atStart => exact ⟨(0), (by first | rfl | (simp; done) | (simp [*]; done) | (simp; generalize ByteArray.toList _ = l_; cases l_ <;> rfl)), H', ⟨Nat.le_refl _⟩, ⟨by (with_reducible repeat (first | refine blk_drewN ?_ _ | refine blk_drew ?_ | refine blk_alloc ?_ _)); exact BK572.out⟩, ⟨bs GE572.out⟩⟩
         case round =>
          clear H'
          try clear c1
          try clear p2
          try clear c4
          try clear c4b0
          try clear c4b1
          try clear c7
          try clear c8
          try clear c8b0
          try clear c8b1
          try clear c12
          try clear c12b0
          try clear c12b1
          try clear c13
          try clear c13b0
          try clear c13b1
          try clear c17
          try clear hcz10_0
          try clear hcz10_1
          try clear hcz10_2
          try clear hcz10_3
          try clear hcz10_4
          try clear hcz14_0
          try clear hcz14_1
          try clear hcz14_2
          try clear hcz14_3
          try clear hcz14_4
          try clear hcz15_0
          try clear hcz15_1
          try clear hcz15_2
          try clear hcz15_3
          try clear hcz15_4
          try clear hcz16_0
          try clear hcz16_1
          try clear hcz16_2
          try clear hcz16_3
          try clear hcz16_4
          try clear hcz18_0
          try clear hcz18_1
          try clear hcz18_2
          try clear hcz18_3
          try clear hcz18_4
          try clear hcz5_0
          try clear hcz5_1
          try clear hcz5_2
          try clear hcz5_3
          try clear hcz5_4
          try clear hcz6_0
          try clear hcz6_1
          try clear hcz6_2
          try clear hcz6_3
          try clear hcz6_4
          try clear hcz9_0
          try clear hcz9_1
          try clear hcz9_2
          try clear hcz9_3
          try clear hcz9_4
          try clear hfz10_0
          try clear hfz10_1
          try clear hfz10_2
          try clear hfz10_3
          try clear hfz10_4
          try clear hfz14_0
          try clear hfz14_1
          try clear hfz14_2
          try clear hfz14_3
          try clear hfz14_4
          try clear hfz15_0
          try clear hfz15_1
          try clear hfz15_2
          try clear hfz15_3
          try clear hfz15_4
          try clear hfz16_0
          try clear hfz16_1
          try clear hfz16_2
          try clear hfz16_3
          try clear hfz16_4
          try clear hfz18_0
          try clear hfz18_1
          try clear hfz18_2
          try clear hfz18_3
          try clear hfz18_4
          try clear hfz5_0
          try clear hfz5_1
          try clear hfz5_2
          try clear hfz5_3
          try clear hfz5_4
          try clear hfz6_0
          try clear hfz6_1
          try clear hfz6_2
          try clear hfz6_3
          try clear hfz6_4
          try clear hfz9_0
          try clear hfz9_1
          try clear hfz9_2
          try clear hfz9_3
          try clear hfz9_4
          try clear p2
          obtain ⟨x40_3, rfl, HA, HK3, BK572, HB⟩ := hrel
          cases gk with
          | zero => exact absurd HA.out (by simp [rows_row.l0])
          | succ k3 =>
            have H := HA.out
            clear HA
            simp only [rows_row.l0] at H
            by_cases c19 : x40_3 < (l0_4.length : Int)
            ·rw [if_pos c19] at H
             have c19b0 : decide (x40_3 < (l0_4.length : Int)) = true := decide_eq_true c19
             clear c19
             by_cases c20 : 0 ≤ x40_3
             ·rw [if_pos c20] at H
              have c20b0 : decide (0 ≤ x40_3) = true := decide_eq_true c20
              clear c20
              by_cases c21 : x40_3 < (l0_4.length : Int)
              ·rw [if_pos c21] at H
               have c21b0 : decide (x40_3 < (l0_4.length : Int)) = true := decide_eq_true c21
               clear c21
               have c22b0 := eq_true ((by first | exact of_decide_eq_true (by first | (with_reducible assumption) | assumption) | assumption | omega) : 0 ≤ x40_3)
               by_cases c23 : x40_3 ≤ (l0_4.length : Int)
               ·rw [if_pos c23] at H
                have c23b0 := eq_true c23
                have c23b1 : decide (x40_3 ≤ (l0_4.length : Int)) = true := decide_eq_true c23
                clear c23
                obtain ⟨y575, hy575⟩ : ∃ y_ : List (S36), y_ = (l0_4.take (x40_3 : Int).toNat) := ⟨_, rfl⟩
                replace H : (rows_row.l1 k3 l0_4 (l0_4.length : Int) x40_3 y575 (y575.length : Int) 0 a0_0 a0_1 a0_2 a0_3 l0_4 ((rd_T36 l0_4 x40_3).f0) ((rd_T36 l0_4 x40_3).f1)) = some r := by first | (rw [hy575]; with_reducible exact H) | (have H2_ := (Option.bind_some _ _).symm.trans H; rw [hy575]; with_reducible exact H2_) | (have H2_ := (Option.bind_some _ _).symm.trans H; with_reducible exact H2_) | with_reducible exact H | (rw [hy575]; exact H) | exact H
                have Ny575 := Aside0.mk hy575
                clear hy575
                have H' := Aside0.mk H
                clear H
                have p573 : 0 ≤ (x40_3 : Int) := (by first | exact of_decide_eq_true (by first | (with_reducible assumption) | assumption) | assumption | omega)
                have q573 : x40_3 < (l0_4.length : Int) := (by first | exact of_decide_eq_true (by first | (with_reducible assumption) | assumption) | assumption | omega)
                obtain ⟨ad573, e573, hx573_0, hx573_1⟩ := at_T36 HR0_4.out x40_3 p573 q573
                cases e573
                replace hx573_0 := (HB.out.cell (World.block_lt_of_cell? w _ hx573_0)).trans hx573_0
                replace hx573_1 := (HB.out.cell (World.block_lt_of_cell? w _ hx573_1)).trans hx573_1
                replace p573 := eq_true p573
                replace q573 := eq_true q573
                go_wp2_with (first | ((with_reducible refine gate_dst (N := 4) rfl ?_); (try (refine gate_guard (by rfl) ?_; dsimp only)); refine box_event ?hg (N := 4) ?hd (cs := #[.string (⟨#[]⟩ : ByteArray), .string (⟨#[]⟩ : ByteArray)]) (t := 36) ?hr ?_; (case hd => rfl); (case hg => rfl); (case hr => first | (go_simp; done) | (go_simp; rfl)); intro gb574 hg w24 hbox hb; have n0_ := Aside0.mk (blk_below (g := gb572) (o := .cells #[.int .i64 a0_0, .int .i64 a0_1, .string a0_2, .string a0_3, .slice (some ad573) l0_4.length c0_4] 34 (0, 0)) (kz BK572.out) hb); have n1_ := Aside0.mk (below_step (bs GE572.out) hb); have n2_ := Aside0.mk (hbox); have n3_ := Aside0.mk ((by rw [hg]; exact (below_size (bs GE572.out)) : w.heap.size ≤ gb574)); have n4_ := Aside0.mk ((by rw [hg]; exact (below_size (bs GE572.out)) : w.heap.size ≤ gb574)); have n5_ := Aside0.mk ((by rw [hg]; exact Nat.ne_of_lt (blk_lt (g := gb572) (o := .cells #[.int .i64 a0_0, .int .i64 a0_1, .string a0_2, .string a0_3, .slice (some ad573) l0_4.length c0_4] 34 (0, 0)) (kz BK572.out)) : gb572 ≠ gb574)); have n6_ := Aside0.mk ((by rw [hg]; exact Nat.ne_of_gt (blk_lt (g := gb572) (o := .cells #[.int .i64 a0_0, .int .i64 a0_1, .string a0_2, .string a0_3, .slice (some ad573) l0_4.length c0_4] 34 (0, 0)) (kz BK572.out)) : gb574 ≠ gb572)); clear BK572; clear HB; have BK572 := n0_; have HB := n1_; have BK574 := n2_; have GW574 := n3_; have GE574 := n4_; have NB572_574 := n5_; have NB574_572 := n6_; clear n0_ n1_ n2_ n3_ n4_ n5_ n6_; clear hb hbox hg; have hnb25 := NB574_572.out; have hnc25 := NB572_574.out; have hcz26_0 : w24.cell? ⟨gb574, 0, none⟩ = some (.string (⟨#[]⟩ : ByteArray)) := (blk_cell BK574.out 0).trans rfl; have hcz26_1 : w24.cell? ⟨gb574, 1, none⟩ = some (.string (⟨#[]⟩ : ByteArray)) := (blk_cell BK574.out 1).trans rfl; have hfz26_0 := blk_frozen BK574.out 0; have hfz26_1 := blk_frozen BK574.out 1) | ((with_reducible refine gate_store (t := 36) (p := 4) rfl ?_); refine store_event (t := 36) (p := 4) (v := ?vo_w27) (w1 := ((w24.setCell ⟨gb574, 0, none⟩ (.string ((rd_T36 l0_4 x40_3).f0))).setCell ⟨gb574, 1, none⟩ (.string ((rd_T36 l0_4 x40_3).f1)))) ?hg ?ho ?hn ?hr ?_; (case ho => rfl); (case hg => rfl); (case hn => rfl); (case hr => first | (go_simp; done) | (go_simp; rfl)); intro w27 hw; have n0_ : Aside0 (w27.heap[gb572]? = some (.cells #[.int .i64 a0_0, .int .i64 a0_1, .string a0_2, .string a0_3, .slice (some ad573) l0_4.length c0_4] 34 (0, 0))) := ⟨(by rw [hw]; exact (by (with_reducible repeat (first | refine blk_drewN ?_ _ | refine blk_drew ?_ | refine blk_alloc ?_ _)); refine blk_far ?_ NB572_574.out _; (with_reducible repeat (first | refine blk_drewN ?_ _ | refine blk_drew ?_ | refine blk_alloc ?_ _)); refine blk_far ?_ NB572_574.out _; (with_reducible repeat (first | refine blk_drewN ?_ _ | refine blk_drew ?_ | refine blk_alloc ?_ _)); exact BK572.out))⟩; have n1_ : Aside0 (w27.heap[gb574]? = some (.cells #[.string ((rd_T36 l0_4 x40_3).f0), .string ((rd_T36 l0_4 x40_3).f1)] 36 (0, 0))) := ⟨(by rw [hw]; exact (by (with_reducible repeat (first | refine blk_drewN ?_ _ | refine blk_drew ?_ | refine blk_alloc ?_ _)); refine blk_put (cs := #[.string ((rd_T36 l0_4 x40_3).f0), .string (⟨#[]⟩ : ByteArray)]) ?_ 1 _ rfl; (with_reducible repeat (first | refine blk_drewN ?_ _ | refine blk_drew ?_ | refine blk_alloc ?_ _)); refine blk_put (cs := #[.string (⟨#[]⟩ : ByteArray), .string (⟨#[]⟩ : ByteArray)]) ?_ 0 _ rfl; (with_reducible repeat (first | refine blk_drewN ?_ _ | refine blk_drew ?_ | refine blk_alloc ?_ _)); exact BK574.out))⟩; have n2_ : Aside0 (Below w.heap.size w w27) := ⟨(by rw [hw]; exact (by repeat (first | (with_reducible first | exact HB.out | apply below_alloc | apply pw_below_drewN | apply below_drew1 | refine below_set ?_ GE572.out | refine below_set ?_ GE574.out) | exact HB.out)))⟩; clear hw; clear BK572; clear BK574; clear HB; have BK572 := n0_; have BK574 := n1_; have HB := n2_; clear n0_ n1_ n2_; have hcz28_0 : w27.cell? ⟨gb572, 0, none⟩ = some (.int .i64 a0_0) := (blk_cell BK572.out 0).trans rfl; have hcz28_1 : w27.cell? ⟨gb572, 1, none⟩ = some (.int .i64 a0_1) := (blk_cell BK572.out 1).trans rfl; have hcz28_2 : w27.cell? ⟨gb572, 2, none⟩ = some (.string a0_2) := (blk_cell BK572.out 2).trans rfl; have hcz28_3 : w27.cell? ⟨gb572, 3, none⟩ = some (.string a0_3) := (blk_cell BK572.out 3).trans rfl; have hcz28_4 : w27.cell? ⟨gb572, 4, none⟩ = some (.slice (some ad573) l0_4.length c0_4) := (blk_cell BK572.out 4).trans rfl; have hfz28_0 := blk_frozen BK572.out 0; have hfz28_1 := blk_frozen BK572.out 1; have hfz28_2 := blk_frozen BK572.out 2; have hfz28_3 := blk_frozen BK572.out 3; have hfz28_4 := blk_frozen BK572.out 4; have q29 : (x40_3 : Int) ≤ ((l0_4.length : Int) : Int) := (by first | exact of_decide_eq_true (by first | (with_reducible assumption) | assumption) | assumption | omega); obtain ⟨i029, hi029, _, hsz29, _⟩ := info_parts info36; have hroom29 : l0_4.length ≤ c0_4 := HC0_4.out; have hC29 : Kd.C k36 _ (some ad573) l0_4.length l0_4 := HR0_4.out; have hcut29 := cut_to (P := Tryz.prog) 32 36 .i64 Tryz.underlying32 hi029 (some ad573) l0_4.length c0_4 x40_3 ((by first | exact of_decide_eq_true (by first | (with_reducible assumption) | assumption) | assumption | omega)) q29 hroom29; have hr29 := Kd.C_take (m := (x40_3 : Int).toNat) hC29 (by omega); have hy29 : y575.length = (x40_3 : Int).toNat := (by rw [Ny575.out, List.length_take]; omega); rw [← Ny575.out] at hr29; rw [← hy29] at hcut29; have HR578 := Aside0.mk hr29; have HC578 := Aside0.mk (show y575.length ≤ c0_4 from by omega); clear hr29 hC29 hroom29 hi029 hsz29; have KY29 := Aside0.mk hy29; clear hy29; replace q29 := eq_true q29))
                go_loopg [50] k3 (fun kq v50 w' => ∃ (x50_4 : Int), v50 = .int .i64 x50_4 ∧ Aside0 (rows_row.l1 kq l0_4 (l0_4.length : Int) x40_3 y575 (y575.length : Int) x50_4 a0_0 a0_1 a0_2 a0_3 l0_4 ((rd_T36 l0_4 x40_3).f0) ((rd_T36 l0_4 x40_3).f1) = some r) ∧ Aside0 (kq ≤ k3) ∧ Aside0 (w'.heap[gb572]? = some (.cells #[.int .i64 a0_0, .int .i64 a0_1, .string a0_2, .string a0_3, (.slice (some ad573) l0_4.length c0_4)] 34 (0, 0))) ∧ Aside0 (w'.heap[gb574]? = some (.cells #[.string ((rd_T36 l0_4 x40_3).f0), .string ((rd_T36 l0_4 x40_3).f1)] 36 (0, 0))) ∧ Aside0 (Below w.heap.size w w'))
                case atStart => exact ⟨(0), (by first | rfl | (simp; done) | (simp [*]; done) | (simp; generalize ByteArray.toList _ = l_; cases l_ <;> rfl)), H', ⟨Nat.le_refl _⟩, ⟨by (with_reducible repeat (first | refine blk_drewN ?_ _ | refine blk_drew ?_ | refine blk_alloc ?_ _)); exact BK572.out⟩, ⟨by (with_reducible repeat (first | refine blk_drewN ?_ _ | refine blk_drew ?_ | refine blk_alloc ?_ _)); exact BK574.out⟩, ⟨by repeat (first | (with_reducible first | exact HB.out | apply below_alloc | apply pw_below_drewN | apply below_drew1 | refine below_set ?_ GE572.out | refine below_set ?_ GE574.out) | exact HB.out)⟩⟩
                case round =>
                 clear H'
                 try clear c1
                 try clear c2
                 try clear p2
                 try clear q2
                 try clear c4
                 try clear c4b0
                 try clear c4b1
                 try clear p5
                 try clear q5
                 try clear hx5
                 try clear c7
                 try clear c8
                 try clear c8b0
                 try clear c8b1
                 try clear c12
                 try clear c12b0
                 try clear c12b1
                 try clear c13
                 try clear c13b0
                 try clear c13b1
                 try clear c17
                 try clear c19
                 try clear c19b0
                 try clear c20
                 try clear c20b0
                 try clear c21
                 try clear c21b0
                 try clear c22
                 try clear c22b0
                 try clear c23
                 try clear c23b0
                 try clear c23b1
                 try clear c25
                 try clear q29
                 try clear hcz10_0
                 try clear hcz10_1
                 try clear hcz10_2
                 try clear hcz10_3
                 try clear hcz10_4
                 try clear hcz14_0
                 try clear hcz14_1
                 try clear hcz14_2
                 try clear hcz14_3
                 try clear hcz14_4
                 try clear hcz15_0
                 try clear hcz15_1
                 try clear hcz15_2
                 try clear hcz15_3
                 try clear hcz15_4
                 try clear hcz16_0
                 try clear hcz16_1
                 try clear hcz16_2
                 try clear hcz16_3
                 try clear hcz16_4
                 try clear hcz18_0
                 try clear hcz18_1
                 try clear hcz18_2
                 try clear hcz18_3
                 try clear hcz18_4
                 try clear hcz26_0
                 try clear hcz26_1
                 try clear hcz28_0
                 try clear hcz28_1
                 try clear hcz28_2
                 try clear hcz28_3
                 try clear hcz28_4
                 try clear hcz5_0
                 try clear hcz5_1
                 try clear hcz5_2
                 try clear hcz5_3
                 try clear hcz5_4
                 try clear hcz6_0
                 try clear hcz6_1
                 try clear hcz6_2
                 try clear hcz6_3
                 try clear hcz6_4
                 try clear hcz9_0
                 try clear hcz9_1
                 try clear hcz9_2
                 try clear hcz9_3
                 try clear hcz9_4
                 try clear hfz10_0
                 try clear hfz10_1
                 try clear hfz10_2
                 try clear hfz10_3
                 try clear hfz10_4
                 try clear hfz14_0
                 try clear hfz14_1
                 try clear hfz14_2
                 try clear hfz14_3
                 try clear hfz14_4
                 try clear hfz15_0
                 try clear hfz15_1
                 try clear hfz15_2
                 try clear hfz15_3
                 try clear hfz15_4
                 try clear hfz16_0
                 try clear hfz16_1
                 try clear hfz16_2
                 try clear hfz16_3
                 try clear hfz16_4
                 try clear hfz18_0
                 try clear hfz18_1
                 try clear hfz18_2
                 try clear hfz18_3
                 try clear hfz18_4
                 try clear hfz26_0
                 try clear hfz26_1
                 try clear hfz28_0
                 try clear hfz28_1
                 try clear hfz28_2
                 try clear hfz28_3
                 try clear hfz28_4
                 try clear hfz5_0
                 try clear hfz5_1
                 try clear hfz5_2
                 try clear hfz5_3
                 try clear hfz5_4
                 try clear hfz6_0
                 try clear hfz6_1
                 try clear hfz6_2
                 try clear hfz6_3
                 try clear hfz6_4
                 try clear hfz9_0
                 try clear hfz9_1
                 try clear hfz9_2
                 try clear hfz9_3
                 try clear hfz9_4
                 try clear hx573_0
                 try clear hx573_1
                 try clear p2
                 try clear p573
                 try clear q29
                 try clear q573
                 obtain ⟨x50_4, rfl, HA, HK4, BK572, BK574, HB⟩ := hrel
                 cases gk with
                 | zero => exact absurd HA.out (by simp [rows_row.l1])
                 | succ k4 =>
                   have H := HA.out
                   clear HA
                   simp only [rows_row.l1] at H
                   by_cases c30 : x50_4 < (y575.length : Int)
                   ·rw [if_pos c30] at H
                    have c30b0 : decide (x50_4 < (y575.length : Int)) = true := decide_eq_true c30
                    clear c30
                    by_cases c31 : 0 ≤ x50_4
                    ·rw [if_pos c31] at H
                     have c31b0 : decide (0 ≤ x50_4) = true := decide_eq_true c31
                     clear c31
                     by_cases c32 : x50_4 < (y575.length : Int)
                     ·rw [if_pos c32] at H
                      have c32b0 : decide (x50_4 < (y575.length : Int)) = true := decide_eq_true c32
                      clear c32
                      by_cases c33 : ((rd_T36 l0_4 x40_3).f0).toList = ((rd_T36 y575 x50_4).f0).toList
                      ·rw [if_pos c33] at H
                       have c33b0 : (((rd_T36 l0_4 x40_3).f0).toList == ((rd_T36 y575 x50_4).f0).toList) = true := beq_iff_eq.mpr c33
                       have c33b1 : (((rd_T36 l0_4 x40_3).f0).toList != ((rd_T36 y575 x50_4).f0).toList) = false := bne_eq_false_iff_eq.mpr c33
                       clear c33
                       obtain rfl := Option.some.inj H
                       have p579 : 0 ≤ (x50_4 : Int) := (by first | exact of_decide_eq_true (by first | (with_reducible assumption) | assumption) | assumption | omega)
                       have q579 : x50_4 < (y575.length : Int) := (by first | exact of_decide_eq_true (by first | (with_reducible assumption) | assumption) | assumption | omega)
                       obtain ⟨ad579, e579, hx579_0, hx579_1⟩ := at_T36 HR578.out x50_4 p579 q579
                       obtain rfl : ad573 = ad579 := (by injection e579)
                       replace hx579_0 := (HB.out.cell (World.block_lt_of_cell? w _ hx579_0)).trans hx579_0
                       replace hx579_1 := (HB.out.cell (World.block_lt_of_cell? w _ hx579_1)).trans hx579_1
                       replace p579 := eq_true p579
                       replace q579 := eq_true q579
                       go_wp2_with (first | ((with_reducible refine gate_dst (N := 6) rfl ?_); (try (refine gate_guard (by rfl) ?_; dsimp only)); refine box_event ?hg (N := 6) ?hd (cs := #[.string (⟨#[]⟩ : ByteArray), .string (⟨#[]⟩ : ByteArray)]) (t := 36) ?hr ?_; (case hd => rfl); (case hg => rfl); (case hr => first | (go_simp; done) | (go_simp; rfl)); intro gb580 hg w34 hbox hb; have n0_ := Aside0.mk (blk_below (g := gb572) (o := .cells #[.int .i64 a0_0, .int .i64 a0_1, .string a0_2, .string a0_3, .slice (some ad573) l0_4.length c0_4] 34 (0, 0)) (kz BK572.out) hb); have n1_ := Aside0.mk (blk_below (g := gb574) (o := .cells #[.string ((rd_T36 l0_4 x40_3).f0), .string ((rd_T36 l0_4 x40_3).f1)] 36 (0, 0)) (kz BK574.out) hb); have n2_ := Aside0.mk (below_step (by repeat (first | (with_reducible first | exact HB.out | apply below_alloc | apply pw_below_drewN | apply below_drew1 | refine below_set ?_ GE572.out | refine below_set ?_ GE574.out) | exact HB.out)) hb); have n3_ := Aside0.mk (hbox); have n4_ := Aside0.mk ((by rw [hg]; exact (below_size (by repeat (first | (with_reducible first | exact HB.out | apply below_alloc | apply pw_below_drewN | apply below_drew1 | refine below_set ?_ GE572.out | refine below_set ?_ GE574.out) | exact HB.out))) : w.heap.size ≤ gb580)); have n5_ := Aside0.mk ((by rw [hg]; exact (below_size (by repeat (first | (with_reducible first | exact HB.out | apply below_alloc | apply pw_below_drewN | apply below_drew1 | refine below_set ?_ GE572.out | refine below_set ?_ GE574.out) | exact HB.out))) : w.heap.size ≤ gb580)); have n6_ := Aside0.mk ((by rw [hg]; exact Nat.ne_of_lt (blk_lt (g := gb572) (o := .cells #[.int .i64 a0_0, .int .i64 a0_1, .string a0_2, .string a0_3, .slice (some ad573) l0_4.length c0_4] 34 (0, 0)) (kz BK572.out)) : gb572 ≠ gb580)); have n7_ := Aside0.mk ((by rw [hg]; exact Nat.ne_of_gt (blk_lt (g := gb572) (o := .cells #[.int .i64 a0_0, .int .i64 a0_1, .string a0_2, .string a0_3, .slice (some ad573) l0_4.length c0_4] 34 (0, 0)) (kz BK572.out)) : gb580 ≠ gb572)); have n8_ := Aside0.mk ((by rw [hg]; exact Nat.ne_of_lt (blk_lt (g := gb574) (o := .cells #[.string ((rd_T36 l0_4 x40_3).f0), .string ((rd_T36 l0_4 x40_3).f1)] 36 (0, 0)) (kz BK574.out)) : gb574 ≠ gb580)); have n9_ := Aside0.mk ((by rw [hg]; exact Nat.ne_of_gt (blk_lt (g := gb574) (o := .cells #[.string ((rd_T36 l0_4 x40_3).f0), .string ((rd_T36 l0_4 x40_3).f1)] 36 (0, 0)) (kz BK574.out)) : gb580 ≠ gb574)); clear BK572; clear BK574; clear HB; have BK572 := n0_; have BK574 := n1_; have HB := n2_; have BK580 := n3_; have GW580 := n4_; have GE580 := n5_; have NB572_580 := n6_; have NB580_572 := n7_; have NB574_580 := n8_; have NB580_574 := n9_; clear n0_ n1_ n2_ n3_ n4_ n5_ n6_ n7_ n8_ n9_; clear hb hbox hg; have hnb35 := NB580_572.out; have hnc35 := NB572_580.out; have hnb36 := NB580_574.out; have hnc36 := NB574_580.out; have hcz37_0 : w34.cell? ⟨gb580, 0, none⟩ = some (.string (⟨#[]⟩ : ByteArray)) := (blk_cell BK580.out 0).trans rfl; have hcz37_1 : w34.cell? ⟨gb580, 1, none⟩ = some (.string (⟨#[]⟩ : ByteArray)) := (blk_cell BK580.out 1).trans rfl; have hfz37_0 := blk_frozen BK580.out 0; have hfz37_1 := blk_frozen BK580.out 1; have hnb38 := NB574_572.out; have hnc38 := NB572_574.out; have hcz39_0 : w34.cell? ⟨gb574, 0, none⟩ = some (.string ((rd_T36 l0_4 x40_3).f0)) := (blk_cell BK574.out 0).trans rfl; have hcz39_1 : w34.cell? ⟨gb574, 1, none⟩ = some (.string ((rd_T36 l0_4 x40_3).f1)) := (blk_cell BK574.out 1).trans rfl; have hfz39_0 := blk_frozen BK574.out 0; have hfz39_1 := blk_frozen BK574.out 1))
                       go_ret
                       exact ⟨by first | rfl | (simp [errW_none, errW_some] <;> rfl) | (simp [*, errW_none, errW_some] <;> rfl), by repeat (first | (with_reducible first | exact HB.out | apply below_alloc | apply pw_below_drewN | apply below_drew1 | refine below_set ?_ GE572.out | refine below_set ?_ GE574.out | refine below_set ?_ GE580.out) | exact HB.out)⟩
                      ·rw [if_neg c33] at H
                       have c33b0 : (((rd_T36 l0_4 x40_3).f0).toList == ((rd_T36 y575 x50_4).f0).toList) = false := beq_eq_false_iff_ne.mpr c33
                       have c33b1 : (((rd_T36 l0_4 x40_3).f0).toList != ((rd_T36 y575 x50_4).f0).toList) = true := bne_iff_ne.mpr c33
                       have H' := Aside0.mk H
                       clear H
                       have p579 : 0 ≤ (x50_4 : Int) := (by first | exact of_decide_eq_true (by first | (with_reducible assumption) | assumption) | assumption | omega)
                       have q579 : x50_4 < (y575.length : Int) := (by first | exact of_decide_eq_true (by first | (with_reducible assumption) | assumption) | assumption | omega)
                       obtain ⟨ad579, e579, hx579_0, hx579_1⟩ := at_T36 HR578.out x50_4 p579 q579
                       obtain rfl : ad573 = ad579 := (by injection e579)
                       replace hx579_0 := (HB.out.cell (World.block_lt_of_cell? w _ hx579_0)).trans hx579_0
                       replace hx579_1 := (HB.out.cell (World.block_lt_of_cell? w _ hx579_1)).trans hx579_1
                       replace p579 := eq_true p579
                       replace q579 := eq_true q579
                       go_wp2_with (first | ((with_reducible refine gate_dst (N := 6) rfl ?_); (try (refine gate_guard (by rfl) ?_; dsimp only)); refine box_event ?hg (N := 6) ?hd (cs := #[.string (⟨#[]⟩ : ByteArray), .string (⟨#[]⟩ : ByteArray)]) (t := 36) ?hr ?_; (case hd => rfl); (case hg => rfl); (case hr => first | (go_simp; done) | (go_simp; rfl)); intro gb580 hg w40 hbox hb; have n0_ := Aside0.mk (blk_below (g := gb572) (o := .cells #[.int .i64 a0_0, .int .i64 a0_1, .string a0_2, .string a0_3, .slice (some ad573) l0_4.length c0_4] 34 (0, 0)) (kz BK572.out) hb); have n1_ := Aside0.mk (blk_below (g := gb574) (o := .cells #[.string ((rd_T36 l0_4 x40_3).f0), .string ((rd_T36 l0_4 x40_3).f1)] 36 (0, 0)) (kz BK574.out) hb); have n2_ := Aside0.mk (below_step (by repeat (first | (with_reducible first | exact HB.out | apply below_alloc | apply pw_below_drewN | apply below_drew1 | refine below_set ?_ GE572.out | refine below_set ?_ GE574.out) | exact HB.out)) hb); have n3_ := Aside0.mk (hbox); have n4_ := Aside0.mk ((by rw [hg]; exact (below_size (by repeat (first | (with_reducible first | exact HB.out | apply below_alloc | apply pw_below_drewN | apply below_drew1 | refine below_set ?_ GE572.out | refine below_set ?_ GE574.out) | exact HB.out))) : w.heap.size ≤ gb580)); have n5_ := Aside0.mk ((by rw [hg]; exact (below_size (by repeat (first | (with_reducible first | exact HB.out | apply below_alloc | apply pw_below_drewN | apply below_drew1 | refine below_set ?_ GE572.out | refine below_set ?_ GE574.out) | exact HB.out))) : w.heap.size ≤ gb580)); have n6_ := Aside0.mk ((by rw [hg]; exact Nat.ne_of_lt (blk_lt (g := gb572) (o := .cells #[.int .i64 a0_0, .int .i64 a0_1, .string a0_2, .string a0_3, .slice (some ad573) l0_4.length c0_4] 34 (0, 0)) (kz BK572.out)) : gb572 ≠ gb580)); have n7_ := Aside0.mk ((by rw [hg]; exact Nat.ne_of_gt (blk_lt (g := gb572) (o := .cells #[.int .i64 a0_0, .int .i64 a0_1, .string a0_2, .string a0_3, .slice (some ad573) l0_4.length c0_4] 34 (0, 0)) (kz BK572.out)) : gb580 ≠ gb572)); have n8_ := Aside0.mk ((by rw [hg]; exact Nat.ne_of_lt (blk_lt (g := gb574) (o := .cells #[.string ((rd_T36 l0_4 x40_3).f0), .string ((rd_T36 l0_4 x40_3).f1)] 36 (0, 0)) (kz BK574.out)) : gb574 ≠ gb580)); have n9_ := Aside0.mk ((by rw [hg]; exact Nat.ne_of_gt (blk_lt (g := gb574) (o := .cells #[.string ((rd_T36 l0_4 x40_3).f0), .string ((rd_T36 l0_4 x40_3).f1)] 36 (0, 0)) (kz BK574.out)) : gb580 ≠ gb574)); clear BK572; clear BK574; clear HB; have BK572 := n0_; have BK574 := n1_; have HB := n2_; have BK580 := n3_; have GW580 := n4_; have GE580 := n5_; have NB572_580 := n6_; have NB580_572 := n7_; have NB574_580 := n8_; have NB580_574 := n9_; clear n0_ n1_ n2_ n3_ n4_ n5_ n6_ n7_ n8_ n9_; clear hb hbox hg; have hnb41 := NB580_572.out; have hnc41 := NB572_580.out; have hnb42 := NB580_574.out; have hnc42 := NB574_580.out; have hcz43_0 : w40.cell? ⟨gb580, 0, none⟩ = some (.string (⟨#[]⟩ : ByteArray)) := (blk_cell BK580.out 0).trans rfl; have hcz43_1 : w40.cell? ⟨gb580, 1, none⟩ = some (.string (⟨#[]⟩ : ByteArray)) := (blk_cell BK580.out 1).trans rfl; have hfz43_0 := blk_frozen BK580.out 0; have hfz43_1 := blk_frozen BK580.out 1; have hnb44 := NB574_572.out; have hnc44 := NB572_574.out; have hcz45_0 : w40.cell? ⟨gb574, 0, none⟩ = some (.string ((rd_T36 l0_4 x40_3).f0)) := (blk_cell BK574.out 0).trans rfl; have hcz45_1 : w40.cell? ⟨gb574, 1, none⟩ = some (.string ((rd_T36 l0_4 x40_3).f1)) := (blk_cell BK574.out 1).trans rfl; have hfz45_0 := blk_frozen BK574.out 0; have hfz45_1 := blk_frozen BK574.out 1))
                       go_roundg k4
                       case measure => have := HJ1.out; have := HJ10.out; have := HK3.out; have := HK4.out; omega
                       case rel => exact ⟨(wrap64 (x50_4 + 1)), (by first | rfl | (simp; done) | (simp [*]; done) | (simp; generalize ByteArray.toList _ = l_; cases l_ <;> rfl)), H', ⟨by have := HJ1.out; have := HJ10.out; have := HK3.out; have := HK4.out; omega⟩, ⟨by (with_reducible repeat (first | refine blk_drewN ?_ _ | refine blk_drew ?_ | refine blk_alloc ?_ _)); refine blk_far ?_ NB572_580.out _; (with_reducible repeat (first | refine blk_drewN ?_ _ | refine blk_drew ?_ | refine blk_alloc ?_ _)); refine blk_far ?_ NB572_580.out _; (with_reducible repeat (first | refine blk_drewN ?_ _ | refine blk_drew ?_ | refine blk_alloc ?_ _)); exact BK572.out⟩, ⟨by (with_reducible repeat (first | refine blk_drewN ?_ _ | refine blk_drew ?_ | refine blk_alloc ?_ _)); refine blk_far ?_ NB574_580.out _; (with_reducible repeat (first | refine blk_drewN ?_ _ | refine blk_drew ?_ | refine blk_alloc ?_ _)); refine blk_far ?_ NB574_580.out _; (with_reducible repeat (first | refine blk_drewN ?_ _ | refine blk_drew ?_ | refine blk_alloc ?_ _)); exact BK574.out⟩, ⟨by repeat (first | (with_reducible first | exact HB.out | apply below_alloc | apply pw_below_drewN | apply below_drew1 | refine below_set ?_ GE572.out | refine below_set ?_ GE574.out | refine below_set ?_ GE580.out) | exact HB.out)⟩⟩
                     ·rw [if_neg c32] at H
                      exact absurd H (by simp)
                    ·rw [if_neg c31] at H
                     exact absurd H (by simp)
                   ·rw [if_neg c30] at H
                    have c30b0 : decide (x50_4 < (y575.length : Int)) = false := decide_eq_false c30
                    clear c30
                    have H' := Aside0.mk H
                    clear H
                    go_wp2
                    go_roundg k4
                    case measure => have := HJ1.out; have := HJ10.out; have := HK3.out; have := HK4.out; omega
                    case rel => exact ⟨(wrap64 (x40_3 + 1)), (by first | rfl | (simp; done) | (simp [*]; done) | (simp; generalize ByteArray.toList _ = l_; cases l_ <;> rfl)), H', ⟨by have := HJ1.out; have := HJ10.out; have := HK3.out; have := HK4.out; omega⟩, ⟨by (with_reducible repeat (first | refine blk_drewN ?_ _ | refine blk_drew ?_ | refine blk_alloc ?_ _)); exact BK572.out⟩, ⟨by repeat (first | (with_reducible first | exact HB.out | apply below_alloc | apply pw_below_drewN | apply below_drew1 | refine below_set ?_ GE572.out | refine below_set ?_ GE574.out) | exact HB.out)⟩⟩
               ·rw [if_neg c23] at H
                exact absurd H (by simp)
              ·rw [if_neg c21] at H
               exact absurd H (by simp)
             ·rw [if_neg c20] at H
              exact absurd H (by simp)
            ·rw [if_neg c19] at H
             have c19b0 : decide (x40_3 < (l0_4.length : Int)) = false := decide_eq_false c19
             clear c19
             obtain rfl := Option.some.inj H
             go_wp2
             go_ret
             exact ⟨by first | rfl | (simp [errW_none, errW_some] <;> rfl) | (simp [*, errW_none, errW_some] <;> rfl), bs GE572.out⟩
end Go.Proofs.YtkcmghlhpbepcaaGreatDoorH.W7
