/- Lemmas and walks, part 27: QPW8x18. -/
import Derived.Test.YtdnbaliibiginaaDoorY4
set_option linter.unusedVariables false
set_option linter.unusedSimpArgs false

/- Words and walks used below. -/
namespace Go.Proofs.YtdnbaliibiginaaDoorH.W8
open Go.RowKit Go.Proofs.YtdnbaliibiginaaDoorW.PrintWords Go.Proofs.YtdnbaliibiginaaDoorW.PrintLast Go.Proofs.YtdnbaliibiginaaDoorW.PrintMore
attribute [local go_sem] max2_int min2_int max_two min_two max_three min_three max_four min_four   -- for this text's walks alone
mutual
def rows_row.j0 : Nat → Bool → Int → Int → ByteArray → ByteArray → List (S45) → Option (Bool)
 | 0, _, _, _, _, _, _ => none
 | k + 1, x14, x154000, x154001, x154002, x154003, x154004 => if x14 = true then (if x154002.toList = ([] : List UInt8) then (some ((x154004.length : Int) == 0)) else (some false)) else (if x154001 = 0 then (if x154002.toList = ([] : List UInt8) then (rows_row.j1 k true x154000 x154001 x154002 x154003 x154004) else (rows_row.j1 k (x154003.toList != ([] : List UInt8)) x154000 x154001 x154002 x154003 x154004)) else (rows_row.j1 k true x154000 x154001 x154002 x154003 x154004))
def rows_row.j1 : Nat → Bool → Int → Int → ByteArray → ByteArray → List (S45) → Option (Bool)
 | 0, _, _, _, _, _, _ => none
 | k + 1, x36, x154000, x154001, x154002, x154003, x154004 => if x36 = true then (some false) else (rows_row.l0 k x154004 (x154004.length : Int) 0 x154000 x154001 x154002 x154003 x154004)
def rows_row.l0 : Nat → List (S45) → Int → Int → Int → Int → ByteArray → ByteArray → List (S45) → Option (Bool)
 | 0, _, _, _, _, _, _, _, _ => none
 | k + 1, x38, x39, x40, x154000, x154001, x154002, x154003, x154004 => if x40 < x39 then (if 0 ≤ x40 then (if x40 < (x38.length : Int) then (if x40 ≤ (x154004.length : Int) then ((some (x154004.take (x40 : Int).toNat : List (S45))).bind fun y156 => (rows_row.l1 k x38 x39 x40 y156 (y156.length : Int) 0 x154000 x154001 x154002 x154003 x154004 ((rd_T45 x38 x40).f0) ((rd_T45 x38 x40).f1))) else (none)) else (none)) else (none)) else (some true)
def rows_row.l1 : Nat → List (S45) → Int → Int → List (S45) → Int → Int → Int → Int → ByteArray → ByteArray → List (S45) → ByteArray → ByteArray → Option (Bool)
 | 0, _, _, _, _, _, _, _, _, _, _, _, _, _ => none
 | k + 1, x38, x39, x40, x48, x49, x50, x154000, x154001, x154002, x154003, x154004, x156000, x156001 => if x50 < x49 then (if 0 ≤ x50 then (if x50 < (x48.length : Int) then (if x156000.toList = ((rd_T45 x48 x50).f0).toList then (some false) else (rows_row.l1 k x38 x39 x40 x48 x49 (wrap64 (x50 + 1)) x154000 x154001 x154002 x154003 x154004 x156000 x156001)) else (none)) else (none)) else (rows_row.l0 k x38 x39 (wrap64 (x40 + 1)) x154000 x154001 x154002 x154003 x154004)
end
def rows_row.f (k : Nat) (a0_0 : Int) (a0_1 : Int) (a0_2 : ByteArray) (a0_3 : ByteArray) (l0_4 : List (S45)) : Option (Bool) := if a0_1 = 1 then (rows_row.j0 k true a0_0 a0_1 a0_2 a0_3 l0_4) else (rows_row.j0 k (a0_1 == 2) a0_0 a0_1 a0_2 a0_3 l0_4)
set_option maxHeartbeats 8000000 in
set_option maxRecDepth 100000 in
theorem rows_row.calls (k : Nat) (a0_0 : Int) (a0_1 : Int) (a0_2 : ByteArray) (a0_3 : ByteArray) (A0_4 : Option Addr) (c0_4 : Nat) (l0_4 : List (S45)) (r : Bool) (w : World) (hr0_4 : Kd.C k45 w A0_4 l0_4.length l0_4) (hc0_4 : l0_4.length ≤ c0_4) (h : rows_row.f k a0_0 a0_1 a0_2 a0_3 l0_4 = some r) :
  Calls Tryd.prog 78 #[.agg #[.int .i64 a0_0, .int .i64 a0_1, .string a0_2, .string a0_3, .slice A0_4 l0_4.length c0_4]] w fun e w' => e = .returned (.bool r) ∧ Below w.heap.size w w' := by
 have hu35 := Tryd.underlying35
 have hu45 := Tryd.underlying45
 have HR0_4 := Aside0.mk hr0_4
 have HC0_4 := Aside0.mk hc0_4
 clear hr0_4 hc0_4
 have HB := Aside0.mk (Below.refl w.heap.size w)
 have H : (if a0_1 = 1 then (rows_row.j0 k true a0_0 a0_1 a0_2 a0_3 l0_4) else (rows_row.j0 k (a0_1 == 2) a0_0 a0_1 a0_2 a0_3 l0_4)) = some r := h
 clear h
 have HC2 := Aside0.mk H
 clear H
 go_enter Tryd.func78, Tryd.ntmps78
 go_upto_region 1 with (first | ((with_reducible refine gate_dst (N := 1) rfl ?_); (try (refine gate_guard (by rfl) ?_; dsimp only)); refine box_event ?hg (N := 1) ?hd (cs := #[.int .i64 a0_0, .int .i64 a0_1, .string a0_2, .string a0_3, .slice A0_4 l0_4.length c0_4]) (t := 35) ?hr ?_; (case hd => rfl); (case hg => rfl); (case hr => first | (go_simp; done) | (go_simp; rfl)); intro gb153 hg w3 hbox hb; have n0_ := Aside0.mk (below_step bz hb); have n1_ := Aside0.mk (hbox); have n2_ := Aside0.mk ((by rw [hg]; exact (below_size bz) : w.heap.size ≤ gb153)); have n3_ := Aside0.mk ((by rw [hg]; exact (below_size bz) : w.heap.size ≤ gb153)); clear HB; have HB := n0_; have BK153 := n1_; have GW153 := n2_; have GE153 := n3_; clear n0_ n1_ n2_ n3_; clear hb hbox hg))
 (try simp only [Act.put, List.setIfInBounds_toArray, List.set_cons_zero, List.set_cons_succ])
 go_cut [14] (fun v14 wc => ∃ (kq : Nat) (x14_1 : Bool), v14 = .bool x14_1 ∧ Aside0 (rows_row.j0 kq x14_1 a0_0 a0_1 a0_2 a0_3 l0_4 = some r) ∧ Aside0 (kq ≤ k) ∧ Aside0 (wc.heap[gb153]? = some (.cells #[.int .i64 a0_0, .int .i64 a0_1, .string a0_2, .string a0_3, (.slice A0_4 l0_4.length c0_4)] 35 (0, 0))) ∧ Aside0 (Below w.heap.size w wc))
 case first =>
  have H := HC2.out
  clear HC2
  by_cases c4 : a0_1 = 1
  ·rw [if_pos c4] at H
   have c4b0 : (a0_1 == 1) = true := beq_iff_eq.mpr c4
   have c4b1 : (a0_1 != 1) = false := bne_eq_false_iff_eq.mpr c4
   clear c4
   (first | rw [c4b0] | (simp only [i64_w, i32_w]; rw [c4b0]) | skip)
   have H' := Aside0.mk H
   clear H
   have hcz5_0 : w3.cell? ⟨gb153, 0, none⟩ = some (.int .i64 a0_0) := (blk_cell BK153.out 0).trans rfl
   have hcz5_1 : w3.cell? ⟨gb153, 1, none⟩ = some (.int .i64 a0_1) := (blk_cell BK153.out 1).trans rfl
   have hcz5_2 : w3.cell? ⟨gb153, 2, none⟩ = some (.string a0_2) := (blk_cell BK153.out 2).trans rfl
   have hcz5_3 : w3.cell? ⟨gb153, 3, none⟩ = some (.string a0_3) := (blk_cell BK153.out 3).trans rfl
   have hcz5_4 : w3.cell? ⟨gb153, 4, none⟩ = some (.slice A0_4 l0_4.length c0_4) := (blk_cell BK153.out 4).trans rfl
   have hfz5_0 := blk_frozen BK153.out 0
   have hfz5_1 := blk_frozen BK153.out 1
   have hfz5_2 := blk_frozen BK153.out 2
   have hfz5_3 := blk_frozen BK153.out 3
   have hfz5_4 := blk_frozen BK153.out 4
   go_wp2
   go_meet
   case rel => exact ⟨_, (true), (by first | rfl | (simp; done) | (simp [*]; done) | (simp; generalize ByteArray.toList _ = l_; cases l_ <;> rfl)), H', ⟨by first | omega | exact Nat.le_refl _⟩, ⟨by (with_reducible repeat (first | refine blk_drewN ?_ _ | refine blk_drew ?_ | refine blk_alloc ?_ _)); exact BK153.out⟩, ⟨bs GE153.out⟩⟩
  ·rw [if_neg c4] at H
   have c4b0 : (a0_1 == 1) = false := beq_eq_false_iff_ne.mpr c4
   have c4b1 : (a0_1 != 1) = true := bne_iff_ne.mpr c4
   (first | rw [c4b0] | (simp only [i64_w, i32_w]; rw [c4b0]) | skip)
   have H' := Aside0.mk H
   clear H
   have hcz6_0 : w3.cell? ⟨gb153, 0, none⟩ = some (.int .i64 a0_0) := (blk_cell BK153.out 0).trans rfl
   have hcz6_1 : w3.cell? ⟨gb153, 1, none⟩ = some (.int .i64 a0_1) := (blk_cell BK153.out 1).trans rfl
   have hcz6_2 : w3.cell? ⟨gb153, 2, none⟩ = some (.string a0_2) := (blk_cell BK153.out 2).trans rfl
   have hcz6_3 : w3.cell? ⟨gb153, 3, none⟩ = some (.string a0_3) := (blk_cell BK153.out 3).trans rfl
   have hcz6_4 : w3.cell? ⟨gb153, 4, none⟩ = some (.slice A0_4 l0_4.length c0_4) := (blk_cell BK153.out 4).trans rfl
   have hfz6_0 := blk_frozen BK153.out 0
   have hfz6_1 := blk_frozen BK153.out 1
   have hfz6_2 := blk_frozen BK153.out 2
   have hfz6_3 := blk_frozen BK153.out 3
   have hfz6_4 := blk_frozen BK153.out 4
   go_wp2
   go_meet
   case rel => exact ⟨_, ((a0_1 == 2)), (by first | rfl | (simp; done) | (simp [*]; done) | (simp; generalize ByteArray.toList _ = l_; cases l_ <;> rfl)), H', ⟨by first | omega | exact Nat.le_refl _⟩, ⟨by (with_reducible repeat (first | refine blk_drewN ?_ _ | refine blk_drew ?_ | refine blk_alloc ?_ _)); exact BK153.out⟩, ⟨bs GE153.out⟩⟩
 case rest =>
  clear HC2
  try clear p2
  try clear c4
  try clear c4b0
  try clear c4b1
  try clear hcz5_0
  try clear hcz5_1
  try clear hcz5_2
  try clear hcz5_3
  try clear hcz5_4
  try clear hcz6_0
  try clear hcz6_1
  try clear hcz6_2
  try clear hcz6_3
  try clear hcz6_4
  try clear hfz5_0
  try clear hfz5_1
  try clear hfz5_2
  try clear hfz5_3
  try clear hfz5_4
  try clear hfz6_0
  try clear hfz6_1
  try clear hfz6_2
  try clear hfz6_3
  try clear hfz6_4
  obtain ⟨kq, x14_1, rfl, HA, HJ1, BK153, HB⟩ := hcut
  cases kq with
  | zero => exact absurd HA.out (by simp [rows_row.j0])
  | succ kj1 =>
   have H := HA.out
   clear HA
   simp only [rows_row.j0] at H
   by_cases c7 : x14_1 = true
   ·subst c7
    have H1 : (if a0_2.toList = ([] : List UInt8) then (some ((l0_4.length : Int) == 0)) else (some false)) = some r := by rw [if_pos rfl] at H; exact H
    clear H
    have H := H1
    clear H1
    by_cases c8 : a0_2.toList = ([] : List UInt8)
    ·rw [if_pos c8] at H
     have c8b0 : (a0_2.toList == ([] : List UInt8)) = true := beq_iff_eq.mpr c8
     have c8b1 : (a0_2.toList != ([] : List UInt8)) = false := bne_eq_false_iff_eq.mpr c8
     clear c8
     obtain rfl := Option.some.inj H
     have hcz9_0 : wc.cell? ⟨gb153, 0, none⟩ = some (.int .i64 a0_0) := (blk_cell BK153.out 0).trans rfl
     have hcz9_1 : wc.cell? ⟨gb153, 1, none⟩ = some (.int .i64 a0_1) := (blk_cell BK153.out 1).trans rfl
     have hcz9_2 : wc.cell? ⟨gb153, 2, none⟩ = some (.string a0_2) := (blk_cell BK153.out 2).trans rfl
     have hcz9_3 : wc.cell? ⟨gb153, 3, none⟩ = some (.string a0_3) := (blk_cell BK153.out 3).trans rfl
     have hcz9_4 : wc.cell? ⟨gb153, 4, none⟩ = some (.slice A0_4 l0_4.length c0_4) := (blk_cell BK153.out 4).trans rfl
     have hfz9_0 := blk_frozen BK153.out 0
     have hfz9_1 := blk_frozen BK153.out 1
     have hfz9_2 := blk_frozen BK153.out 2
     have hfz9_3 := blk_frozen BK153.out 3
     have hfz9_4 := blk_frozen BK153.out 4
     go_wp2
     go_ret
     exact ⟨by first | rfl | (simp [errW_none, errW_some] <;> rfl) | (simp [*, errW_none, errW_some] <;> rfl), bs GE153.out⟩
    ·rw [if_neg c8] at H
     have c8b0 : (a0_2.toList == ([] : List UInt8)) = false := beq_eq_false_iff_ne.mpr c8
     have c8b1 : (a0_2.toList != ([] : List UInt8)) = true := bne_iff_ne.mpr c8
     obtain rfl := Option.some.inj H
     have hcz10_0 : wc.cell? ⟨gb153, 0, none⟩ = some (.int .i64 a0_0) := (blk_cell BK153.out 0).trans rfl
     have hcz10_1 : wc.cell? ⟨gb153, 1, none⟩ = some (.int .i64 a0_1) := (blk_cell BK153.out 1).trans rfl
     have hcz10_2 : wc.cell? ⟨gb153, 2, none⟩ = some (.string a0_2) := (blk_cell BK153.out 2).trans rfl
     have hcz10_3 : wc.cell? ⟨gb153, 3, none⟩ = some (.string a0_3) := (blk_cell BK153.out 3).trans rfl
     have hcz10_4 : wc.cell? ⟨gb153, 4, none⟩ = some (.slice A0_4 l0_4.length c0_4) := (blk_cell BK153.out 4).trans rfl
     have hfz10_0 := blk_frozen BK153.out 0
     have hfz10_1 := blk_frozen BK153.out 1
     have hfz10_2 := blk_frozen BK153.out 2
     have hfz10_3 := blk_frozen BK153.out 3
     have hfz10_4 := blk_frozen BK153.out 4
     go_wp2
     go_ret
     exact ⟨by first | rfl | (simp [errW_none, errW_some] <;> rfl) | (simp [*, errW_none, errW_some] <;> rfl), bs GE153.out⟩
   ·replace c7 := Bool.eq_false_iff.mpr c7
    subst c7
    have H1 : (if a0_1 = 0 then (if a0_2.toList = ([] : List UInt8) then (rows_row.j1 kj1 true a0_0 a0_1 a0_2 a0_3 l0_4) else (rows_row.j1 kj1 (a0_3.toList != ([] : List UInt8)) a0_0 a0_1 a0_2 a0_3 l0_4)) else (rows_row.j1 kj1 true a0_0 a0_1 a0_2 a0_3 l0_4)) = some r := by rw [if_neg (show ¬ (false = true) by decide)] at H; first | exact H | (simp only [eq_self] at H ⊢; exact H) | (simp only [eq_self, if_true] at H ⊢; exact H)
    clear H
    have H := H1
    clear H1
    have HC11 := Aside0.mk H
    clear H
    go_upto_region 3 with (fail)
    go_cut [36] (fun v36 wc => ∃ (kq : Nat) (x36_10 : Bool), v36 = .bool x36_10 ∧ Aside0 (rows_row.j1 kq x36_10 a0_0 a0_1 a0_2 a0_3 l0_4 = some r) ∧ Aside0 (kq ≤ kj1) ∧ Aside0 (wc.heap[gb153]? = some (.cells #[.int .i64 a0_0, .int .i64 a0_1, .string a0_2, .string a0_3, (.slice A0_4 l0_4.length c0_4)] 35 (0, 0))) ∧ Aside0 (Below w.heap.size w wc))
    case first =>
     have H := HC11.out
     clear HC11
     by_cases c12 : a0_1 = 0
     ·rw [if_pos c12] at H
      have c12b0 : (a0_1 == 0) = true := beq_iff_eq.mpr c12
      have c12b1 : (a0_1 != 0) = false := bne_eq_false_iff_eq.mpr c12
      clear c12
      (first | rw [c12b0] | (simp only [i64_w, i32_w]; rw [c12b0]) | skip)
      by_cases c13 : a0_2.toList = ([] : List UInt8)
      ·rw [if_pos c13] at H
       have c13b0 : (a0_2.toList == ([] : List UInt8)) = true := beq_iff_eq.mpr c13
       have c13b1 : (a0_2.toList != ([] : List UInt8)) = false := bne_eq_false_iff_eq.mpr c13
       clear c13
       have H' := Aside0.mk H
       clear H
       have hcz14_0 : wc.cell? ⟨gb153, 0, none⟩ = some (.int .i64 a0_0) := (blk_cell BK153.out 0).trans rfl
       have hcz14_1 : wc.cell? ⟨gb153, 1, none⟩ = some (.int .i64 a0_1) := (blk_cell BK153.out 1).trans rfl
       have hcz14_2 : wc.cell? ⟨gb153, 2, none⟩ = some (.string a0_2) := (blk_cell BK153.out 2).trans rfl
       have hcz14_3 : wc.cell? ⟨gb153, 3, none⟩ = some (.string a0_3) := (blk_cell BK153.out 3).trans rfl
       have hcz14_4 : wc.cell? ⟨gb153, 4, none⟩ = some (.slice A0_4 l0_4.length c0_4) := (blk_cell BK153.out 4).trans rfl
       have hfz14_0 := blk_frozen BK153.out 0
       have hfz14_1 := blk_frozen BK153.out 1
       have hfz14_2 := blk_frozen BK153.out 2
       have hfz14_3 := blk_frozen BK153.out 3
       have hfz14_4 := blk_frozen BK153.out 4
       go_wp2
       go_meet
       case rel => exact ⟨_, (true), (by first | rfl | (simp; done) | (simp [*]; done) | (simp; generalize ByteArray.toList _ = l_; cases l_ <;> rfl)), H', ⟨by have := HJ1.out; first | omega | exact Nat.le_refl _⟩, ⟨by (with_reducible repeat (first | refine blk_drewN ?_ _ | refine blk_drew ?_ | refine blk_alloc ?_ _)); exact BK153.out⟩, ⟨bs GE153.out⟩⟩
      ·rw [if_neg c13] at H
       have c13b0 : (a0_2.toList == ([] : List UInt8)) = false := beq_eq_false_iff_ne.mpr c13
       have c13b1 : (a0_2.toList != ([] : List UInt8)) = true := bne_iff_ne.mpr c13
       have H' := Aside0.mk H
       clear H
       have hcz15_0 : wc.cell? ⟨gb153, 0, none⟩ = some (.int .i64 a0_0) := (blk_cell BK153.out 0).trans rfl
       have hcz15_1 : wc.cell? ⟨gb153, 1, none⟩ = some (.int .i64 a0_1) := (blk_cell BK153.out 1).trans rfl
       have hcz15_2 : wc.cell? ⟨gb153, 2, none⟩ = some (.string a0_2) := (blk_cell BK153.out 2).trans rfl
       have hcz15_3 : wc.cell? ⟨gb153, 3, none⟩ = some (.string a0_3) := (blk_cell BK153.out 3).trans rfl
       have hcz15_4 : wc.cell? ⟨gb153, 4, none⟩ = some (.slice A0_4 l0_4.length c0_4) := (blk_cell BK153.out 4).trans rfl
       have hfz15_0 := blk_frozen BK153.out 0
       have hfz15_1 := blk_frozen BK153.out 1
       have hfz15_2 := blk_frozen BK153.out 2
       have hfz15_3 := blk_frozen BK153.out 3
       have hfz15_4 := blk_frozen BK153.out 4
       go_wp2
       go_meet
       case rel => exact ⟨_, ((a0_3.toList != ([] : List UInt8))), (by first | rfl | (simp; done) | (simp [*]; done) | (simp; generalize ByteArray.toList _ = l_; cases l_ <;> rfl)), H', ⟨by have := HJ1.out; first | omega | exact Nat.le_refl _⟩, ⟨by (with_reducible repeat (first | refine blk_drewN ?_ _ | refine blk_drew ?_ | refine blk_alloc ?_ _)); exact BK153.out⟩, ⟨bs GE153.out⟩⟩
     ·rw [if_neg c12] at H
      have c12b0 : (a0_1 == 0) = false := beq_eq_false_iff_ne.mpr c12
      have c12b1 : (a0_1 != 0) = true := bne_iff_ne.mpr c12
      (first | rw [c12b0] | (simp only [i64_w, i32_w]; rw [c12b0]) | skip)
      have H' := Aside0.mk H
      clear H
      have hcz16_0 : wc.cell? ⟨gb153, 0, none⟩ = some (.int .i64 a0_0) := (blk_cell BK153.out 0).trans rfl
      have hcz16_1 : wc.cell? ⟨gb153, 1, none⟩ = some (.int .i64 a0_1) := (blk_cell BK153.out 1).trans rfl
      have hcz16_2 : wc.cell? ⟨gb153, 2, none⟩ = some (.string a0_2) := (blk_cell BK153.out 2).trans rfl
      have hcz16_3 : wc.cell? ⟨gb153, 3, none⟩ = some (.string a0_3) := (blk_cell BK153.out 3).trans rfl
      have hcz16_4 : wc.cell? ⟨gb153, 4, none⟩ = some (.slice A0_4 l0_4.length c0_4) := (blk_cell BK153.out 4).trans rfl
      have hfz16_0 := blk_frozen BK153.out 0
      have hfz16_1 := blk_frozen BK153.out 1
      have hfz16_2 := blk_frozen BK153.out 2
      have hfz16_3 := blk_frozen BK153.out 3
      have hfz16_4 := blk_frozen BK153.out 4
      go_wp2
      go_meet
      case rel => exact ⟨_, (true), (by first | rfl | (simp; done) | (simp [*]; done) | (simp; generalize ByteArray.toList _ = l_; cases l_ <;> rfl)), H', ⟨by have := HJ1.out; first | omega | exact Nat.le_refl _⟩, ⟨by (with_reducible repeat (first | refine blk_drewN ?_ _ | refine blk_drew ?_ | refine blk_alloc ?_ _)); exact BK153.out⟩, ⟨bs GE153.out⟩⟩
    case rest =>
     clear HC11
     try clear c1
     try clear p2
     try clear c4
     try clear c4b0
     try clear c4b1
     try clear c7
     try clear c8
     try clear c8b0
     try clear c8b1
     try clear c12
     try clear c12b0
     try clear c12b1
     try clear c13
     try clear c13b0
     try clear c13b1
     try clear hcz10_0
     try clear hcz10_1
     try clear hcz10_2
     try clear hcz10_3
     try clear hcz10_4
     try clear hcz14_0
     try clear hcz14_1
     try clear hcz14_2
     try clear hcz14_3
     try clear hcz14_4
     try clear hcz15_0
     try clear hcz15_1
     try clear hcz15_2
     try clear hcz15_3
     try clear hcz15_4
     try clear hcz16_0
     try clear hcz16_1
     try clear hcz16_2
     try clear hcz16_3
     try clear hcz16_4
     try clear hcz5_0
     try clear hcz5_1
     try clear hcz5_2
     try clear hcz5_3
     try clear hcz5_4
     try clear hcz6_0
     try clear hcz6_1
     try clear hcz6_2
     try clear hcz6_3
     try clear hcz6_4
     try clear hcz9_0
     try clear hcz9_1
     try clear hcz9_2
     try clear hcz9_3
     try clear hcz9_4
     try clear hfz10_0
     try clear hfz10_1
     try clear hfz10_2
     try clear hfz10_3
     try clear hfz10_4
     try clear hfz14_0
     try clear hfz14_1
     try clear hfz14_2
     try clear hfz14_3
     try clear hfz14_4
     try clear hfz15_0
     try clear hfz15_1
     try clear hfz15_2
     try clear hfz15_3
     try clear hfz15_4
     try clear hfz16_0
     try clear hfz16_1
     try clear hfz16_2
     try clear hfz16_3
     try clear hfz16_4
     try clear hfz5_0
     try clear hfz5_1
     try clear hfz5_2
     try clear hfz5_3
     try clear hfz5_4
     try clear hfz6_0
     try clear hfz6_1
     try clear hfz6_2
     try clear hfz6_3
     try clear hfz6_4
     try clear hfz9_0
     try clear hfz9_1
     try clear hfz9_2
     try clear hfz9_3
     try clear hfz9_4
     try clear p2
     obtain ⟨kq, x36_10, rfl, HA, HJ10, BK153, HB⟩ := hcut
     cases kq with
     | zero => exact absurd HA.out (by simp [rows_row.j1])
     | succ kj10 =>
      have H := HA.out
      clear HA
      simp only [rows_row.j1] at H
      by_cases c17 : x36_10 = true
      ·subst c17
       have H1 : (some false) = some r := by rw [if_pos rfl] at H; exact H
       clear H
       have H := H1
       clear H1
       obtain rfl := Option.some.inj H
       go_wp2
       go_ret
       exact ⟨by first | rfl | (simp [errW_none, errW_some] <;> rfl) | (simp [*, errW_none, errW_some] <;> rfl), bs GE153.out⟩
      ·replace c17 := Bool.eq_false_iff.mpr c17
       subst c17
       have H1 : (rows_row.l0 kj10 l0_4 (l0_4.length : Int) 0 a0_0 a0_1 a0_2 a0_3 l0_4) = some r := by rw [if_neg (show ¬ (false = true) by decide)] at H; first | exact H | (simp only [eq_self] at H ⊢; exact H) | (simp only [eq_self, if_true] at H ⊢; exact H)
       clear H
       have H := H1
       clear H1
       have H' := Aside0.mk H
       clear H
       have hcz18_0 : wc.cell? ⟨gb153, 0, none⟩ = some (.int .i64 a0_0) := (blk_cell BK153.out 0).trans rfl
       have hcz18_1 : wc.cell? ⟨gb153, 1, none⟩ = some (.int .i64 a0_1) := (blk_cell BK153.out 1).trans rfl
       have hcz18_2 : wc.cell? ⟨gb153, 2, none⟩ = some (.string a0_2) := (blk_cell BK153.out 2).trans rfl
       have hcz18_3 : wc.cell? ⟨gb153, 3, none⟩ = some (.string a0_3) := (blk_cell BK153.out 3).trans rfl
       have hcz18_4 : wc.cell? ⟨gb153, 4, none⟩ = some (.slice A0_4 l0_4.length c0_4) := (blk_cell BK153.out 4).trans rfl
       have hfz18_0 := blk_frozen BK153.out 0
       have hfz18_1 := blk_frozen BK153.out 1
       have hfz18_2 := blk_frozen BK153.out 2
       have hfz18_3 := blk_frozen BK153.out 3
       have hfz18_4 := blk_frozen BK153.out 4
       go_wp2
       go_loopg [40] kj10 (fun kq v40 w' => ∃ (x40_3 : Int), v40 = .int .i64 x40_3 ∧ Aside0 (rows_row.l0 kq l0_4 (l0_4.length : Int) x40_3 a0_0 a0_1 a0_2 a0_3 l0_4 = some r) ∧ Aside0 (kq ≤ kj10) ∧ Aside0 (w'.heap[gb153]? = some (.cells #[.int .i64 a0_0, .int .i64 a0_1, .string a0_2, .string a0_3, (.slice A0_4 l0_4.length c0_4)] 35 (0, 0))) ∧ Aside0 (Below w.heap.size w w'))
       case atStart => exact ⟨(0), (by first | rfl | (simp; done) | (simp [*]; done) | (simp; generalize ByteArray.toList _ = l_; cases l_ <;> rfl)), H', ⟨Nat.le_refl _⟩, ⟨by (with_reducible repeat (first | refine blk_drewN ?_ _ | refine blk_drew ?_ | refine blk_alloc ?_ _)); exact BK153.out⟩, ⟨bs GE153.out⟩⟩
       case round =>
        clear H'
        try clear c1
        try clear p2
        try clear c4
        try clear c4b0
        try clear c4b1
        try clear c7
        try clear c8
        try clear c8b0
        try clear c8b1
        try clear c12
        try clear c12b0
        try clear c12b1
        try clear c13
        try clear c13b0
        try clear c13b1
        try clear c17
        try clear hcz10_0
        try clear hcz10_1
        try clear hcz10_2
        try clear hcz10_3
        try clear hcz10_4
        try clear hcz14_0
        try clear hcz14_1
        try clear hcz14_2
        try clear hcz14_3
        try clear hcz14_4
        try clear hcz15_0
        try clear hcz15_1
        try clear hcz15_2
        try clear hcz15_3
        try clear hcz15_4
        try clear hcz16_0
        try clear hcz16_1
        try clear hcz16_2
        try clear hcz16_3
        try clear hcz16_4
        try clear hcz18_0
        try clear hcz18_1
        try clear hcz18_2
        try clear hcz18_3
        try clear hcz18_4
        try clear hcz5_0
        try clear hcz5_1
        try clear hcz5_2
        try clear hcz5_3
        try clear hcz5_4
        try clear hcz6_0
        try clear hcz6_1
        try clear hcz6_2
        try clear hcz6_3
        try clear hcz6_4
        try clear hcz9_0
        try clear hcz9_1
        try clear hcz9_2
        try clear hcz9_3
        try clear hcz9_4
        try clear hfz10_0
        try clear hfz10_1
        try clear hfz10_2
        try clear hfz10_3
        try clear hfz10_4
        try clear hfz14_0
        try clear hfz14_1
        try clear hfz14_2
        try clear hfz14_3
        try clear hfz14_4
        try clear hfz15_0
        try clear hfz15_1
        try clear hfz15_2
        try clear hfz15_3
        try clear hfz15_4
        try clear hfz16_0
        try clear hfz16_1
        try clear hfz16_2
        try clear hfz16_3
        try clear hfz16_4
        try clear hfz18_0
        try clear hfz18_1
        try clear hfz18_2
        try clear hfz18_3
        try clear hfz18_4
        try clear hfz5_0
        try clear hfz5_1
        try clear hfz5_2
        try clear hfz5_3
        try clear hfz5_4
        try clear hfz6_0
        try clear hfz6_1
        try clear hfz6_2
        try clear hfz6_3
        try clear hfz6_4
        try clear hfz9_0
        try clear hfz9_1
        try clear hfz9_2
        try clear hfz9_3
        try clear hfz9_4
        try clear p2
        obtain ⟨x40_3, rfl, HA, HK3, BK153, HB⟩ := hrel
        cases gk with
        | zero => exact absurd HA.out (by simp [rows_row.l0])
        | succ k3 =>
         have H := HA.out
         clear HA
         simp only [rows_row.l0] at H
         by_cases c19 : x40_3 < (l0_4.length : Int)
         ·rw [if_pos c19] at H
          have c19b0 : decide (x40_3 < (l0_4.length : Int)) = true := decide_eq_true c19
          clear c19
          by_cases c20 : 0 ≤ x40_3
          ·rw [if_pos c20] at H
           have c20b0 : decide (0 ≤ x40_3) = true := decide_eq_true c20
           clear c20
           by_cases c21 : x40_3 < (l0_4.length : Int)
           ·rw [if_pos c21] at H
            have c21b0 : decide (x40_3 < (l0_4.length : Int)) = true := decide_eq_true c21
            clear c21
            have c22b0 := eq_true ((by first | exact of_decide_eq_true (by first | (with_reducible assumption) | assumption) | assumption | omega) : 0 ≤ x40_3)
            by_cases c23 : x40_3 ≤ (l0_4.length : Int)
            ·rw [if_pos c23] at H
             have c23b0 := eq_true c23
             have c23b1 : decide (x40_3 ≤ (l0_4.length : Int)) = true := decide_eq_true c23
             clear c23
             obtain ⟨y156, hy156⟩ : ∃ y_ : List (S45), y_ = (l0_4.take (x40_3 : Int).toNat) := ⟨_, rfl⟩
             replace H : (rows_row.l1 k3 l0_4 (l0_4.length : Int) x40_3 y156 (y156.length : Int) 0 a0_0 a0_1 a0_2 a0_3 l0_4 ((rd_T45 l0_4 x40_3).f0) ((rd_T45 l0_4 x40_3).f1)) = some r := by first | (rw [hy156]; with_reducible exact H) | (have H2_ := (Option.bind_some _ _).symm.trans H; rw [hy156]; with_reducible exact H2_) | (have H2_ := (Option.bind_some _ _).symm.trans H; with_reducible exact H2_) | with_reducible exact H | (rw [hy156]; exact H) | exact H
             have Ny156 := Aside0.mk hy156
             clear hy156
             have H' := Aside0.mk H
             clear H
             have p154 : 0 ≤ (x40_3 : Int) := (by first | exact of_decide_eq_true (by first | (with_reducible assumption) | assumption) | assumption | omega)
             have q154 : x40_3 < (l0_4.length : Int) := (by first | exact of_decide_eq_true (by first | (with_reducible assumption) | assumption) | assumption | omega)
             obtain ⟨ad154, e154, hx154_0, hx154_1⟩ := at_T45 HR0_4.out x40_3 p154 q154
             cases e154
             replace hx154_0 := (HB.out.cell (World.block_lt_of_cell? w _ hx154_0)).trans hx154_0
             replace hx154_1 := (HB.out.cell (World.block_lt_of_cell? w _ hx154_1)).trans hx154_1
             replace p154 := eq_true p154
             replace q154 := eq_true q154
             go_wp2_with (first | ((with_reducible refine gate_dst (N := 4) rfl ?_); (try (refine gate_guard (by rfl) ?_; dsimp only)); refine box_event ?hg (N := 4) ?hd (cs := #[.string (⟨#[]⟩ : ByteArray), .string (⟨#[]⟩ : ByteArray)]) (t := 45) ?hr ?_; (case hd => rfl); (case hg => rfl); (case hr => first | (go_simp; done) | (go_simp; rfl)); intro gb155 hg w24 hbox hb; have n0_ := Aside0.mk (blk_below (g := gb153) (o := .cells #[.int .i64 a0_0, .int .i64 a0_1, .string a0_2, .string a0_3, .slice (some ad154) l0_4.length c0_4] 35 (0, 0)) (kz BK153.out) hb); have n1_ := Aside0.mk (below_step (bs GE153.out) hb); have n2_ := Aside0.mk (hbox); have n3_ := Aside0.mk ((by rw [hg]; exact (below_size (bs GE153.out)) : w.heap.size ≤ gb155)); have n4_ := Aside0.mk ((by rw [hg]; exact (below_size (bs GE153.out)) : w.heap.size ≤ gb155)); have n5_ := Aside0.mk ((by rw [hg]; exact Nat.ne_of_lt (blk_lt (g := gb153) (o := .cells #[.int .i64 a0_0, .int .i64 a0_1, .string a0_2, .string a0_3, .slice (some ad154) l0_4.length c0_4] 35 (0, 0)) (kz BK153.out)) : gb153 ≠ gb155)); have n6_ := Aside0.mk ((by rw [hg]; exact Nat.ne_of_gt (blk_lt (g := gb153) (o := .cells #[.int .i64 a0_0, .int .i64 a0_1, .string a0_2, .string a0_3, .slice (some ad154) l0_4.length c0_4] 35 (0, 0)) (kz BK153.out)) : gb155 ≠ gb153)); clear BK153; clear HB; have BK153 := n0_; have HB := n1_; have BK155 := n2_; have GW155 := n3_; have GE155 := n4_; have NB153_155 := n5_; have NB155_153 := n6_; clear n0_ n1_ n2_ n3_ n4_ n5_ n6_; clear hb hbox hg; have hnb25 := NB155_153.out; have hnc25 := NB153_155.out; have hcz26_0 : w24.cell? ⟨gb155, 0, none⟩ = some (.string (⟨#[]⟩ : ByteArray)) := (blk_cell BK155.out 0).trans rfl; have hcz26_1 : w24.cell? ⟨gb155, 1, none⟩ = some (.string (⟨#[]⟩ : ByteArray)) := (blk_cell BK155.out 1).trans rfl; have hfz26_0 := blk_frozen BK155.out 0; have hfz26_1 := blk_frozen BK155.out 1) | ((with_reducible refine gate_store (t := 45) (p := 4) rfl ?_); refine store_event (t := 45) (p := 4) (v := ?vo_w27) (w1 := ((w24.setCell ⟨gb155, 0, none⟩ (.string ((rd_T45 l0_4 x40_3).f0))).setCell ⟨gb155, 1, none⟩ (.string ((rd_T45 l0_4 x40_3).f1)))) ?hg ?ho ?hn ?hr ?_; (case ho => rfl); (case hg => rfl); (case hn => rfl); (case hr => first | (go_simp; done) | (go_simp; rfl)); intro w27 hw; have n0_ : Aside0 (w27.heap[gb153]? = some (.cells #[.int .i64 a0_0, .int .i64 a0_1, .string a0_2, .string a0_3, .slice (some ad154) l0_4.length c0_4] 35 (0, 0))) := ⟨(by rw [hw]; exact (by (with_reducible repeat (first | refine blk_drewN ?_ _ | refine blk_drew ?_ | refine blk_alloc ?_ _)); refine blk_far ?_ NB153_155.out _; (with_reducible repeat (first | refine blk_drewN ?_ _ | refine blk_drew ?_ | refine blk_alloc ?_ _)); refine blk_far ?_ NB153_155.out _; (with_reducible repeat (first | refine blk_drewN ?_ _ | refine blk_drew ?_ | refine blk_alloc ?_ _)); exact BK153.out))⟩; have n1_ : Aside0 (w27.heap[gb155]? = some (.cells #[.string ((rd_T45 l0_4 x40_3).f0), .string ((rd_T45 l0_4 x40_3).f1)] 45 (0, 0))) := ⟨(by rw [hw]; exact (by (with_reducible repeat (first | refine blk_drewN ?_ _ | refine blk_drew ?_ | refine blk_alloc ?_ _)); refine blk_put (cs := #[.string ((rd_T45 l0_4 x40_3).f0), .string (⟨#[]⟩ : ByteArray)]) ?_ 1 _ rfl; (with_reducible repeat (first | refine blk_drewN ?_ _ | refine blk_drew ?_ | refine blk_alloc ?_ _)); refine blk_put (cs := #[.string (⟨#[]⟩ : ByteArray), .string (⟨#[]⟩ : ByteArray)]) ?_ 0 _ rfl; (with_reducible repeat (first | refine blk_drewN ?_ _ | refine blk_drew ?_ | refine blk_alloc ?_ _)); exact BK155.out))⟩; have n2_ : Aside0 (Below w.heap.size w w27) := ⟨(by rw [hw]; exact (by repeat (first | (with_reducible first | exact HB.out | apply below_alloc | apply pw_below_drewN | apply below_drew1 | refine below_set ?_ GE153.out | refine below_set ?_ GE155.out) | exact HB.out)))⟩; clear hw; clear BK153; clear BK155; clear HB; have BK153 := n0_; have BK155 := n1_; have HB := n2_; clear n0_ n1_ n2_; have hcz28_0 : w27.cell? ⟨gb153, 0, none⟩ = some (.int .i64 a0_0) := (blk_cell BK153.out 0).trans rfl; have hcz28_1 : w27.cell? ⟨gb153, 1, none⟩ = some (.int .i64 a0_1) := (blk_cell BK153.out 1).trans rfl; have hcz28_2 : w27.cell? ⟨gb153, 2, none⟩ = some (.string a0_2) := (blk_cell BK153.out 2).trans rfl; have hcz28_3 : w27.cell? ⟨gb153, 3, none⟩ = some (.string a0_3) := (blk_cell BK153.out 3).trans rfl; have hcz28_4 : w27.cell? ⟨gb153, 4, none⟩ = some (.slice (some ad154) l0_4.length c0_4) := (blk_cell BK153.out 4).trans rfl; have hfz28_0 := blk_frozen BK153.out 0; have hfz28_1 := blk_frozen BK153.out 1; have hfz28_2 := blk_frozen BK153.out 2; have hfz28_3 := blk_frozen BK153.out 3; have hfz28_4 := blk_frozen BK153.out 4; have q29 : (x40_3 : Int) ≤ ((l0_4.length : Int) : Int) := (by first | exact of_decide_eq_true (by first | (with_reducible assumption) | assumption) | assumption | omega); obtain ⟨i029, hi029, _, hsz29, _⟩ := info_parts info45; have hroom29 : l0_4.length ≤ c0_4 := HC0_4.out; have hC29 : Kd.C k45 _ (some ad154) l0_4.length l0_4 := HR0_4.out; have hcut29 := cut_to (P := Tryd.prog) 33 45 .i64 Tryd.underlying33 hi029 (some ad154) l0_4.length c0_4 x40_3 ((by first | exact of_decide_eq_true (by first | (with_reducible assumption) | assumption) | assumption | omega)) q29 hroom29; have hr29 := Kd.C_take (m := (x40_3 : Int).toNat) hC29 (by omega); have hy29 : y156.length = (x40_3 : Int).toNat := (by rw [Ny156.out, List.length_take]; omega); rw [← Ny156.out] at hr29; rw [← hy29] at hcut29; have HR159 := Aside0.mk hr29; have HC159 := Aside0.mk (show y156.length ≤ c0_4 from by omega); clear hr29 hC29 hroom29 hi029 hsz29; have KY29 := Aside0.mk hy29; clear hy29; replace q29 := eq_true q29))
             go_loopg [50] k3 (fun kq v50 w' => ∃ (x50_4 : Int), v50 = .int .i64 x50_4 ∧ Aside0 (rows_row.l1 kq l0_4 (l0_4.length : Int) x40_3 y156 (y156.length : Int) x50_4 a0_0 a0_1 a0_2 a0_3 l0_4 ((rd_T45 l0_4 x40_3).f0) ((rd_T45 l0_4 x40_3).f1) = some r) ∧ Aside0 (kq ≤ k3) ∧ Aside0 (w'.heap[gb153]? = some (.cells #[.int .i64 a0_0, .int .i64 a0_1, .string a0_2, .string a0_3, (.slice (some ad154) l0_4.length c0_4)] 35 (0, 0))) ∧ Aside0 (w'.heap[gb155]? = some (.cells #[.string ((rd_T45 l0_4 x40_3).f0), .string ((rd_T45 l0_4 x40_3).f1)] 45 (0, 0))) ∧ Aside0 (Below w.heap.size w w'))
             case atStart => exact ⟨(0), (by first | rfl | (simp; done) | (simp [*]; done) | (simp; generalize ByteArray.toList _ = l_; cases l_ <;> rfl)), H', ⟨Nat.le_refl _⟩, ⟨by (with_reducible repeat (first | refine blk_drewN ?_ _ | refine blk_drew ?_ | refine blk_alloc ?_ _)); exact BK153.out⟩, ⟨by (with_reducible repeat (first | refine blk_drewN ?_ _ | refine blk_drew ?_ | refine blk_alloc ?_ _)); exact BK155.out⟩, ⟨by repeat (first | (with_reducible first | exact HB.out | apply below_alloc | apply pw_below_drewN | apply below_drew1 | refine below_set ?_ GE153.out | refine below_set ?_ GE155.out) | exact HB.out)⟩⟩
             case round =>
              clear H'
              try clear c1
              try clear p1
              try clear q1
              try clear hx1
              try clear c2
              try clear p2
              try clear q2
              try clear c4
              try clear c4b0
              try clear c4b1
              try clear c7
              try clear c8
              try clear c8b0
              try clear c8b1
              try clear c12
              try clear c12b0
              try clear c12b1
              try clear c13
              try clear c13b0
              try clear c13b1
              try clear p15
              try clear q15
              try clear hx15
              try clear c17
              try clear c19
              try clear c19b0
              try clear c20
              try clear c20b0
              try clear c21
              try clear c21b0
              try clear c22
              try clear c22b0
              try clear c23
              try clear c23b0
              try clear c23b1
              try clear c25
              try clear q29
              try clear hcz10_0
              try clear hcz10_1
              try clear hcz10_2
              try clear hcz10_3
              try clear hcz10_4
              try clear hcz14_0
              try clear hcz14_1
              try clear hcz14_2
              try clear hcz14_3
              try clear hcz14_4
              try clear hcz15_0
              try clear hcz15_1
              try clear hcz15_2
              try clear hcz15_3
              try clear hcz15_4
              try clear hcz16_0
              try clear hcz16_1
              try clear hcz16_2
              try clear hcz16_3
              try clear hcz16_4
              try clear hcz18_0
              try clear hcz18_1
              try clear hcz18_2
              try clear hcz18_3
              try clear hcz18_4
              try clear hcz26_0
              try clear hcz26_1
              try clear hcz28_0
              try clear hcz28_1
              try clear hcz28_2
              try clear hcz28_3
              try clear hcz28_4
              try clear hcz5_0
              try clear hcz5_1
              try clear hcz5_2
              try clear hcz5_3
              try clear hcz5_4
              try clear hcz6_0
              try clear hcz6_1
              try clear hcz6_2
              try clear hcz6_3
              try clear hcz6_4
              try clear hcz9_0
              try clear hcz9_1
              try clear hcz9_2
              try clear hcz9_3
              try clear hcz9_4
              try clear hfz10_0
              try clear hfz10_1
              try clear hfz10_2
              try clear hfz10_3
              try clear hfz10_4
              try clear hfz14_0
              try clear hfz14_1
              try clear hfz14_2
              try clear hfz14_3
              try clear hfz14_4
              try clear hfz15_0
              try clear hfz15_1
              try clear hfz15_2
              try clear hfz15_3
              try clear hfz15_4
              try clear hfz16_0
              try clear hfz16_1
              try clear hfz16_2
              try clear hfz16_3
              try clear hfz16_4
              try clear hfz18_0
              try clear hfz18_1
              try clear hfz18_2
              try clear hfz18_3
              try clear hfz18_4
              try clear hfz26_0
              try clear hfz26_1
              try clear hfz28_0
              try clear hfz28_1
              try clear hfz28_2
              try clear hfz28_3
              try clear hfz28_4
              try clear hfz5_0
              try clear hfz5_1
              try clear hfz5_2
              try clear hfz5_3
              try clear hfz5_4
              try clear hfz6_0
              try clear hfz6_1
              try clear hfz6_2
              try clear hfz6_3
              try clear hfz6_4
              try clear hfz9_0
              try clear hfz9_1
              try clear hfz9_2
              try clear hfz9_3
              try clear hfz9_4
              try clear hx154_0
              try clear hx154_1
              try clear p154
              try clear p2
              try clear q154
              try clear q29
              obtain ⟨x50_4, rfl, HA, HK4, BK153, BK155, HB⟩ := hrel
              cases gk with
              | zero => exact absurd HA.out (by simp [rows_row.l1])
              | succ k4 =>
               have H := HA.out
               clear HA
               simp only [rows_row.l1] at H
               by_cases c30 : x50_4 < (y156.length : Int)
               ·rw [if_pos c30] at H
                have c30b0 : decide (x50_4 < (y156.length : Int)) = true := decide_eq_true c30
                clear c30
                by_cases c31 : 0 ≤ x50_4
                ·rw [if_pos c31] at H
                 have c31b0 : decide (0 ≤ x50_4) = true := decide_eq_true c31
                 clear c31
                 by_cases c32 : x50_4 < (y156.length : Int)
                 ·rw [if_pos c32] at H
                  have c32b0 : decide (x50_4 < (y156.length : Int)) = true := decide_eq_true c32
                  clear c32
                  by_cases c33 : ((rd_T45 l0_4 x40_3).f0).toList = ((rd_T45 y156 x50_4).f0).toList
                  ·rw [if_pos c33] at H
                   have c33b0 : (((rd_T45 l0_4 x40_3).f0).toList == ((rd_T45 y156 x50_4).f0).toList) = true := beq_iff_eq.mpr c33
                   have c33b1 : (((rd_T45 l0_4 x40_3).f0).toList != ((rd_T45 y156 x50_4).f0).toList) = false := bne_eq_false_iff_eq.mpr c33
                   clear c33
                   obtain rfl := Option.some.inj H
                   have p160 : 0 ≤ (x50_4 : Int) := (by first | exact of_decide_eq_true (by first | (with_reducible assumption) | assumption) | assumption | omega)
                   have q160 : x50_4 < (y156.length : Int) := (by first | exact of_decide_eq_true (by first | (with_reducible assumption) | assumption) | assumption | omega)
                   obtain ⟨ad160, e160, hx160_0, hx160_1⟩ := at_T45 HR159.out x50_4 p160 q160
                   obtain rfl : ad154 = ad160 := (by injection e160)
                   replace hx160_0 := (HB.out.cell (World.block_lt_of_cell? w _ hx160_0)).trans hx160_0
                   replace hx160_1 := (HB.out.cell (World.block_lt_of_cell? w _ hx160_1)).trans hx160_1
                   replace p160 := eq_true p160
                   replace q160 := eq_true q160
                   go_wp2_with (first | ((with_reducible refine gate_dst (N := 6) rfl ?_); (try (refine gate_guard (by rfl) ?_; dsimp only)); refine box_event ?hg (N := 6) ?hd (cs := #[.string (⟨#[]⟩ : ByteArray), .string (⟨#[]⟩ : ByteArray)]) (t := 45) ?hr ?_; (case hd => rfl); (case hg => rfl); (case hr => first | (go_simp; done) | (go_simp; rfl)); intro gb161 hg w34 hbox hb; have n0_ := Aside0.mk (blk_below (g := gb153) (o := .cells #[.int .i64 a0_0, .int .i64 a0_1, .string a0_2, .string a0_3, .slice (some ad154) l0_4.length c0_4] 35 (0, 0)) (kz BK153.out) hb); have n1_ := Aside0.mk (blk_below (g := gb155) (o := .cells #[.string ((rd_T45 l0_4 x40_3).f0), .string ((rd_T45 l0_4 x40_3).f1)] 45 (0, 0)) (kz BK155.out) hb); have n2_ := Aside0.mk (below_step (by repeat (first | (with_reducible first | exact HB.out | apply below_alloc | apply pw_below_drewN | apply below_drew1 | refine below_set ?_ GE153.out | refine below_set ?_ GE155.out) | exact HB.out)) hb); have n3_ := Aside0.mk (hbox); have n4_ := Aside0.mk ((by rw [hg]; exact (below_size (by repeat (first | (with_reducible first | exact HB.out | apply below_alloc | apply pw_below_drewN | apply below_drew1 | refine below_set ?_ GE153.out | refine below_set ?_ GE155.out) | exact HB.out))) : w.heap.size ≤ gb161)); have n5_ := Aside0.mk ((by rw [hg]; exact (below_size (by repeat (first | (with_reducible first | exact HB.out | apply below_alloc | apply pw_below_drewN | apply below_drew1 | refine below_set ?_ GE153.out | refine below_set ?_ GE155.out) | exact HB.out))) : w.heap.size ≤ gb161)); have n6_ := Aside0.mk ((by rw [hg]; exact Nat.ne_of_lt (blk_lt (g := gb153) (o := .cells #[.int .i64 a0_0, .int .i64 a0_1, .string a0_2, .string a0_3, .slice (some ad154) l0_4.length c0_4] 35 (0, 0)) (kz BK153.out)) : gb153 ≠ gb161)); have n7_ := Aside0.mk ((by rw [hg]; exact Nat.ne_of_gt (blk_lt (g := gb153) (o := .cells #[.int .i64 a0_0, .int .i64 a0_1, .string a0_2, .string a0_3, .slice (some ad154) l0_4.length c0_4] 35 (0, 0)) (kz BK153.out)) : gb161 ≠ gb153)); have n8_ := Aside0.mk ((by rw [hg]; exact Nat.ne_of_lt (blk_lt (g := gb155) (o := .cells #[.string ((rd_T45 l0_4 x40_3).f0), .string ((rd_T45 l0_4 x40_3).f1)] 45 (0, 0)) (kz BK155.out)) : gb155 ≠ gb161)); have n9_ := Aside0.mk ((by rw [hg]; exact Nat.ne_of_gt (blk_lt (g := gb155) (o := .cells #[.string ((rd_T45 l0_4 x40_3).f0), .string ((rd_T45 l0_4 x40_3).f1)] 45 (0, 0)) (kz BK155.out)) : gb161 ≠ gb155)); clear BK153; clear BK155; clear HB; have BK153 := n0_; have BK155 := n1_; have HB := n2_; have BK161 := n3_; have GW161 := n4_; have GE161 := n5_; have NB153_161 := n6_; have NB161_153 := n7_; have NB155_161 := n8_; have NB161_155 := n9_; clear n0_ n1_ n2_ n3_ n4_ n5_ n6_ n7_ n8_ n9_; clear hb hbox hg; have hnb35 := NB161_153.out; have hnc35 := NB153_161.out; have hnb36 := NB161_155.out; have hnc36 := NB155_161.out; have hcz37_0 : w34.cell? ⟨gb161, 0, none⟩ = some (.string (⟨#[]⟩ : ByteArray)) := (blk_cell BK161.out 0).trans rfl; have hcz37_1 : w34.cell? ⟨gb161, 1, none⟩ = some (.string (⟨#[]⟩ : ByteArray)) := (blk_cell BK161.out 1).trans rfl; have hfz37_0 := blk_frozen BK161.out 0; have hfz37_1 := blk_frozen BK161.out 1; have hnb38 := NB155_153.out; have hnc38 := NB153_155.out; have hcz39_0 : w34.cell? ⟨gb155, 0, none⟩ = some (.string ((rd_T45 l0_4 x40_3).f0)) := (blk_cell BK155.out 0).trans rfl; have hcz39_1 : w34.cell? ⟨gb155, 1, none⟩ = some (.string ((rd_T45 l0_4 x40_3).f1)) := (blk_cell BK155.out 1).trans rfl; have hfz39_0 := blk_frozen BK155.out 0; have hfz39_1 := blk_frozen BK155.out 1))
                   go_ret
                   exact ⟨by first | rfl | (simp [errW_none, errW_some] <;> rfl) | (simp [*, errW_none, errW_some] <;> rfl), by repeat (first | (with_reducible first | exact HB.out | apply below_alloc | apply pw_below_drewN | apply below_drew1 | refine below_set ?_ GE153.out | refine below_set ?_ GE155.out | refine below_set ?_ GE161.out) | exact HB.out)⟩
                  ·rw [if_neg c33] at H
                   have c33b0 : (((rd_T45 l0_4 x40_3).f0).toList == ((rd_T45 y156 x50_4).f0).toList) = false := beq_eq_false_iff_ne.mpr c33
                   have c33b1 : (((rd_T45 l0_4 x40_3).f0).toList != ((rd_T45 y156 x50_4).f0).toList) = true := bne_iff_ne.mpr c33
                   have H' := Aside0.mk H
                   clear H
                   have p160 : 0 ≤ (x50_4 : Int) := (by first | exact of_decide_eq_true (by first | (with_reducible assumption) | assumption) | assumption | omega)
                   have q160 : x50_4 < (y156.length : Int) := (by first | exact of_decide_eq_true (by first | (with_reducible assumption) | assumption) | assumption | omega)
                   obtain ⟨ad160, e160, hx160_0, hx160_1⟩ := at_T45 HR159.out x50_4 p160 q160
                   obtain rfl : ad154 = ad160 := (by injection e160)
                   replace hx160_0 := (HB.out.cell (World.block_lt_of_cell? w _ hx160_0)).trans hx160_0
                   replace hx160_1 := (HB.out.cell (World.block_lt_of_cell? w _ hx160_1)).trans hx160_1
                   replace p160 := eq_true p160
                   replace q160 := eq_true q160
                   go_wp2_with (first | ((with_reducible refine gate_dst (N := 6) rfl ?_); (try (refine gate_guard (by rfl) ?_; dsimp only)); refine box_event ?hg (N := 6) ?hd (cs := #[.string (⟨#[]⟩ : ByteArray), .string (⟨#[]⟩ : ByteArray)]) (t := 45) ?hr ?_; (case hd => rfl); (case hg => rfl); (case hr => first | (go_simp; done) | (go_simp; rfl)); intro gb161 hg w40 hbox hb; have n0_ := Aside0.mk (blk_below (g := gb153) (o := .cells #[.int .i64 a0_0, .int .i64 a0_1, .string a0_2, .string a0_3, .slice (some ad154) l0_4.length c0_4] 35 (0, 0)) (kz BK153.out) hb); have n1_ := Aside0.mk (blk_below (g := gb155) (o := .cells #[.string ((rd_T45 l0_4 x40_3).f0), .string ((rd_T45 l0_4 x40_3).f1)] 45 (0, 0)) (kz BK155.out) hb); have n2_ := Aside0.mk (below_step (by repeat (first | (with_reducible first | exact HB.out | apply below_alloc | apply pw_below_drewN | apply below_drew1 | refine below_set ?_ GE153.out | refine below_set ?_ GE155.out) | exact HB.out)) hb); have n3_ := Aside0.mk (hbox); have n4_ := Aside0.mk ((by rw [hg]; exact (below_size (by repeat (first | (with_reducible first | exact HB.out | apply below_alloc | apply pw_below_drewN | apply below_drew1 | refine below_set ?_ GE153.out | refine below_set ?_ GE155.out) | exact HB.out))) : w.heap.size ≤ gb161)); have n5_ := Aside0.mk ((by rw [hg]; exact (below_size (by repeat (first | (with_reducible first | exact HB.out | apply below_alloc | apply pw_below_drewN | apply below_drew1 | refine below_set ?_ GE153.out | refine below_set ?_ GE155.out) | exact HB.out))) : w.heap.size ≤ gb161)); have n6_ := Aside0.mk ((by rw [hg]; exact Nat.ne_of_lt (blk_lt (g := gb153) (o := .cells #[.int .i64 a0_0, .int .i64 a0_1, .string a0_2, .string a0_3, .slice (some ad154) l0_4.length c0_4] 35 (0, 0)) (kz BK153.out)) : gb153 ≠ gb161)); have n7_ := Aside0.mk ((by rw [hg]; exact Nat.ne_of_gt (blk_lt (g := gb153) (o := .cells #[.int .i64 a0_0, .int .i64 a0_1, .string a0_2, .string a0_3, .slice (some ad154) l0_4.length c0_4] 35 (0, 0)) (kz BK153.out)) : gb161 ≠ gb153)); have n8_ := Aside0.mk ((by rw [hg]; exact Nat.ne_of_lt (blk_lt (g := gb155) (o := .cells #[.string ((rd_T45 l0_4 x40_3).f0), .string ((rd_T45 l0_4 x40_3).f1)] 45 (0, 0)) (kz BK155.out)) : gb155 ≠ gb161)); have n9_ := Aside0.mk ((by rw [hg]; exact Nat.ne_of_gt (blk_lt (g := gb155) (o := .cells #[.string ((rd_T45 l0_4 x40_3).f0), .string ((rd_T45 l0_4 x40_3).f1)] 45 (0, 0)) (kz BK155.out)) : gb161 ≠ gb155)); clear BK153; clear BK155; clear HB; have BK153 := n0_; have BK155 := n1_; have HB := n2_; have BK161 := n3_; have GW161 := n4_; have GE161 := n5_; have NB153_161 := n6_; have NB161_153 := n7_; have NB155_161 := n8_; have NB161_155 := n9_; clear n0_ n1_ n2_ n3_ n4_ n5_ n6_ n7_ n8_ n9_; clear hb hbox hg; have hnb41 := NB161_153.out; have hnc41 := NB153_161.out; have hnb42 := NB161_155.out; have hnc42 := NB155_161.out; have hcz43_0 : w40.cell? ⟨gb161, 0, none⟩ = some (.string (⟨#[]⟩ : ByteArray)) := (blk_cell BK161.out 0).trans rfl; have hcz43_1 : w40.cell? ⟨gb161, 1, none⟩ = some (.string (⟨#[]⟩ : ByteArray)) := (blk_cell BK161.out 1).trans rfl; have hfz43_0 := blk_frozen BK161.out 0; have hfz43_1 := blk_frozen BK161.out 1; have hnb44 := NB155_153.out; have hnc44 := NB153_155.out; have hcz45_0 : w40.cell? ⟨gb155, 0, none⟩ = some (.string ((rd_T45 l0_4 x40_3).f0)) := (blk_cell BK155.out 0).trans rfl; have hcz45_1 : w40.cell? ⟨gb155, 1, none⟩ = some (.string ((rd_T45 l0_4 x40_3).f1)) := (blk_cell BK155.out 1).trans rfl; have hfz45_0 := blk_frozen BK155.out 0; have hfz45_1 := blk_frozen BK155.out 1))
                   go_roundg k4
                   case measure => have := HJ1.out; have := HJ10.out; have := HK3.out; have := HK4.out; omega
                   case rel => exact ⟨(wrap64 (x50_4 + 1)), (by first | rfl | (simp; done) | (simp [*]; done) | (simp; generalize ByteArray.toList _ = l_; cases l_ <;> rfl)), H', ⟨by have := HJ1.out; have := HJ10.out; have := HK3.out; have := HK4.out; omega⟩, ⟨by (with_reducible repeat (first | refine blk_drewN ?_ _ | refine blk_drew ?_ | refine blk_alloc ?_ _)); refine blk_far ?_ NB153_161.out _; (with_reducible repeat (first | refine blk_drewN ?_ _ | refine blk_drew ?_ | refine blk_alloc ?_ _)); refine blk_far ?_ NB153_161.out _; (with_reducible repeat (first | refine blk_drewN ?_ _ | refine blk_drew ?_ | refine blk_alloc ?_ _)); exact BK153.out⟩, ⟨by (with_reducible repeat (first | refine blk_drewN ?_ _ | refine blk_drew ?_ | refine blk_alloc ?_ _)); refine blk_far ?_ NB155_161.out _; (with_reducible repeat (first | refine blk_drewN ?_ _ | refine blk_drew ?_ | refine blk_alloc ?_ _)); refine blk_far ?_ NB155_161.out _; (with_reducible repeat (first | refine blk_drewN ?_ _ | refine blk_drew ?_ | refine blk_alloc ?_ _)); exact BK155.out⟩, ⟨by repeat (first | (with_reducible first | exact HB.out | apply below_alloc | apply pw_below_drewN | apply below_drew1 | refine below_set ?_ GE153.out | refine below_set ?_ GE155.out | refine below_set ?_ GE161.out) | exact HB.out)⟩⟩
                 ·rw [if_neg c32] at H
                  exact absurd H (by simp)
                ·rw [if_neg c31] at H
                 exact absurd H (by simp)
               ·rw [if_neg c30] at H
                have c30b0 : decide (x50_4 < (y156.length : Int)) = false := decide_eq_false c30
                clear c30
                have H' := Aside0.mk H
                clear H
                go_wp2
                go_roundg k4
                case measure => have := HJ1.out; have := HJ10.out; have := HK3.out; have := HK4.out; omega
                case rel => exact ⟨(wrap64 (x40_3 + 1)), (by first | rfl | (simp; done) | (simp [*]; done) | (simp; generalize ByteArray.toList _ = l_; cases l_ <;> rfl)), H', ⟨by have := HJ1.out; have := HJ10.out; have := HK3.out; have := HK4.out; omega⟩, ⟨by (with_reducible repeat (first | refine blk_drewN ?_ _ | refine blk_drew ?_ | refine blk_alloc ?_ _)); exact BK153.out⟩, ⟨by repeat (first | (with_reducible first | exact HB.out | apply below_alloc | apply pw_below_drewN | apply below_drew1 | refine below_set ?_ GE153.out | refine below_set ?_ GE155.out) | exact HB.out)⟩⟩
            ·rw [if_neg c23] at H
             exact absurd H (by simp)
           ·rw [if_neg c21] at H
            exact absurd H (by simp)
          ·rw [if_neg c20] at H
           exact absurd H (by simp)
         ·rw [if_neg c19] at H
          have c19b0 : decide (x40_3 < (l0_4.length : Int)) = false := decide_eq_false c19
          clear c19
          obtain rfl := Option.some.inj H
          go_wp2
          go_ret
          exact ⟨by first | rfl | (simp [errW_none, errW_some] <;> rfl) | (simp [*, errW_none, errW_some] <;> rfl), bs GE153.out⟩
end Go.Proofs.YtdnbaliibiginaaDoorH.W8
