/- Lemmas and walks, part 29: QPW7x3, QR8B, QPW7x6, QPW7x7, QR8K, QE8K. -/
import Derived.Test.YtkcmghlhpbepcaaGreatDoorN83
import Derived.Test.YtkcmghlhpbepcaaGreatDoorN828
import Derived.Test.YtkcmghlhpbepcaaGreatDoorN814
import Derived.RangeFuncNested
import Derived.RangeFuncBound
import Derived.RangeFuncCalls
import Derived.RangeFuncLeaves
import Derived.RangeFuncBox
import Derived.Shelf.Abstract
import Derived.Shelf.RegionOpen
import Derived.WalkKit
import Derived.OwnWalkIn
import Derived.TacticsInMore
import Derived.LoopNIn
import Derived.LoopIn
import Derived.Maps.AppendAt
set_option linter.unusedVariables false
set_option linter.unusedSimpArgs false

/- Words and walks used below. -/
namespace Go.Proofs.YtkcmghlhpbepcaaGreatDoorH.W7
open Go.RowKit Go.Proofs.YtkcmghlhpbepcaaGreatDoorW.PrintWords Go.Proofs.YtkcmghlhpbepcaaGreatDoorW.PrintLast Go.Proofs.YtkcmghlhpbepcaaGreatDoorW.PrintMore
attribute [local go_sem] max2_int min2_int max_two min_two max_three min_three max_four min_four   -- for this text's walks alone
def rows_Same_1.f (k : Nat) (a0_0 : Int) (a0_1 : Int) (a0_2 : ByteArray) (a0_3 : ByteArray) (l0_4 : List (S36)) (a1_0 : Int) (a1_1 : Int) (a1_2 : ByteArray) (a1_3 : ByteArray) (l1_4 : List (S36)) : Option (Bool) := if a0_0 = a1_0 then (if a0_1 = a1_1 then (if a0_2.toList = a1_2.toList then (if a0_3.toList = a1_3.toList then ((rows_attrs.f k l0_4 l1_4).bind fun t105 => (some t105)) else (some false)) else (some false)) else (some false)) else (some false)
set_option maxHeartbeats 8000000 in
set_option maxRecDepth 100000 in
theorem rows_Same_1.calls (k : Nat) (a0_0 : Int) (a0_1 : Int) (a0_2 : ByteArray) (a0_3 : ByteArray) (A0_4 : Option Addr) (c0_4 : Nat) (l0_4 : List (S36)) (a1_0 : Int) (a1_1 : Int) (a1_2 : ByteArray) (a1_3 : ByteArray) (A1_4 : Option Addr) (c1_4 : Nat) (l1_4 : List (S36)) (r : Bool) (w : World) (hr0_4 : Kd.C k36 w A0_4 l0_4.length l0_4) (hc0_4 : l0_4.length ≤ c0_4) (hr1_4 : Kd.C k36 w A1_4 l1_4.length l1_4) (hc1_4 : l1_4.length ≤ c1_4) (h : rows_Same_1.f k a0_0 a0_1 a0_2 a0_3 l0_4 a1_0 a1_1 a1_2 a1_3 l1_4 = some r) :
 Calls Tryz.prog 87 #[.agg #[.int .i64 a0_0, .int .i64 a0_1, .string a0_2, .string a0_3, .slice A0_4 l0_4.length c0_4], .agg #[.int .i64 a1_0, .int .i64 a1_1, .string a1_2, .string a1_3, .slice A1_4 l1_4.length c1_4]] w fun e w' => e = .returned (.bool r) ∧ Below w.heap.size w w' := by
 have hu34 := Tryz.underlying34
 have HR0_4 := Aside0.mk hr0_4
 have HC0_4 := Aside0.mk hc0_4
 clear hr0_4 hc0_4
 have HR1_4 := Aside0.mk hr1_4
 have HC1_4 := Aside0.mk hc1_4
 clear hr1_4 hc1_4
 have HB := Aside0.mk (Below.refl w.heap.size w)
 have H : (if a0_0 = a1_0 then (if a0_1 = a1_1 then (if a0_2.toList = a1_2.toList then (if a0_3.toList = a1_3.toList then ((rows_attrs.f k l0_4 l1_4).bind fun t105 => (some t105)) else (some false)) else (some false)) else (some false)) else (some false)) = some r := h
 clear h
 by_cases c3 : a0_0 = a1_0
 ·rw [if_pos c3] at H
  have c3b0 : (a0_0 == a1_0) = true := beq_iff_eq.mpr c3
  have c3b1 : (a0_0 != a1_0) = false := bne_eq_false_iff_eq.mpr c3
  clear c3
  by_cases c4 : a0_1 = a1_1
  ·rw [if_pos c4] at H
   have c4b0 : (a0_1 == a1_1) = true := beq_iff_eq.mpr c4
   have c4b1 : (a0_1 != a1_1) = false := bne_eq_false_iff_eq.mpr c4
   clear c4
   by_cases c5 : a0_2.toList = a1_2.toList
   ·rw [if_pos c5] at H
    have c5b0 : (a0_2.toList == a1_2.toList) = true := beq_iff_eq.mpr c5
    have c5b1 : (a0_2.toList != a1_2.toList) = false := bne_eq_false_iff_eq.mpr c5
    clear c5
    by_cases c6 : a0_3.toList = a1_3.toList
    ·rw [if_pos c6] at H
     have c6b0 : (a0_3.toList == a1_3.toList) = true := beq_iff_eq.mpr c6
     have c6b1 : (a0_3.toList != a1_3.toList) = false := bne_eq_false_iff_eq.mpr c6
     clear c6
     replace H := Option.bind_eq_some_iff.mp H
     obtain ⟨t105, A70, H⟩ := H
     replace H : (some t105) = some r := H
     have A7 := Aside0.mk A70
     clear A70
     obtain rfl := Option.some.inj H
     go_enter Tryz.func87, Tryz.ntmps87
     go_wp2_with (first | ((with_reducible refine gate_dst (N := 2) rfl ?_); refine box_event ?hg (N := 2) ?hd (cs := #[.int .i64 a0_0, .int .i64 a0_1, .string a0_2, .string a0_3, .slice A0_4 l0_4.length c0_4]) (t := 34) ?hr ?_; (case hd => rfl); (case hg => rfl); (case hr => first | (go_simp; done) | (go_simp; rfl)); intro gb103 hg w8 hbox hb; have n0_ := Aside0.mk (below_step bz hb); have n1_ := Aside0.mk (hbox); have n2_ := Aside0.mk ((by rw [hg]; exact (below_size bz) : w.heap.size ≤ gb103)); have n3_ := Aside0.mk ((by rw [hg]; exact (below_size bz) : w.heap.size ≤ gb103)); clear HB; have HB := n0_; have BK103 := n1_; have GW103 := n2_; have GE103 := n3_; clear n0_ n1_ n2_ n3_; clear hb hbox hg) | ((with_reducible refine gate_dst (N := 3) rfl ?_); refine box_event ?hg (N := 3) ?hd (cs := #[.int .i64 a1_0, .int .i64 a1_1, .string a1_2, .string a1_3, .slice A1_4 l1_4.length c1_4]) (t := 34) ?hr ?_; (case hd => rfl); (case hg => rfl); (case hr => first | (go_simp; done) | (go_simp; rfl)); intro gb104 hg w9 hbox hb; have n0_ := Aside0.mk (blk_below (g := gb103) (o := .cells #[.int .i64 a0_0, .int .i64 a0_1, .string a0_2, .string a0_3, .slice A0_4 l0_4.length c0_4] 34 (0, 0)) (kz BK103.out) hb); have n1_ := Aside0.mk (below_step (bs GE103.out) hb); have n2_ := Aside0.mk (hbox); have n3_ := Aside0.mk ((by rw [hg]; exact (below_size (bs GE103.out)) : w.heap.size ≤ gb104)); have n4_ := Aside0.mk ((by rw [hg]; exact (below_size (bs GE103.out)) : w.heap.size ≤ gb104)); have n5_ := Aside0.mk ((by rw [hg]; exact Nat.ne_of_lt (blk_lt (g := gb103) (o := .cells #[.int .i64 a0_0, .int .i64 a0_1, .string a0_2, .string a0_3, .slice A0_4 l0_4.length c0_4] 34 (0, 0)) (kz BK103.out)) : gb103 ≠ gb104)); have n6_ := Aside0.mk ((by rw [hg]; exact Nat.ne_of_gt (blk_lt (g := gb103) (o := .cells #[.int .i64 a0_0, .int .i64 a0_1, .string a0_2, .string a0_3, .slice A0_4 l0_4.length c0_4] 34 (0, 0)) (kz BK103.out)) : gb104 ≠ gb103)); clear BK103; clear HB; have BK103 := n0_; have HB := n1_; have BK104 := n2_; have GW104 := n3_; have GE104 := n4_; have NB103_104 := n5_; have NB104_103 := n6_; clear n0_ n1_ n2_ n3_ n4_ n5_ n6_; clear hb hbox hg; have hnb10 := NB103_104.out; have hnc10 := NB104_103.out; have hcz11_0 : w9.cell? ⟨gb103, 0, none⟩ = some (.int .i64 a0_0) := (blk_cell BK103.out 0).trans rfl; have hcz11_1 : w9.cell? ⟨gb103, 1, none⟩ = some (.int .i64 a0_1) := (blk_cell BK103.out 1).trans rfl; have hcz11_2 : w9.cell? ⟨gb103, 2, none⟩ = some (.string a0_2) := (blk_cell BK103.out 2).trans rfl; have hcz11_3 : w9.cell? ⟨gb103, 3, none⟩ = some (.string a0_3) := (blk_cell BK103.out 3).trans rfl; have hcz11_4 : w9.cell? ⟨gb103, 4, none⟩ = some (.slice A0_4 l0_4.length c0_4) := (blk_cell BK103.out 4).trans rfl; have hfz11_0 := blk_frozen BK103.out 0; have hfz11_1 := blk_frozen BK103.out 1; have hfz11_2 := blk_frozen BK103.out 2; have hfz11_3 := blk_frozen BK103.out 3; have hfz11_4 := blk_frozen BK103.out 4; have hcz12_0 : w9.cell? ⟨gb104, 0, none⟩ = some (.int .i64 a1_0) := (blk_cell BK104.out 0).trans rfl; have hcz12_1 : w9.cell? ⟨gb104, 1, none⟩ = some (.int .i64 a1_1) := (blk_cell BK104.out 1).trans rfl; have hcz12_2 : w9.cell? ⟨gb104, 2, none⟩ = some (.string a1_2) := (blk_cell BK104.out 2).trans rfl; have hcz12_3 : w9.cell? ⟨gb104, 3, none⟩ = some (.string a1_3) := (blk_cell BK104.out 3).trans rfl; have hcz12_4 : w9.cell? ⟨gb104, 4, none⟩ = some (.slice A1_4 l1_4.length c1_4) := (blk_cell BK104.out 4).trans rfl; have hfz12_0 := blk_frozen BK104.out 0; have hfz12_1 := blk_frozen BK104.out 1; have hfz12_2 := blk_frozen BK104.out 2; have hfz12_3 := blk_frozen BK104.out 3; have hfz12_4 := blk_frozen BK104.out 4) | (go_at_call 88; (with_reducible refine (rows_attrs.calls k _ _ l0_4 _ _ l1_4 t105 _ ?side1 ?side2 ?side3 ?side4 A7.out).mono ?_); (case side1 => exact cz (Kd.C_below HR0_4.out HB.out)); (case side2 => exact HC0_4.out); (case side3 => exact cz (Kd.C_below HR1_4.out HB.out)); (case side4 => exact HC1_4.out); rintro e w13 ⟨rfl, hb⟩; have n0_ := Aside0.mk (blk_below (g := gb103) (o := .cells #[.int .i64 a0_0, .int .i64 a0_1, .string a0_2, .string a0_3, .slice A0_4 l0_4.length c0_4] 34 (0, 0)) (kz BK103.out) hb); have n1_ := Aside0.mk (blk_below (g := gb104) (o := .cells #[.int .i64 a1_0, .int .i64 a1_1, .string a1_2, .string a1_3, .slice A1_4 l1_4.length c1_4] 34 (0, 0)) (kz BK104.out) hb); have n2_ := Aside0.mk (below_step (by repeat (first | (with_reducible first | exact HB.out | apply below_alloc | apply pw_below_drewN | apply below_drew1 | refine below_set ?_ GE103.out | refine below_set ?_ GE104.out) | exact HB.out)) hb); clear BK103; clear BK104; clear HB; have BK103 := n0_; have BK104 := n1_; have HB := n2_; clear n0_ n1_ n2_; (try clear hb); (try clear hb2); (try clear hk); (try clear hi)))
     go_ret
     exact ⟨by first | rfl | (simp [errW_none, errW_some] <;> rfl) | (simp [*, errW_none, errW_some] <;> rfl), by repeat (first | (with_reducible first | exact HB.out | apply below_alloc | apply pw_below_drewN | apply below_drew1 | refine below_set ?_ GE103.out | refine below_set ?_ GE104.out) | exact HB.out)⟩
    ·rw [if_neg c6] at H
     have c6b0 : (a0_3.toList == a1_3.toList) = false := beq_eq_false_iff_ne.mpr c6
     have c6b1 : (a0_3.toList != a1_3.toList) = true := bne_iff_ne.mpr c6
     obtain rfl := Option.some.inj H
     go_enter Tryz.func87, Tryz.ntmps87
     go_wp2_with (first | ((with_reducible refine gate_dst (N := 2) rfl ?_); refine box_event ?hg (N := 2) ?hd (cs := #[.int .i64 a0_0, .int .i64 a0_1, .string a0_2, .string a0_3, .slice A0_4 l0_4.length c0_4]) (t := 34) ?hr ?_; (case hd => rfl); (case hg => rfl); (case hr => first | (go_simp; done) | (go_simp; rfl)); intro gb103 hg w14 hbox hb; have n0_ := Aside0.mk (below_step bz hb); have n1_ := Aside0.mk (hbox); have n2_ := Aside0.mk ((by rw [hg]; exact (below_size bz) : w.heap.size ≤ gb103)); have n3_ := Aside0.mk ((by rw [hg]; exact (below_size bz) : w.heap.size ≤ gb103)); clear HB; have HB := n0_; have BK103 := n1_; have GW103 := n2_; have GE103 := n3_; clear n0_ n1_ n2_ n3_; clear hb hbox hg) | ((with_reducible refine gate_dst (N := 3) rfl ?_); refine box_event ?hg (N := 3) ?hd (cs := #[.int .i64 a1_0, .int .i64 a1_1, .string a1_2, .string a1_3, .slice A1_4 l1_4.length c1_4]) (t := 34) ?hr ?_; (case hd => rfl); (case hg => rfl); (case hr => first | (go_simp; done) | (go_simp; rfl)); intro gb104 hg w15 hbox hb; have n0_ := Aside0.mk (blk_below (g := gb103) (o := .cells #[.int .i64 a0_0, .int .i64 a0_1, .string a0_2, .string a0_3, .slice A0_4 l0_4.length c0_4] 34 (0, 0)) (kz BK103.out) hb); have n1_ := Aside0.mk (below_step (bs GE103.out) hb); have n2_ := Aside0.mk (hbox); have n3_ := Aside0.mk ((by rw [hg]; exact (below_size (bs GE103.out)) : w.heap.size ≤ gb104)); have n4_ := Aside0.mk ((by rw [hg]; exact (below_size (bs GE103.out)) : w.heap.size ≤ gb104)); have n5_ := Aside0.mk ((by rw [hg]; exact Nat.ne_of_lt (blk_lt (g := gb103) (o := .cells #[.int .i64 a0_0, .int .i64 a0_1, .string a0_2, .string a0_3, .slice A0_4 l0_4.length c0_4] 34 (0, 0)) (kz BK103.out)) : gb103 ≠ gb104)); have n6_ := Aside0.mk ((by rw [hg]; exact Nat.ne_of_gt (blk_lt (g := gb103) (o := .cells #[.int .i64 a0_0, .int .i64 a0_1, .string a0_2, .string a0_3, .slice A0_4 l0_4.length c0_4] 34 (0, 0)) (kz BK103.out)) : gb104 ≠ gb103)); clear BK103; clear HB; have BK103 := n0_; have HB := n1_; have BK104 := n2_; have GW104 := n3_; have GE104 := n4_; have NB103_104 := n5_; have NB104_103 := n6_; clear n0_ n1_ n2_ n3_ n4_ n5_ n6_; clear hb hbox hg; have hnb16 := NB103_104.out; have hnc16 := NB104_103.out; have hcz17_0 : w15.cell? ⟨gb103, 0, none⟩ = some (.int .i64 a0_0) := (blk_cell BK103.out 0).trans rfl; have hcz17_1 : w15.cell? ⟨gb103, 1, none⟩ = some (.int .i64 a0_1) := (blk_cell BK103.out 1).trans rfl; have hcz17_2 : w15.cell? ⟨gb103, 2, none⟩ = some (.string a0_2) := (blk_cell BK103.out 2).trans rfl; have hcz17_3 : w15.cell? ⟨gb103, 3, none⟩ = some (.string a0_3) := (blk_cell BK103.out 3).trans rfl; have hcz17_4 : w15.cell? ⟨gb103, 4, none⟩ = some (.slice A0_4 l0_4.length c0_4) := (blk_cell BK103.out 4).trans rfl; have hfz17_0 := blk_frozen BK103.out 0; have hfz17_1 := blk_frozen BK103.out 1; have hfz17_2 := blk_frozen BK103.out 2; have hfz17_3 := blk_frozen BK103.out 3; have hfz17_4 := blk_frozen BK103.out 4; have hcz18_0 : w15.cell? ⟨gb104, 0, none⟩ = some (.int .i64 a1_0) := (blk_cell BK104.out 0).trans rfl; have hcz18_1 : w15.cell? ⟨gb104, 1, none⟩ = some (.int .i64 a1_1) := (blk_cell BK104.out 1).trans rfl; have hcz18_2 : w15.cell? ⟨gb104, 2, none⟩ = some (.string a1_2) := (blk_cell BK104.out 2).trans rfl; have hcz18_3 : w15.cell? ⟨gb104, 3, none⟩ = some (.string a1_3) := (blk_cell BK104.out 3).trans rfl; have hcz18_4 : w15.cell? ⟨gb104, 4, none⟩ = some (.slice A1_4 l1_4.length c1_4) := (blk_cell BK104.out 4).trans rfl; have hfz18_0 := blk_frozen BK104.out 0; have hfz18_1 := blk_frozen BK104.out 1; have hfz18_2 := blk_frozen BK104.out 2; have hfz18_3 := blk_frozen BK104.out 3; have hfz18_4 := blk_frozen BK104.out 4))
     go_ret
     exact ⟨by first | rfl | (simp [errW_none, errW_some] <;> rfl) | (simp [*, errW_none, errW_some] <;> rfl), by repeat (first | (with_reducible first | exact HB.out | apply below_alloc | apply pw_below_drewN | apply below_drew1 | refine below_set ?_ GE103.out | refine below_set ?_ GE104.out) | exact HB.out)⟩
   ·rw [if_neg c5] at H
    have c5b0 : (a0_2.toList == a1_2.toList) = false := beq_eq_false_iff_ne.mpr c5
    have c5b1 : (a0_2.toList != a1_2.toList) = true := bne_iff_ne.mpr c5
    obtain rfl := Option.some.inj H
    go_enter Tryz.func87, Tryz.ntmps87
    go_wp2_with (first | ((with_reducible refine gate_dst (N := 2) rfl ?_); refine box_event ?hg (N := 2) ?hd (cs := #[.int .i64 a0_0, .int .i64 a0_1, .string a0_2, .string a0_3, .slice A0_4 l0_4.length c0_4]) (t := 34) ?hr ?_; (case hd => rfl); (case hg => rfl); (case hr => first | (go_simp; done) | (go_simp; rfl)); intro gb103 hg w19 hbox hb; have n0_ := Aside0.mk (below_step bz hb); have n1_ := Aside0.mk (hbox); have n2_ := Aside0.mk ((by rw [hg]; exact (below_size bz) : w.heap.size ≤ gb103)); have n3_ := Aside0.mk ((by rw [hg]; exact (below_size bz) : w.heap.size ≤ gb103)); clear HB; have HB := n0_; have BK103 := n1_; have GW103 := n2_; have GE103 := n3_; clear n0_ n1_ n2_ n3_; clear hb hbox hg) | ((with_reducible refine gate_dst (N := 3) rfl ?_); refine box_event ?hg (N := 3) ?hd (cs := #[.int .i64 a1_0, .int .i64 a1_1, .string a1_2, .string a1_3, .slice A1_4 l1_4.length c1_4]) (t := 34) ?hr ?_; (case hd => rfl); (case hg => rfl); (case hr => first | (go_simp; done) | (go_simp; rfl)); intro gb104 hg w20 hbox hb; have n0_ := Aside0.mk (blk_below (g := gb103) (o := .cells #[.int .i64 a0_0, .int .i64 a0_1, .string a0_2, .string a0_3, .slice A0_4 l0_4.length c0_4] 34 (0, 0)) (kz BK103.out) hb); have n1_ := Aside0.mk (below_step (bs GE103.out) hb); have n2_ := Aside0.mk (hbox); have n3_ := Aside0.mk ((by rw [hg]; exact (below_size (bs GE103.out)) : w.heap.size ≤ gb104)); have n4_ := Aside0.mk ((by rw [hg]; exact (below_size (bs GE103.out)) : w.heap.size ≤ gb104)); have n5_ := Aside0.mk ((by rw [hg]; exact Nat.ne_of_lt (blk_lt (g := gb103) (o := .cells #[.int .i64 a0_0, .int .i64 a0_1, .string a0_2, .string a0_3, .slice A0_4 l0_4.length c0_4] 34 (0, 0)) (kz BK103.out)) : gb103 ≠ gb104)); have n6_ := Aside0.mk ((by rw [hg]; exact Nat.ne_of_gt (blk_lt (g := gb103) (o := .cells #[.int .i64 a0_0, .int .i64 a0_1, .string a0_2, .string a0_3, .slice A0_4 l0_4.length c0_4] 34 (0, 0)) (kz BK103.out)) : gb104 ≠ gb103)); clear BK103; clear HB; have BK103 := n0_; have HB := n1_; have BK104 := n2_; have GW104 := n3_; have GE104 := n4_; have NB103_104 := n5_; have NB104_103 := n6_; clear n0_ n1_ n2_ n3_ n4_ n5_ n6_; clear hb hbox hg; have hnb21 := NB103_104.out; have hnc21 := NB104_103.out; have hcz22_0 : w20.cell? ⟨gb103, 0, none⟩ = some (.int .i64 a0_0) := (blk_cell BK103.out 0).trans rfl; have hcz22_1 : w20.cell? ⟨gb103, 1, none⟩ = some (.int .i64 a0_1) := (blk_cell BK103.out 1).trans rfl; have hcz22_2 : w20.cell? ⟨gb103, 2, none⟩ = some (.string a0_2) := (blk_cell BK103.out 2).trans rfl; have hcz22_3 : w20.cell? ⟨gb103, 3, none⟩ = some (.string a0_3) := (blk_cell BK103.out 3).trans rfl; have hcz22_4 : w20.cell? ⟨gb103, 4, none⟩ = some (.slice A0_4 l0_4.length c0_4) := (blk_cell BK103.out 4).trans rfl; have hfz22_0 := blk_frozen BK103.out 0; have hfz22_1 := blk_frozen BK103.out 1; have hfz22_2 := blk_frozen BK103.out 2; have hfz22_3 := blk_frozen BK103.out 3; have hfz22_4 := blk_frozen BK103.out 4; have hcz23_0 : w20.cell? ⟨gb104, 0, none⟩ = some (.int .i64 a1_0) := (blk_cell BK104.out 0).trans rfl; have hcz23_1 : w20.cell? ⟨gb104, 1, none⟩ = some (.int .i64 a1_1) := (blk_cell BK104.out 1).trans rfl; have hcz23_2 : w20.cell? ⟨gb104, 2, none⟩ = some (.string a1_2) := (blk_cell BK104.out 2).trans rfl; have hcz23_3 : w20.cell? ⟨gb104, 3, none⟩ = some (.string a1_3) := (blk_cell BK104.out 3).trans rfl; have hcz23_4 : w20.cell? ⟨gb104, 4, none⟩ = some (.slice A1_4 l1_4.length c1_4) := (blk_cell BK104.out 4).trans rfl; have hfz23_0 := blk_frozen BK104.out 0; have hfz23_1 := blk_frozen BK104.out 1; have hfz23_2 := blk_frozen BK104.out 2; have hfz23_3 := blk_frozen BK104.out 3; have hfz23_4 := blk_frozen BK104.out 4))
    go_ret
    exact ⟨by first | rfl | (simp [errW_none, errW_some] <;> rfl) | (simp [*, errW_none, errW_some] <;> rfl), by repeat (first | (with_reducible first | exact HB.out | apply below_alloc | apply pw_below_drewN | apply below_drew1 | refine below_set ?_ GE103.out | refine below_set ?_ GE104.out) | exact HB.out)⟩
  ·rw [if_neg c4] at H
   have c4b0 : (a0_1 == a1_1) = false := beq_eq_false_iff_ne.mpr c4
   have c4b1 : (a0_1 != a1_1) = true := bne_iff_ne.mpr c4
   obtain rfl := Option.some.inj H
   go_enter Tryz.func87, Tryz.ntmps87
   go_wp2_with (first | ((with_reducible refine gate_dst (N := 2) rfl ?_); refine box_event ?hg (N := 2) ?hd (cs := #[.int .i64 a0_0, .int .i64 a0_1, .string a0_2, .string a0_3, .slice A0_4 l0_4.length c0_4]) (t := 34) ?hr ?_; (case hd => rfl); (case hg => rfl); (case hr => first | (go_simp; done) | (go_simp; rfl)); intro gb103 hg w24 hbox hb; have n0_ := Aside0.mk (below_step bz hb); have n1_ := Aside0.mk (hbox); have n2_ := Aside0.mk ((by rw [hg]; exact (below_size bz) : w.heap.size ≤ gb103)); have n3_ := Aside0.mk ((by rw [hg]; exact (below_size bz) : w.heap.size ≤ gb103)); clear HB; have HB := n0_; have BK103 := n1_; have GW103 := n2_; have GE103 := n3_; clear n0_ n1_ n2_ n3_; clear hb hbox hg) | ((with_reducible refine gate_dst (N := 3) rfl ?_); refine box_event ?hg (N := 3) ?hd (cs := #[.int .i64 a1_0, .int .i64 a1_1, .string a1_2, .string a1_3, .slice A1_4 l1_4.length c1_4]) (t := 34) ?hr ?_; (case hd => rfl); (case hg => rfl); (case hr => first | (go_simp; done) | (go_simp; rfl)); intro gb104 hg w25 hbox hb; have n0_ := Aside0.mk (blk_below (g := gb103) (o := .cells #[.int .i64 a0_0, .int .i64 a0_1, .string a0_2, .string a0_3, .slice A0_4 l0_4.length c0_4] 34 (0, 0)) (kz BK103.out) hb); have n1_ := Aside0.mk (below_step (bs GE103.out) hb); have n2_ := Aside0.mk (hbox); have n3_ := Aside0.mk ((by rw [hg]; exact (below_size (bs GE103.out)) : w.heap.size ≤ gb104)); have n4_ := Aside0.mk ((by rw [hg]; exact (below_size (bs GE103.out)) : w.heap.size ≤ gb104)); have n5_ := Aside0.mk ((by rw [hg]; exact Nat.ne_of_lt (blk_lt (g := gb103) (o := .cells #[.int .i64 a0_0, .int .i64 a0_1, .string a0_2, .string a0_3, .slice A0_4 l0_4.length c0_4] 34 (0, 0)) (kz BK103.out)) : gb103 ≠ gb104)); have n6_ := Aside0.mk ((by rw [hg]; exact Nat.ne_of_gt (blk_lt (g := gb103) (o := .cells #[.int .i64 a0_0, .int .i64 a0_1, .string a0_2, .string a0_3, .slice A0_4 l0_4.length c0_4] 34 (0, 0)) (kz BK103.out)) : gb104 ≠ gb103)); clear BK103; clear HB; have BK103 := n0_; have HB := n1_; have BK104 := n2_; have GW104 := n3_; have GE104 := n4_; have NB103_104 := n5_; have NB104_103 := n6_; clear n0_ n1_ n2_ n3_ n4_ n5_ n6_; clear hb hbox hg; have hnb26 := NB103_104.out; have hnc26 := NB104_103.out; have hcz27_0 : w25.cell? ⟨gb103, 0, none⟩ = some (.int .i64 a0_0) := (blk_cell BK103.out 0).trans rfl; have hcz27_1 : w25.cell? ⟨gb103, 1, none⟩ = some (.int .i64 a0_1) := (blk_cell BK103.out 1).trans rfl; have hcz27_2 : w25.cell? ⟨gb103, 2, none⟩ = some (.string a0_2) := (blk_cell BK103.out 2).trans rfl; have hcz27_3 : w25.cell? ⟨gb103, 3, none⟩ = some (.string a0_3) := (blk_cell BK103.out 3).trans rfl; have hcz27_4 : w25.cell? ⟨gb103, 4, none⟩ = some (.slice A0_4 l0_4.length c0_4) := (blk_cell BK103.out 4).trans rfl; have hfz27_0 := blk_frozen BK103.out 0; have hfz27_1 := blk_frozen BK103.out 1; have hfz27_2 := blk_frozen BK103.out 2; have hfz27_3 := blk_frozen BK103.out 3; have hfz27_4 := blk_frozen BK103.out 4; have hcz28_0 : w25.cell? ⟨gb104, 0, none⟩ = some (.int .i64 a1_0) := (blk_cell BK104.out 0).trans rfl; have hcz28_1 : w25.cell? ⟨gb104, 1, none⟩ = some (.int .i64 a1_1) := (blk_cell BK104.out 1).trans rfl; have hcz28_2 : w25.cell? ⟨gb104, 2, none⟩ = some (.string a1_2) := (blk_cell BK104.out 2).trans rfl; have hcz28_3 : w25.cell? ⟨gb104, 3, none⟩ = some (.string a1_3) := (blk_cell BK104.out 3).trans rfl; have hcz28_4 : w25.cell? ⟨gb104, 4, none⟩ = some (.slice A1_4 l1_4.length c1_4) := (blk_cell BK104.out 4).trans rfl; have hfz28_0 := blk_frozen BK104.out 0; have hfz28_1 := blk_frozen BK104.out 1; have hfz28_2 := blk_frozen BK104.out 2; have hfz28_3 := blk_frozen BK104.out 3; have hfz28_4 := blk_frozen BK104.out 4))
   go_ret
   exact ⟨by first | rfl | (simp [errW_none, errW_some] <;> rfl) | (simp [*, errW_none, errW_some] <;> rfl), by repeat (first | (with_reducible first | exact HB.out | apply below_alloc | apply pw_below_drewN | apply below_drew1 | refine below_set ?_ GE103.out | refine below_set ?_ GE104.out) | exact HB.out)⟩
 ·rw [if_neg c3] at H
  have c3b0 : (a0_0 == a1_0) = false := beq_eq_false_iff_ne.mpr c3
  have c3b1 : (a0_0 != a1_0) = true := bne_iff_ne.mpr c3
  obtain rfl := Option.some.inj H
  go_enter Tryz.func87, Tryz.ntmps87
  go_wp2_with (first | ((with_reducible refine gate_dst (N := 2) rfl ?_); refine box_event ?hg (N := 2) ?hd (cs := #[.int .i64 a0_0, .int .i64 a0_1, .string a0_2, .string a0_3, .slice A0_4 l0_4.length c0_4]) (t := 34) ?hr ?_; (case hd => rfl); (case hg => rfl); (case hr => first | (go_simp; done) | (go_simp; rfl)); intro gb103 hg w29 hbox hb; have n0_ := Aside0.mk (below_step bz hb); have n1_ := Aside0.mk (hbox); have n2_ := Aside0.mk ((by rw [hg]; exact (below_size bz) : w.heap.size ≤ gb103)); have n3_ := Aside0.mk ((by rw [hg]; exact (below_size bz) : w.heap.size ≤ gb103)); clear HB; have HB := n0_; have BK103 := n1_; have GW103 := n2_; have GE103 := n3_; clear n0_ n1_ n2_ n3_; clear hb hbox hg) | ((with_reducible refine gate_dst (N := 3) rfl ?_); refine box_event ?hg (N := 3) ?hd (cs := #[.int .i64 a1_0, .int .i64 a1_1, .string a1_2, .string a1_3, .slice A1_4 l1_4.length c1_4]) (t := 34) ?hr ?_; (case hd => rfl); (case hg => rfl); (case hr => first | (go_simp; done) | (go_simp; rfl)); intro gb104 hg w30 hbox hb; have n0_ := Aside0.mk (blk_below (g := gb103) (o := .cells #[.int .i64 a0_0, .int .i64 a0_1, .string a0_2, .string a0_3, .slice A0_4 l0_4.length c0_4] 34 (0, 0)) (kz BK103.out) hb); have n1_ := Aside0.mk (below_step (bs GE103.out) hb); have n2_ := Aside0.mk (hbox); have n3_ := Aside0.mk ((by rw [hg]; exact (below_size (bs GE103.out)) : w.heap.size ≤ gb104)); have n4_ := Aside0.mk ((by rw [hg]; exact (below_size (bs GE103.out)) : w.heap.size ≤ gb104)); have n5_ := Aside0.mk ((by rw [hg]; exact Nat.ne_of_lt (blk_lt (g := gb103) (o := .cells #[.int .i64 a0_0, .int .i64 a0_1, .string a0_2, .string a0_3, .slice A0_4 l0_4.length c0_4] 34 (0, 0)) (kz BK103.out)) : gb103 ≠ gb104)); have n6_ := Aside0.mk ((by rw [hg]; exact Nat.ne_of_gt (blk_lt (g := gb103) (o := .cells #[.int .i64 a0_0, .int .i64 a0_1, .string a0_2, .string a0_3, .slice A0_4 l0_4.length c0_4] 34 (0, 0)) (kz BK103.out)) : gb104 ≠ gb103)); clear BK103; clear HB; have BK103 := n0_; have HB := n1_; have BK104 := n2_; have GW104 := n3_; have GE104 := n4_; have NB103_104 := n5_; have NB104_103 := n6_; clear n0_ n1_ n2_ n3_ n4_ n5_ n6_; clear hb hbox hg; have hnb31 := NB103_104.out; have hnc31 := NB104_103.out; have hcz32_0 : w30.cell? ⟨gb103, 0, none⟩ = some (.int .i64 a0_0) := (blk_cell BK103.out 0).trans rfl; have hcz32_1 : w30.cell? ⟨gb103, 1, none⟩ = some (.int .i64 a0_1) := (blk_cell BK103.out 1).trans rfl; have hcz32_2 : w30.cell? ⟨gb103, 2, none⟩ = some (.string a0_2) := (blk_cell BK103.out 2).trans rfl; have hcz32_3 : w30.cell? ⟨gb103, 3, none⟩ = some (.string a0_3) := (blk_cell BK103.out 3).trans rfl; have hcz32_4 : w30.cell? ⟨gb103, 4, none⟩ = some (.slice A0_4 l0_4.length c0_4) := (blk_cell BK103.out 4).trans rfl; have hfz32_0 := blk_frozen BK103.out 0; have hfz32_1 := blk_frozen BK103.out 1; have hfz32_2 := blk_frozen BK103.out 2; have hfz32_3 := blk_frozen BK103.out 3; have hfz32_4 := blk_frozen BK103.out 4; have hcz33_0 : w30.cell? ⟨gb104, 0, none⟩ = some (.int .i64 a1_0) := (blk_cell BK104.out 0).trans rfl; have hcz33_1 : w30.cell? ⟨gb104, 1, none⟩ = some (.int .i64 a1_1) := (blk_cell BK104.out 1).trans rfl; have hcz33_2 : w30.cell? ⟨gb104, 2, none⟩ = some (.string a1_2) := (blk_cell BK104.out 2).trans rfl; have hcz33_3 : w30.cell? ⟨gb104, 3, none⟩ = some (.string a1_3) := (blk_cell BK104.out 3).trans rfl; have hcz33_4 : w30.cell? ⟨gb104, 4, none⟩ = some (.slice A1_4 l1_4.length c1_4) := (blk_cell BK104.out 4).trans rfl; have hfz33_0 := blk_frozen BK104.out 0; have hfz33_1 := blk_frozen BK104.out 1; have hfz33_2 := blk_frozen BK104.out 2; have hfz33_3 := blk_frozen BK104.out 3; have hfz33_4 := blk_frozen BK104.out 4))
  go_ret
  exact ⟨by first | rfl | (simp [errW_none, errW_some] <;> rfl) | (simp [*, errW_none, errW_some] <;> rfl), by repeat (first | (with_reducible first | exact HB.out | apply below_alloc | apply pw_below_drewN | apply below_drew1 | refine below_set ?_ GE103.out | refine below_set ?_ GE104.out) | exact HB.out)⟩
end Go.Proofs.YtkcmghlhpbepcaaGreatDoorH.W7

/- Contract of rows.Same: whether rows are the same. Nothing that lay in memory turns. -/
namespace Go.Proofs.YtkcmghlhpbepcaaGreatDoorH.W7
open Go.RowKit Go.Proofs Go.Proofs.YtkcmghlhpbepcaaGreatDoor
theorem cell_al8 {w : World} {a : Addr} {v : Value} (h : w.cell? a = some v) : ∀ o, (w.alloc o).cell? a = some v := fun o => cell_keep h ((Below.refl _ w).alloc (Nat.le_refl _) o)
structure Rr where
 depth : Int
 kind : Int
 name : Txt
 data : Txt
 attrs : List (Txt × Txt)
 deriving DecidableEq
def prS (a : S36) : Txt × Txt := (a.f0.data.toList, a.f1.data.toList)
def rowS (x : Rw) : Rr := ⟨x.f0, x.f1, x.f2.data.toList, x.f3.data.toList, x.f4.map prS⟩
theorem w64 {x : Int} (h0 : -9223372036854775808 ≤ x) (h1 : x ≤ 9223372036854775807) : wrap64 x = x := by unfold wrap64; omega
theorem bytes_iff (a b : ByteArray) : a.toList = b.toList ↔ a.data.toList = b.data.toList := by rw [Lib.toList_data, Lib.toList_data]
theorem bytes_beq (a b : ByteArray) : (a.toList == b.toList) = (a.data.toList == b.data.toList) := by rw [Lib.toList_data, Lib.toList_data]
theorem attrs_l0 (xs ys : List S36) (hx : xs.length ≤ 9223372036854775807) (hy : ys.length ≤ 9223372036854775807) : ∀ (d i k : Nat), min xs.length ys.length - i ≤ d → i ≤ min xs.length ys.length → d < k →
 rows_attrs.l0 k xs ys ((min xs.length ys.length : Nat) : Int) i = some (decide ((xs.drop i).map prS = (ys.drop i).map prS)) := by
 intro d
 induction d with
 | zero =>
   intro i k hd hi hk
   obtain ⟨k, rfl⟩ : ∃ m, k = m + 1 := ⟨k - 1, by omega⟩
   simp only [rows_attrs.l0]
   rw [if_neg (by omega)]
   by_cases h : xs.length = ys.length
   ·rw [List.drop_of_length_le (by omega), List.drop_of_length_le (by omega)]
    simp [h]
   ·have e1 : ((xs.length : Int) == (ys.length : Int)) = false := by rw [beq_eq_false_iff_ne]; omega
    have e2 : ¬ (xs.drop i).map prS = (ys.drop i).map prS := fun e => by have := congrArg List.length e; simp at this; omega
    rw [e1, decide_eq_false e2]
 | succ d ih =>
   intro i k hd hi hk
   obtain ⟨k, rfl⟩ : ∃ m, k = m + 1 := ⟨k - 1, by omega⟩
   by_cases hlt : i < min xs.length ys.length
   ·have hxi : i < xs.length := by omega
    have hyi : i < ys.length := by omega
    have ex : rd_T36 xs i = xs[i] := by simp [rd_T36, hxi]
    have ey : rd_T36 ys i = ys[i] := by simp [rd_T36, hyi]
    simp only [rows_attrs.l0]
    rw [if_pos (by omega), if_pos (by omega), if_pos (by omega), if_pos (by omega), ex, ey, bytes_beq, bytes_beq, List.drop_eq_getElem_cons hxi, List.drop_eq_getElem_cons hyi, List.map_cons, List.map_cons]
    by_cases he : prS xs[i] = prS ys[i]
    ·have h1 : (xs[i].f0.data.toList == ys[i].f0.data.toList) = true := by rw [beq_iff_eq]; exact congrArg Prod.fst he
     have h2 : (xs[i].f1.data.toList == ys[i].f1.data.toList) = true := by rw [beq_iff_eq]; exact congrArg Prod.snd he
     rw [h1, h2]
     simp only [Bool.not_true, Bool.or_self, Bool.false_eq_true, if_false]
     rw [show wrap64 ((i : Int) + 1) = ((i + 1 : Nat) : Int) from by rw [w64 (by omega) (by omega)]; omega, ih (i + 1) k (by omega) (by omega) (by omega), he]
     congr 1
     simp
    ·have h1 : (!(xs[i].f0.data.toList == ys[i].f0.data.toList) || !(xs[i].f1.data.toList == ys[i].f1.data.toList)) = true := by
      by_cases h2 : xs[i].f0.data.toList = ys[i].f0.data.toList
      ·have h3 : ¬ xs[i].f1.data.toList = ys[i].f1.data.toList := fun h3 => he (by unfold prS; rw [h2, h3])
       rw [Bool.or_eq_true]; exact .inr (by rw [Bool.not_eq_true', beq_eq_false_iff_ne]; exact h3)
      ·rw [Bool.or_eq_true]; exact .inl (by rw [Bool.not_eq_true', beq_eq_false_iff_ne]; exact h2)
     rw [h1, if_pos rfl, decide_eq_false (fun e => he (List.cons.inj e).1)]
   ·have hii : i = min xs.length ys.length := by omega
    have := ih i (k + 1) (by omega) hi (by omega)
    exact this
theorem mn_nat (x y : Nat) : Go.Proofs.YtkcmghlhpbepcaaGreatDoorW.PrintWords.mn (x : Int) (y : Int) = ((min x y : Nat) : Int) := by unfold Go.Proofs.YtkcmghlhpbepcaaGreatDoorW.PrintWords.mn; split <;> omega
theorem attrs_f (xs ys : List S36) (hx : xs.length ≤ 9223372036854775807) (hy : ys.length ≤ 9223372036854775807) (k : Nat) (hk : xs.length < k) : rows_attrs.f k xs ys = some (decide (xs.map prS = ys.map prS)) := by
 unfold rows_attrs.f
 rw [mn_nat]
 exact attrs_l0 xs ys hx hy (min xs.length ys.length) 0 k (by omega) (by omega) (by omega)
theorem same1_f (x y : Rw) (hx : x.f4.length ≤ 9223372036854775807) (hy : y.f4.length ≤ 9223372036854775807) (k : Nat) (hk : x.f4.length < k) :
 rows_Same_1.f k x.f0 x.f1 x.f2 x.f3 x.f4 y.f0 y.f1 y.f2 y.f3 y.f4 = some (decide (rowS x = rowS y)) := by
 unfold rows_Same_1.f
 by_cases h0 : x.f0 = y.f0
 ·rw [if_pos h0]
  by_cases h1 : x.f1 = y.f1
  ·rw [if_pos h1]
   by_cases h2 : x.f2.data.toList = y.f2.data.toList
   ·rw [if_pos ((bytes_iff _ _).2 h2)]
    by_cases h3 : x.f3.data.toList = y.f3.data.toList
    ·rw [if_pos ((bytes_iff _ _).2 h3), attrs_f _ _ hx hy k hk, Option.bind_some]
     congr 1
     rw [decide_eq_decide]
     unfold rowS
     simp [h0, h1, h2, h3]
    ·rw [if_neg (fun h => h3 ((bytes_iff _ _).1 h)), decide_eq_false (fun e => h3 (congrArg Rr.data e))]
   ·rw [if_neg (fun h => h2 ((bytes_iff _ _).1 h)), decide_eq_false (fun e => h2 (congrArg Rr.name e))]
  ·rw [if_neg h1, decide_eq_false (fun e => h1 (congrArg Rr.kind e))]
 ·rw [if_neg h0, decide_eq_false (fun e => h0 (congrArg Rr.depth e))]
set_option maxHeartbeats 2000000 in
set_option maxRecDepth 100000 in
theorem equal_rows (xs ys : List Rw) (A B : Option Addr) (c d : Nat) (w : World) (hx : k34.C w A xs.length xs) (hy : k34.C w B ys.length ys) (b : Bool) (hb : decide (xs.map rowS = ys.map rowS) = b) :
 Calls Tryz.prog 86 #[.slice A xs.length c, .slice B ys.length d, .func (.func 87) #[] #[]] w fun e w' => e = .returned (.bool b) ∧ Below w.heap.size w w' := by
 have hxl := hx.2.1
 have hyl := hy.2.1
 by_cases hlen : xs.length = ys.length
 ·have hlI : ((xs.length : Int) != (ys.length : Int)) = false := by rw [bne_eq_false_iff_eq]; omega
  have hlI2 : ((ys.length : Int) != (ys.length : Int)) = false := by simp
  go_enter Tryz.func86, Tryz.ntmps86
  replace hlen := Lib.hid hlen
  go_wp2
  go_loopw [17] (fun v wr => ∃ (k : Nat), v = .int .i64 k ∧ k ≤ xs.length ∧ Hid (∀ j (h1 : j < xs.length) (h2 : j < ys.length), j < k → rowS xs[j] = rowS ys[j]) ∧ Below w.heap.size w wr) (fun v _ => xs.length - (intOf v).toNat)
  case atStart => exact ⟨0, rfl, by omega, fun j _ _ h => by omega, Below.refl _ _⟩
  case round =>
   obtain ⟨k, rfl, hk, hno, hB⟩ := hrel
   have hle := hlen.out
   by_cases hlt : k < xs.length
   ·have hlty : k < ys.length := by omega
    obtain ⟨g, o, A4, c4, rfl, z0, z1, z2, z3, z4, l4, g4⟩ := row_at (Go.Proofs.YtkcmghlhpbepcaaGreatDoorW.PrintWords.Kd.C_below hx hB) k hlt
    obtain ⟨g', o', B4, d4, rfl, y0, y1, y2, y3, y4, m4, h4⟩ := row_at (Go.Proofs.YtkcmghlhpbepcaaGreatDoorW.PrintWords.Kd.C_below hy hB) k hlty
    have hsm : Hid (∀ W, Below wr.heap.size wr W → Calls Tryz.prog 87 #[.agg #[.int .i64 xs[k].f0, .int .i64 xs[k].f1, .string xs[k].f2, .string xs[k].f3, .slice A4 xs[k].f4.length c4], .agg #[.int .i64 ys[k].f0, .int .i64 ys[k].f1, .string ys[k].f2, .string ys[k].f3, .slice B4 ys[k].f4.length d4]] W fun e w' => e = .returned (.bool (decide (rowS xs[k] = rowS ys[k]))) ∧ Below W.heap.size W w') := fun W hW =>
     rows_Same_1.calls (xs[k].f4.length + 1) _ _ _ _ _ _ _ _ _ _ _ _ _ _ _ W (Go.Proofs.YtkcmghlhpbepcaaGreatDoorW.PrintWords.Kd.C_below g4 hW) l4 (Go.Proofs.YtkcmghlhpbepcaaGreatDoorW.PrintWords.Kd.C_below h4 hW) m4 (same1_f xs[k] ys[k] g4.2.1 h4.2.1 _ (by omega))
    have hyes : Hid (rowS xs[k] = rowS ys[k] → ∀ j (h1 : j < xs.length) (h2 : j < ys.length), j < k + 1 → rowS xs[j] = rowS ys[j]) := fun h j h1 h2 hj => by
     by_cases e : j = k
     ·subst e; exact h
     ·exact hno.out j h1 h2 (by omega)
    have hnot : Hid (¬ rowS xs[k] = rowS ys[k] → b = false) := fun h => by
     rw [← hb]
     refine decide_eq_false (fun e => h ?_)
     have e2 : (xs.map rowS)[k]? = (ys.map rowS)[k]? := by rw [e]
     rw [List.getElem?_map, List.getElem?_map, List.getElem?_eq_getElem hlt, List.getElem?_eq_getElem hlty] at e2
     simpa using e2
    by_cases he : rowS xs[k] = rowS ys[k]
    ·skip
     rw [decide_eq_true he] at hsm
     have hy2 := Lib.hid (hyes.out he)
     clear he hyes hnot hno hb hle
     generalize xs[k] = x at *
     generalize ys[k] = y at *
     obtain ⟨xd, xk, xn, xt, xa⟩ := x
     obtain ⟨yd, yk, yn, yt, ya⟩ := y
     simp only at z0 z1 z2 z3 z4 y0 y1 y2 y3 y4 hsm
     have Y0 := cell_al8 y0
     have Y1 := cell_al8 y1
     have Y2 := cell_al8 y2
     have Y3 := cell_al8 y3
     have Y4 := cell_al8 y4
     go_wp2_with (go_at_call 87; ((with_reducible refine (hsm.out _ (((Below.refl _ _).alloc (Nat.le_refl _) _).alloc (by rw [World.size_alloc]; omega) _)).mono ?_); rintro e w1 ⟨rfl, hb1⟩; have hB1 := below_then ((hB.alloc hB.size _).alloc (by rw [World.size_alloc]; have := hB.size; omega) _) (by rw [World.size_alloc, World.size_alloc]; have := hB.size; omega) hb1))
     exact ⟨⟨k + 1, rfl, by omega, hy2, hB1⟩, by simp [intOf]; omega⟩
    ·skip
     rw [decide_eq_false he] at hsm
     have hbf := hnot.out he
     clear he hyes hnot hno hb hle
     generalize xs[k] = x at *
     generalize ys[k] = y at *
     obtain ⟨xd, xk, xn, xt, xa⟩ := x
     obtain ⟨yd, yk, yn, yt, ya⟩ := y
     simp only at z0 z1 z2 z3 z4 y0 y1 y2 y3 y4 hsm
     have Y0 := cell_al8 y0
     have Y1 := cell_al8 y1
     have Y2 := cell_al8 y2
     have Y3 := cell_al8 y3
     have Y4 := cell_al8 y4
     go_wp2_with (go_at_call 87; ((with_reducible refine (hsm.out _ (((Below.refl _ _).alloc (Nat.le_refl _) _).alloc (by rw [World.size_alloc]; omega) _)).mono ?_); rintro e w1 ⟨rfl, hb1⟩; have hB1 := below_then ((hB.alloc hB.size _).alloc (by rw [World.size_alloc]; have := hB.size; omega) _) (by rw [World.size_alloc, World.size_alloc]; have := hB.size; omega) hb1))
     go_ret
     rw [hbf]
     exact ⟨rfl, hB1⟩
   ·have hbt : b = true := by
     rw [← hb]
     refine decide_eq_true (List.ext_getElem (by simp; omega) (fun j h1 h2 => ?_))
     simp only [List.length_map] at h1 h2
     rw [List.getElem_map, List.getElem_map]
     exact hno.out j h1 h2 (by omega)
    clear hno hb hle
    subst hbt
    go_wp2
    go_ret
    exact ⟨rfl, hB⟩
 ·have hbf : b = false := by rw [← hb]; exact decide_eq_false (fun e => hlen (by have := congrArg List.length e; simpa using this))
  have hlI : ((xs.length : Int) != (ys.length : Int)) = true := by rw [bne_iff_ne]; omega
  have hlI2 : ((xs.length : Int) == (ys.length : Int)) = false := by rw [beq_eq_false_iff_ne]; omega
  clear hb
  subst hbf
  go_enter Tryz.func86, Tryz.ntmps86
  go_wp2
  go_ret
  exact ⟨rfl, Below.refl _ _⟩
def rows_Same.f (l0 l1 : List Rw) : Option Bool := some (decide (l0.map rowS = l1.map rowS))
set_option maxHeartbeats 1000000 in
set_option maxRecDepth 100000 in
theorem rows_Same.calls (A0 : Option Addr) (c0 : Nat) (l0 : List Rw) (A1 : Option Addr) (c1 : Nat) (l1 : List Rw) (r : Bool) (w : World) (hr0 : k34.C w A0 l0.length l0) (hc0 : l0.length ≤ c0) (hr1 : k34.C w A1 l1.length l1) (hc1 : l1.length ≤ c1) (h : rows_Same.f l0 l1 = some r) :
 Calls Tryz.prog 40 #[.slice A0 l0.length c0, .slice A1 l1.length c1] w fun e w' => e = .returned (.bool r) ∧ Below w.heap.size w w' := by
 have hi := Lib.hid (equal_rows l0 l1 A0 A1 c0 c1 w hr0 hr1 r (Option.some.inj h))
 clear h
 go_enter Tryz.func40, Tryz.ntmps40
 go_wp2_with (go_at_call 86; ((with_reducible refine hi.out.mono ?_); rintro e w1 ⟨rfl, hb1⟩))
 go_ret
 exact ⟨rfl, hb1⟩
end Go.Proofs.YtkcmghlhpbepcaaGreatDoorH.W7

/- Words and walks used below. -/
namespace Go.Proofs.YtkcmghlhpbepcaaGreatDoorH.W7
open Go.RowKit Go.Proofs.YtkcmghlhpbepcaaGreatDoorW.PrintWords Go.Proofs.YtkcmghlhpbepcaaGreatDoorW.PrintLast Go.Proofs.YtkcmghlhpbepcaaGreatDoorW.PrintMore
attribute [local go_sem] max2_int min2_int max_two min_two max_three min_three max_four min_four   -- for this text's walks alone
def rows_is.f (l0 : List (S34)) (a1 : Int) : Option (Bool) := if a1 ≥ 0 then (some (decide (a1 < (l0.length : Int)))) else (some false)
end Go.Proofs.YtkcmghlhpbepcaaGreatDoorH.W7

/- Words and walks used below. -/
namespace Go.Proofs.YtkcmghlhpbepcaaGreatDoorH.W7
open Go.RowKit Go.Proofs.YtkcmghlhpbepcaaGreatDoorW.PrintWords Go.Proofs.YtkcmghlhpbepcaaGreatDoorW.PrintLast Go.Proofs.YtkcmghlhpbepcaaGreatDoorW.PrintMore
attribute [local go_sem] max2_int min2_int max_two min_two max_three min_three max_four min_four   -- for this text's walks alone
def rows_End.l0 : Nat → List (S34) → Int → Int → Option (Int)
 | 0, _, _, _ => none
 | k + 1, x0, x1, x5 => if x5 < (x0.length : Int) then (if 0 ≤ x5 then (if 0 ≤ x1 then (if x1 < (x0.length : Int) then (if ((rd_T34 x0 x5).f0) > ((rd_T34 x0 x1).f0) then (rows_End.l0 k x0 x1 (wrap64 (x5 + 1))) else (some x5)) else (none)) else (none)) else (none)) else (some x5)
def rows_End.f (k : Nat) (l0 : List (S34)) (a1 : Int) : Option (Int) := (rows_is.f l0 a1).bind fun t110 => (if t110 = true then (rows_End.l0 k l0 a1 (wrap64 (a1 + 1))) else (some 0))
end Go.Proofs.YtkcmghlhpbepcaaGreatDoorH.W7

/- Contract of rows.Kids: a loop over a function. Nothing that lay in memory turns. -/
namespace Go.Proofs.YtkcmghlhpbepcaaGreatDoorH.W7
open Go.RowKit Go.Shelf Go.Proofs Go.Proofs.YtkcmghlhpbepcaaGreatDoor
attribute [local go_sem] Oper.semAt_some
def spanN (d : Int) : List Rw → Nat
 | [] => 0
 | y :: ys => if d < y.f0 then spanN d ys + 1 else 0
def endN (xs : List Rw) (i : Nat) : Nat := i + 1 + spanN (rd_T34 xs i).f0 (xs.drop (i + 1))
theorem endN_gt (xs : List Rw) (i : Nat) : i < endN xs i := by unfold endN; omega
def kidsW (xs : List Rw) (t j : Nat) : List Nat :=
 if h : j < t ∧ j < xs.length then j :: kidsW xs t (endN xs j) else []
termination_by xs.length - j
decreasing_by have := endN_gt xs j; omega
def kidsF (xs : List Rw) (i : Int) : List Nat :=
 if i = -1 then kidsW xs xs.length 0 else if 0 ≤ i ∧ i < xs.length then kidsW xs (endN xs i.toNat) (i.toNat + 1) else []
def fromI (i : Int) : Nat := if i = -1 then 0 else i.toNat + 1
def toI (xs : List Rw) (i : Int) : Nat := if i = -1 then xs.length else endN xs i.toNat
def KpK (n₀ B : Nat) (v : Value) (W W' : World) : Prop := Below n₀ W W' ∧ (Boxed W B 22 v → Boxed W' B 22 v)
end Go.Proofs.YtkcmghlhpbepcaaGreatDoorH.W7

/- Contract of rows.Kids: its loop over a function. Nothing that lay in memory turns. -/
namespace Go.Proofs.YtkcmghlhpbepcaaGreatDoorH.W7
open Go.RowKit Go.Shelf Go.Proofs Go.Proofs.YtkcmghlhpbepcaaGreatDoor
attribute [local go_sem] Oper.semAt_some
def rows_Kids.f (l0 : List Rw) (a1 : Int) : Option (List Int) := if l0.length * 8 ≤ 140737488355328 then some ((kidsF l0 a1).map (fun x : Nat => (x : Int))) else none
end Go.Proofs.YtkcmghlhpbepcaaGreatDoorH.W7
