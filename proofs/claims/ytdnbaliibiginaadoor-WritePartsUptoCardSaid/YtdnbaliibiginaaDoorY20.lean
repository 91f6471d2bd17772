/- Lemmas and walks, part 20: QPW8x39. -/
import Derived.Test.YtdnbaliibiginaaDoorY4
set_option linter.unusedVariables false
set_option linter.unusedSimpArgs false

/- Words and walks used below. -/
namespace Go.Proofs.YtdnbaliibiginaaDoorH.W8
open Go.RowKit Go.Proofs.YtdnbaliibiginaaDoorW.PrintWords Go.Proofs.YtdnbaliibiginaaDoorW.PrintLast Go.Proofs.YtdnbaliibiginaaDoorW.PrintMore
attribute [local go_sem] max2_int min2_int max_two min_two max_three min_three max_four min_four   -- for this text's walks alone
mutual
def boltingref04_Row.j0 : Nat → Bool → Int → Int → ByteArray → ByteArray → List (S45) → Option (Bool)
 | 0, _, _, _, _, _, _ => none
 | k + 1, x12, x307000, x307001, x307002, x307003, x307004 => if x12 = true then (if x307002.toList = ([] : List UInt8) then (some ((x307004.length : Int) == 0)) else (some false)) else (boltingref04_Row.l0 k 0 x307000 x307001 x307002 x307003 x307004)
def boltingref04_Row.l0 : Nat → Int → Int → Int → ByteArray → ByteArray → List (S45) → Option (Bool)
 | 0, _, _, _, _, _, _ => none
 | k + 1, x3, x307000, x307001, x307002, x307003, x307004 => if x3 < (x307004.length : Int) then (boltingref04_Row.l1 k x3 0 x307000 x307001 x307002 x307003 x307004) else (if x307001 = 0 then (if x307002.toList = ([] : List UInt8) then (some false) else (some (x307003.toList == ([] : List UInt8)))) else (some false))
def boltingref04_Row.l1 : Nat → Int → Int → Int → Int → ByteArray → ByteArray → List (S45) → Option (Bool)
 | 0, _, _, _, _, _, _, _ => none
 | k + 1, x3, x4, x307000, x307001, x307002, x307003, x307004 => if x4 < x3 then (if 0 ≤ x3 then (if x3 < (x307004.length : Int) then (if 0 ≤ x4 then (if x4 < (x307004.length : Int) then (if ((rd_T45 x307004 x3).f0).toList = ((rd_T45 x307004 x4).f0).toList then (some false) else (boltingref04_Row.l1 k x3 (wrap64 (x4 + 1)) x307000 x307001 x307002 x307003 x307004)) else (none)) else (none)) else (none)) else (none)) else (boltingref04_Row.l0 k (wrap64 (x3 + 1)) x307000 x307001 x307002 x307003 x307004)
end
def boltingref04_Row.f (k : Nat) (a0_0 : Int) (a0_1 : Int) (a0_2 : ByteArray) (a0_3 : ByteArray) (l0_4 : List (S45)) : Option (Bool) := if a0_1 = 1 then (boltingref04_Row.j0 k true a0_0 a0_1 a0_2 a0_3 l0_4) else (boltingref04_Row.j0 k (a0_1 == 2) a0_0 a0_1 a0_2 a0_3 l0_4)
set_option maxHeartbeats 8000000 in
set_option maxRecDepth 100000 in
theorem boltingref04_Row.calls (k : Nat) (a0_0 : Int) (a0_1 : Int) (a0_2 : ByteArray) (a0_3 : ByteArray) (A0_4 : Option Addr) (c0_4 : Nat) (l0_4 : List (S45)) (r : Bool) (w : World) (hr0_4 : Kd.C k45 w A0_4 l0_4.length l0_4) (hc0_4 : l0_4.length ≤ c0_4) (h : boltingref04_Row.f k a0_0 a0_1 a0_2 a0_3 l0_4 = some r) :
  Calls Tryd.prog 23 #[.agg #[.int .i64 a0_0, .int .i64 a0_1, .string a0_2, .string a0_3, .slice A0_4 l0_4.length c0_4]] w fun e w' => e = .returned (.bool r) ∧ Below w.heap.size w w' := by
 have hu35 := Tryd.underlying35
 have HR0_4 := Aside0.mk hr0_4
 have HC0_4 := Aside0.mk hc0_4
 clear hr0_4 hc0_4
 have HB := Aside0.mk (Below.refl w.heap.size w)
 have H : (if a0_1 = 1 then (boltingref04_Row.j0 k true a0_0 a0_1 a0_2 a0_3 l0_4) else (boltingref04_Row.j0 k (a0_1 == 2) a0_0 a0_1 a0_2 a0_3 l0_4)) = some r := h
 clear h
 have HC2 := Aside0.mk H
 clear H
 go_enter Tryd.func23, Tryd.ntmps23
 go_upto_region 1 with (first | ((with_reducible refine gate_dst (N := 1) rfl ?_); (try (refine gate_guard (by rfl) ?_; dsimp only)); refine box_event ?hg (N := 1) ?hd (cs := #[.int .i64 a0_0, .int .i64 a0_1, .string a0_2, .string a0_3, .slice A0_4 l0_4.length c0_4]) (t := 35) ?hr ?_; (case hd => rfl); (case hg => rfl); (case hr => first | (go_simp; done) | (go_simp; rfl)); intro gb306 hg w3 hbox hb; have n0_ := Aside0.mk (below_step bz hb); have n1_ := Aside0.mk (hbox); have n2_ := Aside0.mk ((by rw [hg]; exact (below_size bz) : w.heap.size ≤ gb306)); have n3_ := Aside0.mk ((by rw [hg]; exact (below_size bz) : w.heap.size ≤ gb306)); clear HB; have HB := n0_; have BK306 := n1_; have GW306 := n2_; have GE306 := n3_; clear n0_ n1_ n2_ n3_; clear hb hbox hg))
 repeat (go_quiet (first | ((with_reducible refine gate_dst (N := 1) rfl ?_); (try (refine gate_guard (by rfl) ?_; dsimp only)); refine box_event ?hg (N := 1) ?hd (cs := #[.int .i64 a0_0, .int .i64 a0_1, .string a0_2, .string a0_3, .slice A0_4 l0_4.length c0_4]) (t := 35) ?hr ?_; (case hd => rfl); (case hg => rfl); (case hr => first | (go_simp; done) | (go_simp; rfl)); intro gb306 hg w3 hbox hb; have n0_ := Aside0.mk (below_step bz hb); have n1_ := Aside0.mk (hbox); have n2_ := Aside0.mk ((by rw [hg]; exact (below_size bz) : w.heap.size ≤ gb306)); have n3_ := Aside0.mk ((by rw [hg]; exact (below_size bz) : w.heap.size ≤ gb306)); clear HB; have HB := n0_; have BK306 := n1_; have GW306 := n2_; have GE306 := n3_; clear n0_ n1_ n2_ n3_; clear hb hbox hg)); go_upto_region 1 with (first | ((with_reducible refine gate_dst (N := 1) rfl ?_); (try (refine gate_guard (by rfl) ?_; dsimp only)); refine box_event ?hg (N := 1) ?hd (cs := #[.int .i64 a0_0, .int .i64 a0_1, .string a0_2, .string a0_3, .slice A0_4 l0_4.length c0_4]) (t := 35) ?hr ?_; (case hd => rfl); (case hg => rfl); (case hr => first | (go_simp; done) | (go_simp; rfl)); intro gb306 hg w3 hbox hb; have n0_ := Aside0.mk (below_step bz hb); have n1_ := Aside0.mk (hbox); have n2_ := Aside0.mk ((by rw [hg]; exact (below_size bz) : w.heap.size ≤ gb306)); have n3_ := Aside0.mk ((by rw [hg]; exact (below_size bz) : w.heap.size ≤ gb306)); clear HB; have HB := n0_; have BK306 := n1_; have GW306 := n2_; have GE306 := n3_; clear n0_ n1_ n2_ n3_; clear hb hbox hg)))
 (try simp only [Act.put, List.setIfInBounds_toArray, List.set_cons_zero, List.set_cons_succ])
 go_cut [12] (fun v12 wc => ∃ (kq : Nat) (x12_1 : Bool), v12 = .bool x12_1 ∧ Aside0 (boltingref04_Row.j0 kq x12_1 a0_0 a0_1 a0_2 a0_3 l0_4 = some r) ∧ Aside0 (kq ≤ k) ∧ Aside0 (wc.heap[gb306]? = some (.cells #[.int .i64 a0_0, .int .i64 a0_1, .string a0_2, .string a0_3, (.slice A0_4 l0_4.length c0_4)] 35 (0, 0))) ∧ Aside0 (Below w.heap.size w wc))
 case first =>
  have H := HC2.out
  clear HC2
  by_cases c4 : a0_1 = 1
  ·rw [if_pos c4] at H
   have c4b0 : (a0_1 == 1) = true := beq_iff_eq.mpr c4
   have c4b1 : (a0_1 != 1) = false := bne_eq_false_iff_eq.mpr c4
   clear c4
   (first | rw [c4b0] | (simp only [i64_w, i32_w]; rw [c4b0]) | skip)
   have H' := Aside0.mk H
   clear H
   have hcz5_0 : w3.cell? ⟨gb306, 0, none⟩ = some (.int .i64 a0_0) := (blk_cell BK306.out 0).trans rfl
   have hcz5_1 : w3.cell? ⟨gb306, 1, none⟩ = some (.int .i64 a0_1) := (blk_cell BK306.out 1).trans rfl
   have hcz5_2 : w3.cell? ⟨gb306, 2, none⟩ = some (.string a0_2) := (blk_cell BK306.out 2).trans rfl
   have hcz5_3 : w3.cell? ⟨gb306, 3, none⟩ = some (.string a0_3) := (blk_cell BK306.out 3).trans rfl
   have hcz5_4 : w3.cell? ⟨gb306, 4, none⟩ = some (.slice A0_4 l0_4.length c0_4) := (blk_cell BK306.out 4).trans rfl
   have hfz5_0 := blk_frozen BK306.out 0
   have hfz5_1 := blk_frozen BK306.out 1
   have hfz5_2 := blk_frozen BK306.out 2
   have hfz5_3 := blk_frozen BK306.out 3
   have hfz5_4 := blk_frozen BK306.out 4
   go_wp2
   repeat (go_quiet (fail); try go_wp2)
   go_meet
   case rel => exact ⟨_, (true), (by first | rfl | (simp; done) | (simp [*]; done) | (simp; generalize ByteArray.toList _ = l_; cases l_ <;> rfl)), H', ⟨by first | omega | exact Nat.le_refl _⟩, ⟨by (with_reducible repeat (first | refine blk_drewN ?_ _ | refine blk_drew ?_ | refine blk_alloc ?_ _)); exact BK306.out⟩, ⟨bs GE306.out⟩⟩
  ·rw [if_neg c4] at H
   have c4b0 : (a0_1 == 1) = false := beq_eq_false_iff_ne.mpr c4
   have c4b1 : (a0_1 != 1) = true := bne_iff_ne.mpr c4
   (first | rw [c4b0] | (simp only [i64_w, i32_w]; rw [c4b0]) | skip)
   have H' := Aside0.mk H
   clear H
   have hcz6_0 : w3.cell? ⟨gb306, 0, none⟩ = some (.int .i64 a0_0) := (blk_cell BK306.out 0).trans rfl
   have hcz6_1 : w3.cell? ⟨gb306, 1, none⟩ = some (.int .i64 a0_1) := (blk_cell BK306.out 1).trans rfl
   have hcz6_2 : w3.cell? ⟨gb306, 2, none⟩ = some (.string a0_2) := (blk_cell BK306.out 2).trans rfl
   have hcz6_3 : w3.cell? ⟨gb306, 3, none⟩ = some (.string a0_3) := (blk_cell BK306.out 3).trans rfl
   have hcz6_4 : w3.cell? ⟨gb306, 4, none⟩ = some (.slice A0_4 l0_4.length c0_4) := (blk_cell BK306.out 4).trans rfl
   have hfz6_0 := blk_frozen BK306.out 0
   have hfz6_1 := blk_frozen BK306.out 1
   have hfz6_2 := blk_frozen BK306.out 2
   have hfz6_3 := blk_frozen BK306.out 3
   have hfz6_4 := blk_frozen BK306.out 4
   go_wp2
   repeat (go_quiet (fail); try go_wp2)
   go_meet
   case rel => exact ⟨_, ((a0_1 == 2)), (by first | rfl | (simp; done) | (simp [*]; done) | (simp; generalize ByteArray.toList _ = l_; cases l_ <;> rfl)), H', ⟨by first | omega | exact Nat.le_refl _⟩, ⟨by (with_reducible repeat (first | refine blk_drewN ?_ _ | refine blk_drew ?_ | refine blk_alloc ?_ _)); exact BK306.out⟩, ⟨bs GE306.out⟩⟩
 case rest =>
  clear HC2
  try clear c2
  try clear p2
  try clear c4
  try clear c4b0
  try clear c4b1
  try clear hcz5_0
  try clear hcz5_1
  try clear hcz5_2
  try clear hcz5_3
  try clear hcz5_4
  try clear hcz6_0
  try clear hcz6_1
  try clear hcz6_2
  try clear hcz6_3
  try clear hcz6_4
  try clear hfz5_0
  try clear hfz5_1
  try clear hfz5_2
  try clear hfz5_3
  try clear hfz5_4
  try clear hfz6_0
  try clear hfz6_1
  try clear hfz6_2
  try clear hfz6_3
  try clear hfz6_4
  obtain ⟨kq, x12_1, rfl, HA, HJ1, BK306, HB⟩ := hcut
  cases kq with
  | zero => exact absurd HA.out (by simp [boltingref04_Row.j0])
  | succ kj1 =>
   have H := HA.out
   clear HA
   simp only [boltingref04_Row.j0] at H
   by_cases c7 : x12_1 = true
   ·subst c7
    have H1 : (if a0_2.toList = ([] : List UInt8) then (some ((l0_4.length : Int) == 0)) else (some false)) = some r := by rw [if_pos rfl] at H; exact H
    clear H
    have H := H1
    clear H1
    by_cases c8 : a0_2.toList = ([] : List UInt8)
    ·rw [if_pos c8] at H
     have c8b0 : (a0_2.toList == ([] : List UInt8)) = true := beq_iff_eq.mpr c8
     have c8b1 : (a0_2.toList != ([] : List UInt8)) = false := bne_eq_false_iff_eq.mpr c8
     clear c8
     obtain rfl := Option.some.inj H
     have hcz9_0 : wc.cell? ⟨gb306, 0, none⟩ = some (.int .i64 a0_0) := (blk_cell BK306.out 0).trans rfl
     have hcz9_1 : wc.cell? ⟨gb306, 1, none⟩ = some (.int .i64 a0_1) := (blk_cell BK306.out 1).trans rfl
     have hcz9_2 : wc.cell? ⟨gb306, 2, none⟩ = some (.string a0_2) := (blk_cell BK306.out 2).trans rfl
     have hcz9_3 : wc.cell? ⟨gb306, 3, none⟩ = some (.string a0_3) := (blk_cell BK306.out 3).trans rfl
     have hcz9_4 : wc.cell? ⟨gb306, 4, none⟩ = some (.slice A0_4 l0_4.length c0_4) := (blk_cell BK306.out 4).trans rfl
     have hfz9_0 := blk_frozen BK306.out 0
     have hfz9_1 := blk_frozen BK306.out 1
     have hfz9_2 := blk_frozen BK306.out 2
     have hfz9_3 := blk_frozen BK306.out 3
     have hfz9_4 := blk_frozen BK306.out 4
     go_wp2
     repeat (go_quiet (fail); try go_wp2)
     go_ret
     exact ⟨by first | rfl | (simp [errW_none, errW_some] <;> rfl) | (simp [*, errW_none, errW_some] <;> rfl), bs GE306.out⟩
    ·rw [if_neg c8] at H
     have c8b0 : (a0_2.toList == ([] : List UInt8)) = false := beq_eq_false_iff_ne.mpr c8
     have c8b1 : (a0_2.toList != ([] : List UInt8)) = true := bne_iff_ne.mpr c8
     obtain rfl := Option.some.inj H
     have hcz10_0 : wc.cell? ⟨gb306, 0, none⟩ = some (.int .i64 a0_0) := (blk_cell BK306.out 0).trans rfl
     have hcz10_1 : wc.cell? ⟨gb306, 1, none⟩ = some (.int .i64 a0_1) := (blk_cell BK306.out 1).trans rfl
     have hcz10_2 : wc.cell? ⟨gb306, 2, none⟩ = some (.string a0_2) := (blk_cell BK306.out 2).trans rfl
     have hcz10_3 : wc.cell? ⟨gb306, 3, none⟩ = some (.string a0_3) := (blk_cell BK306.out 3).trans rfl
     have hcz10_4 : wc.cell? ⟨gb306, 4, none⟩ = some (.slice A0_4 l0_4.length c0_4) := (blk_cell BK306.out 4).trans rfl
     have hfz10_0 := blk_frozen BK306.out 0
     have hfz10_1 := blk_frozen BK306.out 1
     have hfz10_2 := blk_frozen BK306.out 2
     have hfz10_3 := blk_frozen BK306.out 3
     have hfz10_4 := blk_frozen BK306.out 4
     go_wp2
     repeat (go_quiet (fail); try go_wp2)
     go_ret
     exact ⟨by first | rfl | (simp [errW_none, errW_some] <;> rfl) | (simp [*, errW_none, errW_some] <;> rfl), bs GE306.out⟩
   ·replace c7 := Bool.eq_false_iff.mpr c7
    subst c7
    have H1 : (boltingref04_Row.l0 kj1 0 a0_0 a0_1 a0_2 a0_3 l0_4) = some r := by rw [if_neg (show ¬ (false = true) by decide)] at H; first | exact H | (simp only [eq_self] at H ⊢; exact H) | (simp only [eq_self, if_true] at H ⊢; exact H)
    clear H
    have H := H1
    clear H1
    have H' := Aside0.mk H
    clear H
    go_wp2
    repeat (go_quiet (fail); try go_wp2)
    go_loopg [3] kj1 (fun kq v3 w' => ∃ (x3_2 : Int), v3 = .int .i64 x3_2 ∧ Aside0 (boltingref04_Row.l0 kq x3_2 a0_0 a0_1 a0_2 a0_3 l0_4 = some r) ∧ Aside0 (kq ≤ kj1) ∧ Aside0 (w'.heap[gb306]? = some (.cells #[.int .i64 a0_0, .int .i64 a0_1, .string a0_2, .string a0_3, (.slice A0_4 l0_4.length c0_4)] 35 (0, 0))) ∧ Aside0 (Below w.heap.size w w'))
    case atStart => exact ⟨(0), (by first | rfl | (simp; done) | (simp [*]; done) | (simp; generalize ByteArray.toList _ = l_; cases l_ <;> rfl)), H', ⟨Nat.le_refl _⟩, ⟨by (with_reducible repeat (first | refine blk_drewN ?_ _ | refine blk_drew ?_ | refine blk_alloc ?_ _)); exact BK306.out⟩, ⟨bs GE306.out⟩⟩
    case round =>
     clear H'
     try clear c2
     try clear p2
     try clear c4
     try clear c4b0
     try clear c4b1
     try clear c7
     try clear c8
     try clear c8b0
     try clear c8b1
     try clear hcz10_0
     try clear hcz10_1
     try clear hcz10_2
     try clear hcz10_3
     try clear hcz10_4
     try clear hcz5_0
     try clear hcz5_1
     try clear hcz5_2
     try clear hcz5_3
     try clear hcz5_4
     try clear hcz6_0
     try clear hcz6_1
     try clear hcz6_2
     try clear hcz6_3
     try clear hcz6_4
     try clear hcz9_0
     try clear hcz9_1
     try clear hcz9_2
     try clear hcz9_3
     try clear hcz9_4
     try clear hfz10_0
     try clear hfz10_1
     try clear hfz10_2
     try clear hfz10_3
     try clear hfz10_4
     try clear hfz5_0
     try clear hfz5_1
     try clear hfz5_2
     try clear hfz5_3
     try clear hfz5_4
     try clear hfz6_0
     try clear hfz6_1
     try clear hfz6_2
     try clear hfz6_3
     try clear hfz6_4
     try clear hfz9_0
     try clear hfz9_1
     try clear hfz9_2
     try clear hfz9_3
     try clear hfz9_4
     try clear p2
     obtain ⟨x3_2, rfl, HA, HK2, BK306, HB⟩ := hrel
     cases gk with
     | zero => exact absurd HA.out (by simp [boltingref04_Row.l0])
     | succ k2 =>
      have H := HA.out
      clear HA
      simp only [boltingref04_Row.l0] at H
      by_cases c11 : x3_2 < (l0_4.length : Int)
      ·rw [if_pos c11] at H
       have c11b0 : decide (x3_2 < (l0_4.length : Int)) = true := decide_eq_true c11
       clear c11
       have H' := Aside0.mk H
       clear H
       have hcz12_0 : wr.cell? ⟨gb306, 0, none⟩ = some (.int .i64 a0_0) := (blk_cell BK306.out 0).trans rfl
       have hcz12_1 : wr.cell? ⟨gb306, 1, none⟩ = some (.int .i64 a0_1) := (blk_cell BK306.out 1).trans rfl
       have hcz12_2 : wr.cell? ⟨gb306, 2, none⟩ = some (.string a0_2) := (blk_cell BK306.out 2).trans rfl
       have hcz12_3 : wr.cell? ⟨gb306, 3, none⟩ = some (.string a0_3) := (blk_cell BK306.out 3).trans rfl
       have hcz12_4 : wr.cell? ⟨gb306, 4, none⟩ = some (.slice A0_4 l0_4.length c0_4) := (blk_cell BK306.out 4).trans rfl
       have hfz12_0 := blk_frozen BK306.out 0
       have hfz12_1 := blk_frozen BK306.out 1
       have hfz12_2 := blk_frozen BK306.out 2
       have hfz12_3 := blk_frozen BK306.out 3
       have hfz12_4 := blk_frozen BK306.out 4
       go_wp2
       repeat (go_quiet (fail); try go_wp2)
       go_loopg [4] k2 (fun kq v4 w' => ∃ (x4_3 : Int), v4 = .int .i64 x4_3 ∧ Aside0 (boltingref04_Row.l1 kq x3_2 x4_3 a0_0 a0_1 a0_2 a0_3 l0_4 = some r) ∧ Aside0 (kq ≤ k2) ∧ Aside0 (w'.heap[gb306]? = some (.cells #[.int .i64 a0_0, .int .i64 a0_1, .string a0_2, .string a0_3, (.slice A0_4 l0_4.length c0_4)] 35 (0, 0))) ∧ Aside0 (Below w.heap.size w w'))
       case atStart => exact ⟨(0), (by first | rfl | (simp; done) | (simp [*]; done) | (simp; generalize ByteArray.toList _ = l_; cases l_ <;> rfl)), H', ⟨Nat.le_refl _⟩, ⟨by (with_reducible repeat (first | refine blk_drewN ?_ _ | refine blk_drew ?_ | refine blk_alloc ?_ _)); exact BK306.out⟩, ⟨bs GE306.out⟩⟩
       case round =>
        clear H'
        try clear c1
        try clear c2
        try clear p2
        try clear c4
        try clear c4b0
        try clear c4b1
        try clear c7
        try clear c8
        try clear c8b0
        try clear c8b1
        try clear c11
        try clear c11b0
        try clear hcz10_0
        try clear hcz10_1
        try clear hcz10_2
        try clear hcz10_3
        try clear hcz10_4
        try clear hcz12_0
        try clear hcz12_1
        try clear hcz12_2
        try clear hcz12_3
        try clear hcz12_4
        try clear hcz5_0
        try clear hcz5_1
        try clear hcz5_2
        try clear hcz5_3
        try clear hcz5_4
        try clear hcz6_0
        try clear hcz6_1
        try clear hcz6_2
        try clear hcz6_3
        try clear hcz6_4
        try clear hcz9_0
        try clear hcz9_1
        try clear hcz9_2
        try clear hcz9_3
        try clear hcz9_4
        try clear hfz10_0
        try clear hfz10_1
        try clear hfz10_2
        try clear hfz10_3
        try clear hfz10_4
        try clear hfz12_0
        try clear hfz12_1
        try clear hfz12_2
        try clear hfz12_3
        try clear hfz12_4
        try clear hfz5_0
        try clear hfz5_1
        try clear hfz5_2
        try clear hfz5_3
        try clear hfz5_4
        try clear hfz6_0
        try clear hfz6_1
        try clear hfz6_2
        try clear hfz6_3
        try clear hfz6_4
        try clear hfz9_0
        try clear hfz9_1
        try clear hfz9_2
        try clear hfz9_3
        try clear hfz9_4
        try clear p2
        obtain ⟨x4_3, rfl, HA, HK3, BK306, HB⟩ := hrel
        cases gk with
        | zero => exact absurd HA.out (by simp [boltingref04_Row.l1])
        | succ k3 =>
         have H := HA.out
         clear HA
         simp only [boltingref04_Row.l1] at H
         by_cases c13 : x4_3 < x3_2
         ·rw [if_pos c13] at H
          have c13b0 : decide (x4_3 < x3_2) = true := decide_eq_true c13
          clear c13
          by_cases c14 : 0 ≤ x3_2
          ·rw [if_pos c14] at H
           have c14b0 : decide (0 ≤ x3_2) = true := decide_eq_true c14
           clear c14
           by_cases c15 : x3_2 < (l0_4.length : Int)
           ·rw [if_pos c15] at H
            have c15b0 : decide (x3_2 < (l0_4.length : Int)) = true := decide_eq_true c15
            clear c15
            by_cases c16 : 0 ≤ x4_3
            ·rw [if_pos c16] at H
             have c16b0 : decide (0 ≤ x4_3) = true := decide_eq_true c16
             clear c16
             by_cases c17 : x4_3 < (l0_4.length : Int)
             ·rw [if_pos c17] at H
              have c17b0 : decide (x4_3 < (l0_4.length : Int)) = true := decide_eq_true c17
              clear c17
              by_cases c18 : ((rd_T45 l0_4 x3_2).f0).toList = ((rd_T45 l0_4 x4_3).f0).toList
              ·rw [if_pos c18] at H
               have c18b0 : (((rd_T45 l0_4 x3_2).f0).toList == ((rd_T45 l0_4 x4_3).f0).toList) = true := beq_iff_eq.mpr c18
               have c18b1 : (((rd_T45 l0_4 x3_2).f0).toList != ((rd_T45 l0_4 x4_3).f0).toList) = false := bne_eq_false_iff_eq.mpr c18
               clear c18
               obtain rfl := Option.some.inj H
               have hcz19_0 : wr.cell? ⟨gb306, 0, none⟩ = some (.int .i64 a0_0) := (blk_cell BK306.out 0).trans rfl
               have hcz19_1 : wr.cell? ⟨gb306, 1, none⟩ = some (.int .i64 a0_1) := (blk_cell BK306.out 1).trans rfl
               have hcz19_2 : wr.cell? ⟨gb306, 2, none⟩ = some (.string a0_2) := (blk_cell BK306.out 2).trans rfl
               have hcz19_3 : wr.cell? ⟨gb306, 3, none⟩ = some (.string a0_3) := (blk_cell BK306.out 3).trans rfl
               have hcz19_4 : wr.cell? ⟨gb306, 4, none⟩ = some (.slice A0_4 l0_4.length c0_4) := (blk_cell BK306.out 4).trans rfl
               have hfz19_0 := blk_frozen BK306.out 0
               have hfz19_1 := blk_frozen BK306.out 1
               have hfz19_2 := blk_frozen BK306.out 2
               have hfz19_3 := blk_frozen BK306.out 3
               have hfz19_4 := blk_frozen BK306.out 4
               have p307 : 0 ≤ (x3_2 : Int) := (by first | exact of_decide_eq_true (by first | (with_reducible assumption) | assumption) | assumption | omega)
               have q307 : x3_2 < (l0_4.length : Int) := (by first | exact of_decide_eq_true (by first | (with_reducible assumption) | assumption) | assumption | omega)
               obtain ⟨ad307, e307, hx307_0, hx307_1⟩ := at_T45 HR0_4.out x3_2 p307 q307
               cases e307
               replace hx307_0 := (HB.out.cell (World.block_lt_of_cell? w _ hx307_0)).trans hx307_0
               replace hx307_1 := (HB.out.cell (World.block_lt_of_cell? w _ hx307_1)).trans hx307_1
               replace p307 := eq_true p307
               replace q307 := eq_true q307
               have p308 : 0 ≤ (x4_3 : Int) := (by first | exact of_decide_eq_true (by first | (with_reducible assumption) | assumption) | assumption | omega)
               have q308 : x4_3 < (l0_4.length : Int) := (by first | exact of_decide_eq_true (by first | (with_reducible assumption) | assumption) | assumption | omega)
               obtain ⟨ad308, e308, hx308_0, hx308_1⟩ := at_T45 HR0_4.out x4_3 p308 q308
               obtain rfl : ad307 = ad308 := (by injection e308)
               replace hx308_0 := (HB.out.cell (World.block_lt_of_cell? w _ hx308_0)).trans hx308_0
               replace hx308_1 := (HB.out.cell (World.block_lt_of_cell? w _ hx308_1)).trans hx308_1
               replace p308 := eq_true p308
               replace q308 := eq_true q308
               go_wp2
               repeat (go_quiet (fail); try go_wp2)
               go_ret
               exact ⟨by first | rfl | (simp [errW_none, errW_some] <;> rfl) | (simp [*, errW_none, errW_some] <;> rfl), bs GE306.out⟩
              ·rw [if_neg c18] at H
               have c18b0 : (((rd_T45 l0_4 x3_2).f0).toList == ((rd_T45 l0_4 x4_3).f0).toList) = false := beq_eq_false_iff_ne.mpr c18
               have c18b1 : (((rd_T45 l0_4 x3_2).f0).toList != ((rd_T45 l0_4 x4_3).f0).toList) = true := bne_iff_ne.mpr c18
               have H' := Aside0.mk H
               clear H
               have hcz20_0 : wr.cell? ⟨gb306, 0, none⟩ = some (.int .i64 a0_0) := (blk_cell BK306.out 0).trans rfl
               have hcz20_1 : wr.cell? ⟨gb306, 1, none⟩ = some (.int .i64 a0_1) := (blk_cell BK306.out 1).trans rfl
               have hcz20_2 : wr.cell? ⟨gb306, 2, none⟩ = some (.string a0_2) := (blk_cell BK306.out 2).trans rfl
               have hcz20_3 : wr.cell? ⟨gb306, 3, none⟩ = some (.string a0_3) := (blk_cell BK306.out 3).trans rfl
               have hcz20_4 : wr.cell? ⟨gb306, 4, none⟩ = some (.slice A0_4 l0_4.length c0_4) := (blk_cell BK306.out 4).trans rfl
               have hfz20_0 := blk_frozen BK306.out 0
               have hfz20_1 := blk_frozen BK306.out 1
               have hfz20_2 := blk_frozen BK306.out 2
               have hfz20_3 := blk_frozen BK306.out 3
               have hfz20_4 := blk_frozen BK306.out 4
               have p307 : 0 ≤ (x3_2 : Int) := (by first | exact of_decide_eq_true (by first | (with_reducible assumption) | assumption) | assumption | omega)
               have q307 : x3_2 < (l0_4.length : Int) := (by first | exact of_decide_eq_true (by first | (with_reducible assumption) | assumption) | assumption | omega)
               obtain ⟨ad307, e307, hx307_0, hx307_1⟩ := at_T45 HR0_4.out x3_2 p307 q307
               cases e307
               replace hx307_0 := (HB.out.cell (World.block_lt_of_cell? w _ hx307_0)).trans hx307_0
               replace hx307_1 := (HB.out.cell (World.block_lt_of_cell? w _ hx307_1)).trans hx307_1
               replace p307 := eq_true p307
               replace q307 := eq_true q307
               have p308 : 0 ≤ (x4_3 : Int) := (by first | exact of_decide_eq_true (by first | (with_reducible assumption) | assumption) | assumption | omega)
               have q308 : x4_3 < (l0_4.length : Int) := (by first | exact of_decide_eq_true (by first | (with_reducible assumption) | assumption) | assumption | omega)
               obtain ⟨ad308, e308, hx308_0, hx308_1⟩ := at_T45 HR0_4.out x4_3 p308 q308
               obtain rfl : ad307 = ad308 := (by injection e308)
               replace hx308_0 := (HB.out.cell (World.block_lt_of_cell? w _ hx308_0)).trans hx308_0
               replace hx308_1 := (HB.out.cell (World.block_lt_of_cell? w _ hx308_1)).trans hx308_1
               replace p308 := eq_true p308
               replace q308 := eq_true q308
               go_wp2
               repeat (go_quiet (fail); try go_wp2)
               go_roundg k3
               case measure => have := HJ1.out; have := HK2.out; have := HK3.out; omega
               case rel => exact ⟨(wrap64 (x4_3 + 1)), (by first | rfl | (simp; done) | (simp [*]; done) | (simp; generalize ByteArray.toList _ = l_; cases l_ <;> rfl)), H', ⟨by have := HJ1.out; have := HK2.out; have := HK3.out; omega⟩, ⟨by (with_reducible repeat (first | refine blk_drewN ?_ _ | refine blk_drew ?_ | refine blk_alloc ?_ _)); exact BK306.out⟩, ⟨bs GE306.out⟩⟩
             ·rw [if_neg c17] at H
              exact absurd H (by simp)
            ·rw [if_neg c16] at H
             exact absurd H (by simp)
           ·rw [if_neg c15] at H
            exact absurd H (by simp)
          ·rw [if_neg c14] at H
           exact absurd H (by simp)
         ·rw [if_neg c13] at H
          have c13b0 : decide (x4_3 < x3_2) = false := decide_eq_false c13
          clear c13
          have H' := Aside0.mk H
          clear H
          go_wp2
          repeat (go_quiet (fail); try go_wp2)
          go_roundg k3
          case measure => have := HJ1.out; have := HK2.out; have := HK3.out; omega
          case rel => exact ⟨(wrap64 (x3_2 + 1)), (by first | rfl | (simp; done) | (simp [*]; done) | (simp; generalize ByteArray.toList _ = l_; cases l_ <;> rfl)), H', ⟨by have := HJ1.out; have := HK2.out; have := HK3.out; omega⟩, ⟨by (with_reducible repeat (first | refine blk_drewN ?_ _ | refine blk_drew ?_ | refine blk_alloc ?_ _)); exact BK306.out⟩, ⟨bs GE306.out⟩⟩
      ·rw [if_neg c11] at H
       have c11b0 : decide (x3_2 < (l0_4.length : Int)) = false := decide_eq_false c11
       clear c11
       by_cases c21 : a0_1 = 0
       ·rw [if_pos c21] at H
        have c21b0 : (a0_1 == 0) = true := beq_iff_eq.mpr c21
        have c21b1 : (a0_1 != 0) = false := bne_eq_false_iff_eq.mpr c21
        clear c21
        by_cases c22 : a0_2.toList = ([] : List UInt8)
        ·rw [if_pos c22] at H
         have c22b0 : (a0_2.toList == ([] : List UInt8)) = true := beq_iff_eq.mpr c22
         have c22b1 : (a0_2.toList != ([] : List UInt8)) = false := bne_eq_false_iff_eq.mpr c22
         clear c22
         obtain rfl := Option.some.inj H
         have hcz23_0 : wr.cell? ⟨gb306, 0, none⟩ = some (.int .i64 a0_0) := (blk_cell BK306.out 0).trans rfl
         have hcz23_1 : wr.cell? ⟨gb306, 1, none⟩ = some (.int .i64 a0_1) := (blk_cell BK306.out 1).trans rfl
         have hcz23_2 : wr.cell? ⟨gb306, 2, none⟩ = some (.string a0_2) := (blk_cell BK306.out 2).trans rfl
         have hcz23_3 : wr.cell? ⟨gb306, 3, none⟩ = some (.string a0_3) := (blk_cell BK306.out 3).trans rfl
         have hcz23_4 : wr.cell? ⟨gb306, 4, none⟩ = some (.slice A0_4 l0_4.length c0_4) := (blk_cell BK306.out 4).trans rfl
         have hfz23_0 := blk_frozen BK306.out 0
         have hfz23_1 := blk_frozen BK306.out 1
         have hfz23_2 := blk_frozen BK306.out 2
         have hfz23_3 := blk_frozen BK306.out 3
         have hfz23_4 := blk_frozen BK306.out 4
         go_wp2
         repeat (go_quiet (fail); try go_wp2)
         go_ret
         exact ⟨by first | rfl | (simp [errW_none, errW_some] <;> rfl) | (simp [*, errW_none, errW_some] <;> rfl), bs GE306.out⟩
        ·rw [if_neg c22] at H
         have c22b0 : (a0_2.toList == ([] : List UInt8)) = false := beq_eq_false_iff_ne.mpr c22
         have c22b1 : (a0_2.toList != ([] : List UInt8)) = true := bne_iff_ne.mpr c22
         obtain rfl := Option.some.inj H
         have hcz24_0 : wr.cell? ⟨gb306, 0, none⟩ = some (.int .i64 a0_0) := (blk_cell BK306.out 0).trans rfl
         have hcz24_1 : wr.cell? ⟨gb306, 1, none⟩ = some (.int .i64 a0_1) := (blk_cell BK306.out 1).trans rfl
         have hcz24_2 : wr.cell? ⟨gb306, 2, none⟩ = some (.string a0_2) := (blk_cell BK306.out 2).trans rfl
         have hcz24_3 : wr.cell? ⟨gb306, 3, none⟩ = some (.string a0_3) := (blk_cell BK306.out 3).trans rfl
         have hcz24_4 : wr.cell? ⟨gb306, 4, none⟩ = some (.slice A0_4 l0_4.length c0_4) := (blk_cell BK306.out 4).trans rfl
         have hfz24_0 := blk_frozen BK306.out 0
         have hfz24_1 := blk_frozen BK306.out 1
         have hfz24_2 := blk_frozen BK306.out 2
         have hfz24_3 := blk_frozen BK306.out 3
         have hfz24_4 := blk_frozen BK306.out 4
         go_wp2
         repeat (go_quiet (fail); try go_wp2)
         go_ret
         exact ⟨by first | rfl | (simp [errW_none, errW_some] <;> rfl) | (simp [*, errW_none, errW_some] <;> rfl), bs GE306.out⟩
       ·rw [if_neg c21] at H
        have c21b0 : (a0_1 == 0) = false := beq_eq_false_iff_ne.mpr c21
        have c21b1 : (a0_1 != 0) = true := bne_iff_ne.mpr c21
        obtain rfl := Option.some.inj H
        have hcz25_0 : wr.cell? ⟨gb306, 0, none⟩ = some (.int .i64 a0_0) := (blk_cell BK306.out 0).trans rfl
        have hcz25_1 : wr.cell? ⟨gb306, 1, none⟩ = some (.int .i64 a0_1) := (blk_cell BK306.out 1).trans rfl
        have hcz25_2 : wr.cell? ⟨gb306, 2, none⟩ = some (.string a0_2) := (blk_cell BK306.out 2).trans rfl
        have hcz25_3 : wr.cell? ⟨gb306, 3, none⟩ = some (.string a0_3) := (blk_cell BK306.out 3).trans rfl
        have hcz25_4 : wr.cell? ⟨gb306, 4, none⟩ = some (.slice A0_4 l0_4.length c0_4) := (blk_cell BK306.out 4).trans rfl
        have hfz25_0 := blk_frozen BK306.out 0
        have hfz25_1 := blk_frozen BK306.out 1
        have hfz25_2 := blk_frozen BK306.out 2
        have hfz25_3 := blk_frozen BK306.out 3
        have hfz25_4 := blk_frozen BK306.out 4
        go_wp2
        repeat (go_quiet (fail); try go_wp2)
        go_ret
        exact ⟨by first | rfl | (simp [errW_none, errW_some] <;> rfl) | (simp [*, errW_none, errW_some] <;> rfl), bs GE306.out⟩
end Go.Proofs.YtdnbaliibiginaaDoorH.W8
