/- Lemmas and walks, part 9: QPW8x7, QPW8x13. -/
import Derived.Test.YtdnbaliibiginaaDoorY4
import Derived.Test.YtdnbaliibiginaaDoorY8
set_option linter.unusedVariables false
set_option linter.unusedSimpArgs false

/- Words and walks used below. -/
namespace Go.Proofs.YtdnbaliibiginaaDoorH.W8
open Go.RowKit Go.Proofs.YtdnbaliibiginaaDoorW.PrintWords Go.Proofs.YtdnbaliibiginaaDoorW.PrintLast Go.Proofs.YtdnbaliibiginaaDoorW.PrintMore
attribute [local go_sem] max2_int min2_int max_two min_two max_three min_three max_four min_four   -- for this text's walks alone
def write_opened.l0 : Nat → ByteArray → List (S45) → Int → Int → Option (ByteArray)
 | 0, _, _, _, _ => none
 | k + 1, x3, x10, x11, x12 => if x12 < x11 then (if 0 ≤ x12 then (if x12 < (x10.length : Int) then (if 1 + ((rd_T45 x10 x12).f0).size ≤ 9223372036854775807 then (if ((⟨#[32]⟩ : ByteArray) ++ ((rd_T45 x10 x12).f0)).size + 2 ≤ 9223372036854775807 then ((refs_Value.f ((rd_T45 x10 x12).f1)).bind fun t120 => (if (((⟨#[32]⟩ : ByteArray) ++ ((rd_T45 x10 x12).f0)) ++ (⟨#[61, 34]⟩ : ByteArray)).size + t120.size ≤ 9223372036854775807 then (if ((((⟨#[32]⟩ : ByteArray) ++ ((rd_T45 x10 x12).f0)) ++ (⟨#[61, 34]⟩ : ByteArray)) ++ t120).size + 1 ≤ 9223372036854775807 then (if x3.size + (((((⟨#[32]⟩ : ByteArray) ++ ((rd_T45 x10 x12).f0)) ++ (⟨#[61, 34]⟩ : ByteArray)) ++ t120) ++ (⟨#[34]⟩ : ByteArray)).size ≤ 9223372036854775807 then (write_opened.l0 k (x3 ++ (((((⟨#[32]⟩ : ByteArray) ++ ((rd_T45 x10 x12).f0)) ++ (⟨#[61, 34]⟩ : ByteArray)) ++ t120) ++ (⟨#[34]⟩ : ByteArray))) x10 x11 (wrap64 (x12 + 1))) else (none)) else (none)) else (none))) else (none)) else (none)) else (none)) else (none)) else (if x3.size + 1 ≤ 9223372036854775807 then (some (x3 ++ (⟨#[62]⟩ : ByteArray))) else (none))
def write_opened.f (k : Nat) (a0_0 : Int) (a0_1 : Int) (a0_2 : ByteArray) (a0_3 : ByteArray) (l0_4 : List (S45)) : Option (ByteArray) := if 1 + a0_2.size ≤ 9223372036854775807 then (write_opened.l0 k ((⟨#[60]⟩ : ByteArray) ++ a0_2) l0_4 (l0_4.length : Int) 0) else (none)
def write_opened.T5 : Bool × List (List Nat × List Nat) := (true, [([], []), ([], []), ([1], [1]), ([2], [2]), ([3], [3]), ([], []), ([5], [5]), ([6], [6]), ([4, 7], [4, 7]), ([8], [8]), ([0, 9], [0, 9]), ([10, 7, 0, 1, 2, 3, 4, 5, 6, 7, 8, 9, 10], [0, 10])])
def write_opened.B5 : List Nat := [0, 0, 2, 6, 14, 0, 32, 96, 254, 510, 1023, 2047]
theorem write_opened.tab5 : rtab .any (opsOf Tryd.f51 5) = write_opened.T5 := by kernel_rfl
theorem write_opened.bits5 : waitsOk write_opened.T5.2 write_opened.B5 = true := by kernel_rfl
set_option maxHeartbeats 8000000 in
set_option maxRecDepth 100000 in
theorem write_opened.calls (k : Nat) (a0_0 : Int) (a0_1 : Int) (a0_2 : ByteArray) (a0_3 : ByteArray) (A0_4 : Option Addr) (c0_4 : Nat) (l0_4 : List (S45)) (r : ByteArray) (w : World) (hr0_4 : Kd.C k45 w A0_4 l0_4.length l0_4) (hc0_4 : l0_4.length ≤ c0_4) (h : write_opened.f k a0_0 a0_1 a0_2 a0_3 l0_4 = some r) :
  Calls Tryd.prog 51 #[.agg #[.int .i64 a0_0, .int .i64 a0_1, .string a0_2, .string a0_3, .slice A0_4 l0_4.length c0_4]] w fun e w' => e = .returned (.string r) ∧ Below w.heap.size w w' := by
 have hu35 := Tryd.underlying35
 have hu45 := Tryd.underlying45
 have HR0_4 := Aside0.mk hr0_4
 have HC0_4 := Aside0.mk hc0_4
 clear hr0_4 hc0_4
 have HB := Aside0.mk (Below.refl w.heap.size w)
 have H : (if 1 + a0_2.size ≤ 9223372036854775807 then (write_opened.l0 k ((⟨#[60]⟩ : ByteArray) ++ a0_2) l0_4 (l0_4.length : Int) 0) else (none)) = some r := h
 clear h
 by_cases c2 : 1 + a0_2.size ≤ 9223372036854775807
 ·rw [if_pos c2] at H
  have c2b0 := eq_true c2
  have c2b1 : decide (1 + a0_2.size ≤ 9223372036854775807) = true := decide_eq_true c2
  try have c2b2 : (9223372036854775807 < 1 + a0_2.size) = False := eq_false (Nat.not_lt.2 c2)
  have H' := Aside0.mk H
  clear H
  go_enter Tryd.func51, Tryd.ntmps51
  go_wp2_with (first | ((with_reducible refine gate_dst (N := 1) rfl ?_); refine box_event ?hg (N := 1) ?hd (cs := #[.int .i64 a0_0, .int .i64 a0_1, .string a0_2, .string a0_3, .slice A0_4 l0_4.length c0_4]) (t := 35) ?hr ?_; (case hd => rfl); (case hg => rfl); (case hr => first | (go_simp; done) | (go_simp; rfl)); intro gb117 hg w3 hbox hb; have n0_ := Aside0.mk (below_step bz hb); have n1_ := Aside0.mk (hbox); have n2_ := Aside0.mk ((by rw [hg]; exact (below_size bz) : w.heap.size ≤ gb117)); have n3_ := Aside0.mk ((by rw [hg]; exact (below_size bz) : w.heap.size ≤ gb117)); clear HB; have HB := n0_; have BK117 := n1_; have GW117 := n2_; have GE117 := n3_; clear n0_ n1_ n2_ n3_; clear hb hbox hg; have hcz4_0 : w3.cell? ⟨gb117, 0, none⟩ = some (.int .i64 a0_0) := (blk_cell BK117.out 0).trans rfl; have hcz4_1 : w3.cell? ⟨gb117, 1, none⟩ = some (.int .i64 a0_1) := (blk_cell BK117.out 1).trans rfl; have hcz4_2 : w3.cell? ⟨gb117, 2, none⟩ = some (.string a0_2) := (blk_cell BK117.out 2).trans rfl; have hcz4_3 : w3.cell? ⟨gb117, 3, none⟩ = some (.string a0_3) := (blk_cell BK117.out 3).trans rfl; have hcz4_4 : w3.cell? ⟨gb117, 4, none⟩ = some (.slice A0_4 l0_4.length c0_4) := (blk_cell BK117.out 4).trans rfl; have hfz4_0 := blk_frozen BK117.out 0; have hfz4_1 := blk_frozen BK117.out 1; have hfz4_2 := blk_frozen BK117.out 2; have hfz4_3 := blk_frozen BK117.out 3; have hfz4_4 := blk_frozen BK117.out 4))
  go_loopg [3, 12] k (fun kq v3 v12 w' => ∃ (x3_1 : ByteArray) (x12_1 : Int), v3 = .string x3_1 ∧ v12 = .int .i64 x12_1 ∧ Aside0 (write_opened.l0 kq x3_1 l0_4 (l0_4.length : Int) x12_1 = some r) ∧ Aside0 (kq ≤ k) ∧ Aside0 (w'.heap[gb117]? = some (.cells #[.int .i64 a0_0, .int .i64 a0_1, .string a0_2, .string a0_3, (.slice A0_4 l0_4.length c0_4)] 35 (0, 0))) ∧ Aside0 (Below w.heap.size w w'))
  case atStart => exact ⟨((⟨#[60]⟩ : ByteArray) ++ a0_2), (0), (by first | rfl | (simp; done) | (simp [*]; done) | (simp; generalize ByteArray.toList _ = l_; cases l_ <;> rfl)), (by first | rfl | (simp; done) | (simp [*]; done) | (simp; generalize ByteArray.toList _ = l_; cases l_ <;> rfl)), H', ⟨Nat.le_refl _⟩, ⟨by (with_reducible repeat (first | refine blk_drewN ?_ _ | refine blk_drew ?_ | refine blk_alloc ?_ _)); exact BK117.out⟩, ⟨bs GE117.out⟩⟩
  case round =>
   clear H'
   try clear c2
   try clear c2b0
   try clear c2b1
   try clear c2b2
   try clear p2
   try clear hcz4_0
   try clear hcz4_1
   try clear hcz4_2
   try clear hcz4_3
   try clear hcz4_4
   try clear hfz4_0
   try clear hfz4_1
   try clear hfz4_2
   try clear hfz4_3
   try clear hfz4_4
   obtain ⟨x3_1, x12_1, rfl, rfl, HA, HK1, BK117, HB⟩ := hrel
   cases gk with
   | zero => exact absurd HA.out (by simp [write_opened.l0])
   | succ k1 =>
    have H := HA.out
    clear HA
    simp only [write_opened.l0] at H
    by_cases c5 : x12_1 < (l0_4.length : Int)
    ·rw [if_pos c5] at H
     have c5b0 : decide (x12_1 < (l0_4.length : Int)) = true := decide_eq_true c5
     clear c5
     by_cases c6 : 0 ≤ x12_1
     ·rw [if_pos c6] at H
      have c6b0 : decide (0 ≤ x12_1) = true := decide_eq_true c6
      clear c6
      by_cases c7 : x12_1 < (l0_4.length : Int)
      ·rw [if_pos c7] at H
       have c7b0 : decide (x12_1 < (l0_4.length : Int)) = true := decide_eq_true c7
       clear c7
       by_cases c8 : 1 + ((rd_T45 l0_4 x12_1).f0).size ≤ 9223372036854775807
       ·rw [if_pos c8] at H
        have c8b0 := eq_true c8
        have c8b1 : decide (1 + ((rd_T45 l0_4 x12_1).f0).size ≤ 9223372036854775807) = true := decide_eq_true c8
        try have c8b2 : (9223372036854775807 < 1 + ((rd_T45 l0_4 x12_1).f0).size) = False := eq_false (Nat.not_lt.2 c8)
        by_cases c9 : ((⟨#[32]⟩ : ByteArray) ++ ((rd_T45 l0_4 x12_1).f0)).size + 2 ≤ 9223372036854775807
        ·rw [if_pos c9] at H
         have c9b0 := eq_true c9
         have c9b1 : decide (((⟨#[32]⟩ : ByteArray) ++ ((rd_T45 l0_4 x12_1).f0)).size + 2 ≤ 9223372036854775807) = true := decide_eq_true c9
         try have c9b2 : (9223372036854775807 < ((⟨#[32]⟩ : ByteArray) ++ ((rd_T45 l0_4 x12_1).f0)).size + 2) = False := eq_false (Nat.not_lt.2 c9)
         try have c9b3 := c9b2
         try simp only [ByteArray.size_append, (show ∀ a : UInt8, (ByteArray.mk #[a]).size = 1 from fun _ => rfl), (show ∀ a b : UInt8, (ByteArray.mk #[a, b]).size = 2 from fun _ _ => rfl), (show ∀ a b c : UInt8, (ByteArray.mk #[a, b, c]).size = 3 from fun _ _ _ => rfl), (show ∀ a b c d : UInt8, (ByteArray.mk #[a, b, c, d]).size = 4 from fun _ _ _ _ => rfl), (show ∀ a b c d e : UInt8, (ByteArray.mk #[a, b, c, d, e]).size = 5 from fun _ _ _ _ _ => rfl), (show ∀ a b c d e f : UInt8, (ByteArray.mk #[a, b, c, d, e, f]).size = 6 from fun _ _ _ _ _ _ => rfl)] at c9b3
         replace H := Option.bind_eq_some_iff.mp H
         obtain ⟨t120, A100, H⟩ := H
         replace H : (if (((⟨#[32]⟩ : ByteArray) ++ ((rd_T45 l0_4 x12_1).f0)) ++ (⟨#[61, 34]⟩ : ByteArray)).size + t120.size ≤ 9223372036854775807 then (if ((((⟨#[32]⟩ : ByteArray) ++ ((rd_T45 l0_4 x12_1).f0)) ++ (⟨#[61, 34]⟩ : ByteArray)) ++ t120).size + 1 ≤ 9223372036854775807 then (if x3_1.size + (((((⟨#[32]⟩ : ByteArray) ++ ((rd_T45 l0_4 x12_1).f0)) ++ (⟨#[61, 34]⟩ : ByteArray)) ++ t120) ++ (⟨#[34]⟩ : ByteArray)).size ≤ 9223372036854775807 then (write_opened.l0 k1 (x3_1 ++ (((((⟨#[32]⟩ : ByteArray) ++ ((rd_T45 l0_4 x12_1).f0)) ++ (⟨#[61, 34]⟩ : ByteArray)) ++ t120) ++ (⟨#[34]⟩ : ByteArray))) l0_4 (l0_4.length : Int) (wrap64 (x12_1 + 1))) else (none)) else (none)) else (none)) = some r := H
         have A10 := Aside0.mk A100
         clear A100
         by_cases c11 : (((⟨#[32]⟩ : ByteArray) ++ ((rd_T45 l0_4 x12_1).f0)) ++ (⟨#[61, 34]⟩ : ByteArray)).size + t120.size ≤ 9223372036854775807
         ·rw [if_pos c11] at H
          have c11b0 := eq_true c11
          have c11b1 : decide ((((⟨#[32]⟩ : ByteArray) ++ ((rd_T45 l0_4 x12_1).f0)) ++ (⟨#[61, 34]⟩ : ByteArray)).size + t120.size ≤ 9223372036854775807) = true := decide_eq_true c11
          try have c11b2 : (9223372036854775807 < (((⟨#[32]⟩ : ByteArray) ++ ((rd_T45 l0_4 x12_1).f0)) ++ (⟨#[61, 34]⟩ : ByteArray)).size + t120.size) = False := eq_false (Nat.not_lt.2 c11)
          try have c11b3 := c11b2
          try simp only [ByteArray.size_append, (show ∀ a : UInt8, (ByteArray.mk #[a]).size = 1 from fun _ => rfl), (show ∀ a b : UInt8, (ByteArray.mk #[a, b]).size = 2 from fun _ _ => rfl), (show ∀ a b c : UInt8, (ByteArray.mk #[a, b, c]).size = 3 from fun _ _ _ => rfl), (show ∀ a b c d : UInt8, (ByteArray.mk #[a, b, c, d]).size = 4 from fun _ _ _ _ => rfl), (show ∀ a b c d e : UInt8, (ByteArray.mk #[a, b, c, d, e]).size = 5 from fun _ _ _ _ _ => rfl), (show ∀ a b c d e f : UInt8, (ByteArray.mk #[a, b, c, d, e, f]).size = 6 from fun _ _ _ _ _ _ => rfl)] at c11b3
          by_cases c12 : ((((⟨#[32]⟩ : ByteArray) ++ ((rd_T45 l0_4 x12_1).f0)) ++ (⟨#[61, 34]⟩ : ByteArray)) ++ t120).size + 1 ≤ 9223372036854775807
          ·rw [if_pos c12] at H
           have c12b0 := eq_true c12
           have c12b1 : decide (((((⟨#[32]⟩ : ByteArray) ++ ((rd_T45 l0_4 x12_1).f0)) ++ (⟨#[61, 34]⟩ : ByteArray)) ++ t120).size + 1 ≤ 9223372036854775807) = true := decide_eq_true c12
           try have c12b2 : (9223372036854775807 < ((((⟨#[32]⟩ : ByteArray) ++ ((rd_T45 l0_4 x12_1).f0)) ++ (⟨#[61, 34]⟩ : ByteArray)) ++ t120).size + 1) = False := eq_false (Nat.not_lt.2 c12)
           try have c12b3 := c12b2
           try simp only [ByteArray.size_append, (show ∀ a : UInt8, (ByteArray.mk #[a]).size = 1 from fun _ => rfl), (show ∀ a b : UInt8, (ByteArray.mk #[a, b]).size = 2 from fun _ _ => rfl), (show ∀ a b c : UInt8, (ByteArray.mk #[a, b, c]).size = 3 from fun _ _ _ => rfl), (show ∀ a b c d : UInt8, (ByteArray.mk #[a, b, c, d]).size = 4 from fun _ _ _ _ => rfl), (show ∀ a b c d e : UInt8, (ByteArray.mk #[a, b, c, d, e]).size = 5 from fun _ _ _ _ _ => rfl), (show ∀ a b c d e f : UInt8, (ByteArray.mk #[a, b, c, d, e, f]).size = 6 from fun _ _ _ _ _ _ => rfl)] at c12b3
           by_cases c13 : x3_1.size + (((((⟨#[32]⟩ : ByteArray) ++ ((rd_T45 l0_4 x12_1).f0)) ++ (⟨#[61, 34]⟩ : ByteArray)) ++ t120) ++ (⟨#[34]⟩ : ByteArray)).size ≤ 9223372036854775807
           ·rw [if_pos c13] at H
            have c13b0 := eq_true c13
            have c13b1 : decide (x3_1.size + (((((⟨#[32]⟩ : ByteArray) ++ ((rd_T45 l0_4 x12_1).f0)) ++ (⟨#[61, 34]⟩ : ByteArray)) ++ t120) ++ (⟨#[34]⟩ : ByteArray)).size ≤ 9223372036854775807) = true := decide_eq_true c13
            try have c13b2 : (9223372036854775807 < x3_1.size + (((((⟨#[32]⟩ : ByteArray) ++ ((rd_T45 l0_4 x12_1).f0)) ++ (⟨#[61, 34]⟩ : ByteArray)) ++ t120) ++ (⟨#[34]⟩ : ByteArray)).size) = False := eq_false (Nat.not_lt.2 c13)
            try have c13b3 := c13b2
            try simp only [ByteArray.size_append, (show ∀ a : UInt8, (ByteArray.mk #[a]).size = 1 from fun _ => rfl), (show ∀ a b : UInt8, (ByteArray.mk #[a, b]).size = 2 from fun _ _ => rfl), (show ∀ a b c : UInt8, (ByteArray.mk #[a, b, c]).size = 3 from fun _ _ _ => rfl), (show ∀ a b c d : UInt8, (ByteArray.mk #[a, b, c, d]).size = 4 from fun _ _ _ _ => rfl), (show ∀ a b c d e : UInt8, (ByteArray.mk #[a, b, c, d, e]).size = 5 from fun _ _ _ _ _ => rfl), (show ∀ a b c d e f : UInt8, (ByteArray.mk #[a, b, c, d, e, f]).size = 6 from fun _ _ _ _ _ _ => rfl)] at c13b3
            have H' := Aside0.mk H
            clear H
            have p118 : 0 ≤ (x12_1 : Int) := (by first | exact of_decide_eq_true (by first | (with_reducible assumption) | assumption) | assumption | omega)
            have q118 : x12_1 < (l0_4.length : Int) := (by first | exact of_decide_eq_true (by first | (with_reducible assumption) | assumption) | assumption | omega)
            obtain ⟨ad118, e118, hx118_0, hx118_1⟩ := at_T45 HR0_4.out x12_1 p118 q118
            cases e118
            replace hx118_0 := (HB.out.cell (World.block_lt_of_cell? w _ hx118_0)).trans hx118_0
            replace hx118_1 := (HB.out.cell (World.block_lt_of_cell? w _ hx118_1)).trans hx118_1
            replace p118 := eq_true p118
            replace q118 := eq_true q118
            try go_wp2_with (first | ((with_reducible refine gate_dst (N := 5) rfl ?_); refine box_event ?hg (N := 5) ?hd (cs := #[.string (⟨#[]⟩ : ByteArray), .string (⟨#[]⟩ : ByteArray)]) (t := 45) ?hr ?_; (case hd => rfl); (case hg => rfl); (case hr => first | (go_simp; done) | (go_simp; rfl)); intro gb119 hg w14 hbox hb; have n0_ := Aside0.mk (blk_below (g := gb117) (o := .cells #[.int .i64 a0_0, .int .i64 a0_1, .string a0_2, .string a0_3, .slice (some ad118) l0_4.length c0_4] 35 (0, 0)) (kz BK117.out) hb); have n1_ := Aside0.mk (below_step (bs GE117.out) hb); have n2_ := Aside0.mk (hbox); have n3_ := Aside0.mk ((by rw [hg]; exact (below_size (bs GE117.out)) : w.heap.size ≤ gb119)); have n4_ := Aside0.mk ((by rw [hg]; exact (below_size (bs GE117.out)) : w.heap.size ≤ gb119)); have n5_ := Aside0.mk ((by rw [hg]; exact Nat.ne_of_lt (blk_lt (g := gb117) (o := .cells #[.int .i64 a0_0, .int .i64 a0_1, .string a0_2, .string a0_3, .slice (some ad118) l0_4.length c0_4] 35 (0, 0)) (kz BK117.out)) : gb117 ≠ gb119)); have n6_ := Aside0.mk ((by rw [hg]; exact Nat.ne_of_gt (blk_lt (g := gb117) (o := .cells #[.int .i64 a0_0, .int .i64 a0_1, .string a0_2, .string a0_3, .slice (some ad118) l0_4.length c0_4] 35 (0, 0)) (kz BK117.out)) : gb119 ≠ gb117)); clear BK117; clear HB; have BK117 := n0_; have HB := n1_; have BK119 := n2_; have GW119 := n3_; have GE119 := n4_; have NB117_119 := n5_; have NB119_117 := n6_; clear n0_ n1_ n2_ n3_ n4_ n5_ n6_; clear hb hbox hg; have hnb15 := NB119_117.out; have hnc15 := NB117_119.out; have hcz16_0 : w14.cell? ⟨gb119, 0, none⟩ = some (.string (⟨#[]⟩ : ByteArray)) := (blk_cell BK119.out 0).trans rfl; have hcz16_1 : w14.cell? ⟨gb119, 1, none⟩ = some (.string (⟨#[]⟩ : ByteArray)) := (blk_cell BK119.out 1).trans rfl; have hfz16_0 := blk_frozen BK119.out 0; have hfz16_1 := blk_frozen BK119.out 1))
            have n0_ : Aside0 (((w14.setCell ⟨gb119, 0, none⟩ (.string ((rd_T45 l0_4 x12_1).f0))).setCell ⟨gb119, 1, none⟩ (.string ((rd_T45 l0_4 x12_1).f1))).heap[gb117]? = some (.cells #[.int .i64 a0_0, .int .i64 a0_1, .string a0_2, .string a0_3, .slice (some ad118) l0_4.length c0_4] 35 (0, 0))) := ⟨by (with_reducible repeat (first | refine blk_drewN ?_ _ | refine blk_drew ?_ | refine blk_alloc ?_ _)); refine blk_far ?_ NB117_119.out _; (with_reducible repeat (first | refine blk_drewN ?_ _ | refine blk_drew ?_ | refine blk_alloc ?_ _)); refine blk_far ?_ NB117_119.out _; (with_reducible repeat (first | refine blk_drewN ?_ _ | refine blk_drew ?_ | refine blk_alloc ?_ _)); exact BK117.out⟩
            have n1_ : Aside0 (((w14.setCell ⟨gb119, 0, none⟩ (.string ((rd_T45 l0_4 x12_1).f0))).setCell ⟨gb119, 1, none⟩ (.string ((rd_T45 l0_4 x12_1).f1))).heap[gb119]? = some (.cells #[.string ((rd_T45 l0_4 x12_1).f0), .string ((rd_T45 l0_4 x12_1).f1)] 45 (0, 0))) := ⟨by (with_reducible repeat (first | refine blk_drewN ?_ _ | refine blk_drew ?_ | refine blk_alloc ?_ _)); refine blk_put (cs := #[.string ((rd_T45 l0_4 x12_1).f0), .string (⟨#[]⟩ : ByteArray)]) ?_ 1 _ rfl; (with_reducible repeat (first | refine blk_drewN ?_ _ | refine blk_drew ?_ | refine blk_alloc ?_ _)); refine blk_put (cs := #[.string (⟨#[]⟩ : ByteArray), .string (⟨#[]⟩ : ByteArray)]) ?_ 0 _ rfl; (with_reducible repeat (first | refine blk_drewN ?_ _ | refine blk_drew ?_ | refine blk_alloc ?_ _)); exact BK119.out⟩
            have n2_ : Aside0 (Below w.heap.size w ((w14.setCell ⟨gb119, 0, none⟩ (.string ((rd_T45 l0_4 x12_1).f0))).setCell ⟨gb119, 1, none⟩ (.string ((rd_T45 l0_4 x12_1).f1)))) := ⟨by repeat (first | (with_reducible first | exact HB.out | apply below_alloc | apply pw_below_drewN | apply below_drew1 | refine below_set ?_ GE117.out | refine below_set ?_ GE119.out) | exact HB.out)⟩
            (try clear BK117)
            (try clear BK119)
            (try clear HB)
            generalize ((w14.setCell ⟨gb119, 0, none⟩ (.string ((rd_T45 l0_4 x12_1).f0))).setCell ⟨gb119, 1, none⟩ (.string ((rd_T45 l0_4 x12_1).f1))) = w17 at n0_ n1_ n2_ ⊢
            have BK117 := n0_
            have BK119 := n1_
            have HB := n2_
            clear n0_ n1_ n2_
            have n0_ := Aside0.mk (blk_drew BK117.out)
            have n1_ := Aside0.mk (blk_drew BK119.out)
            have n2_ := Aside0.mk (below_drew1 HB.out)
            clear BK117
            clear BK119
            clear HB
            have BK117 := n0_
            have BK119 := n1_
            have HB := n2_
            clear n0_ n1_ n2_
            refine start_ (n := 12) (S := fun w' => w'.cell? ⟨gb119, 0, none⟩ = some (.string ((rd_T45 l0_4 x12_1).f0)) ∧ w'.cell? ⟨gb119, 1, none⟩ = some (.string ((rd_T45 l0_4 x12_1).f1))) (ds := []) (fl 12 0) (by kernel_rfl) rfl rfl ⟨(blk_cell BK119.out 0).trans rfl, (blk_cell BK119.out 1).trans rfl⟩ (fun hHeld => ?_); refine with_tabW write_opened.tab5 write_opened.bits5 (fun HT_ HW_ => ?_)
            generalize w17.drew = w18 at BK117 BK119 HB hHeld ⊢
            refine pure_ (i := 0) (N := some 16) (v := ?_) (a' := ?_) (fl 12 1) rfl rfl (any_of HT_.out (by kernel_rfl)) (fun _ _ _ h => h) (Or.inl ⟨by rfl, ?_⟩) ?_ ?_
            rotate_left
            ·intro w'
             go_simp
             with_reducible rfl
            rotate_left
            ·simp only [Act.put, List.setIfInBounds_toArray, List.set_cons_zero, List.set_cons_succ, i64_w, i32_w]
             rfl
            refine pure_ (i := 1) (N := some 17) (v := ?_) (a' := ?_) (fl 12 2) rfl rfl (any_of HT_.out (by kernel_rfl)) (fun _ _ _ h => h) (Or.inl ⟨by rfl, ?_⟩) ?_ ?_
            rotate_left
            ·intro w'
             go_simp
             with_reducible rfl
            rotate_left
            ·simp only [Act.put, List.setIfInBounds_toArray, List.set_cons_zero, List.set_cons_succ, i64_w, i32_w]
             rfl
            refine pure_ (i := 5) (N := some 21) (v := ?_) (a' := ?_) #[true, true, false, false, false, true, false, false, false, false, false, false] rfl rfl (any_of HT_.out (by kernel_rfl)) (fun _ _ _ h => h) (Or.inl ⟨by rfl, ?_⟩) ?_ ?_
            rotate_left
            ·intro w'
             go_simp
             with_reducible rfl
            rotate_left
            ·simp only [Act.put, List.setIfInBounds_toArray, List.set_cons_zero, List.set_cons_succ, i64_w, i32_w]
             rfl
            refine take_ (i := 2) (N := some 18) (v := ?_) (a' := ?_) #[true, true, true, false, false, true, false, false, false, false, false, false] rfl rfl (take_ofW HT_.out HW_.out (by kernel_rfl)) (fun _ _ _ h => h) (Or.inl ⟨by rfl, ?_⟩) hHeld ?_ ?_
            rotate_left
            ·rintro w' ⟨s0, s1⟩
             go_simp
             with_reducible rfl
            rotate_left
            ·simp only [Act.put, List.setIfInBounds_toArray, List.set_cons_zero, List.set_cons_succ, i64_w, i32_w]
             rfl
            refine pure_ (i := 3) (N := some 19) (v := ?_) (a' := ?_) #[true, true, true, true, false, true, false, false, false, false, false, false] rfl rfl (any_of HT_.out (by kernel_rfl)) (fun _ _ _ h => h) (Or.inl ⟨by rfl, ?_⟩) ?_ ?_
            rotate_left
            ·intro w'
             go_simp
             with_reducible rfl
            rotate_left
            ·simp only [Act.put, List.setIfInBounds_toArray, List.set_cons_zero, List.set_cons_succ, i64_w, i32_w]
             rfl
            refine pure_ (i := 4) (N := some 20) (v := ?_) (a' := ?_) (fl 12 6) rfl rfl (any_of HT_.out (by kernel_rfl)) (fun _ _ _ h => h) (Or.inl ⟨by rfl, ?_⟩) ?_ ?_
            rotate_left
            ·intro w'
             go_simp
             with_reducible rfl
            rotate_left
            ·simp only [Act.put, List.setIfInBounds_toArray, List.set_cons_zero, List.set_cons_succ, i64_w, i32_w]
             rfl
            refine take_ (i := 6) (N := some 22) (v := ?_) (a' := ?_) (fl 12 7) rfl rfl (take_ofW HT_.out HW_.out (by kernel_rfl)) (fun _ _ _ h => h) (Or.inl ⟨by rfl, ?_⟩) hHeld ?_ ?_
            rotate_left
            ·rintro w' ⟨s0, s1⟩
             go_simp
             with_reducible rfl
            rotate_left
            ·simp only [Act.put, List.setIfInBounds_toArray, List.set_cons_zero, List.set_cons_succ, i64_w, i32_w]
             rfl
            refine one_ (i := 7) (N := some 23) (fl 12 8) rfl rfl (one_of HT_.out (by kernel_rfl)) (by decide) (fun K hK => ?_)
            refine goes_ Tryd.func73 (by kernel_rfl) rfl #[.string ((rd_T45 l0_4 x12_1).f1)] (by rfl) rfl rfl (by (try simp only [List.map_toArray, List.map_cons, List.map_nil]); first | done | rfl | (simp only [List.length_drop, List.length_take]; rfl)) ?_
            with_reducible refine (refs_Value.calls ((rd_T45 l0_4 x12_1).f1) t120 _ A10.out).mono ?_
            rintro e w19 ⟨rfl, hb⟩
            refine ⟨_, rfl, ?_⟩
            have n0_ := Aside0.mk (blk_below (g := gb117) (o := .cells #[.int .i64 a0_0, .int .i64 a0_1, .string a0_2, .string a0_3, .slice (some ad118) l0_4.length c0_4] 35 (0, 0)) (kz BK117.out) hb)
            have n1_ := Aside0.mk (blk_below (g := gb119) (o := .cells #[.string ((rd_T45 l0_4 x12_1).f0), .string ((rd_T45 l0_4 x12_1).f1)] 45 (0, 0)) (kz BK119.out) hb)
            have n2_ := Aside0.mk (below_step (by repeat (first | (with_reducible first | exact HB.out | apply below_alloc | apply pw_below_drewN | apply below_drew1 | refine below_set ?_ GE117.out | refine below_set ?_ GE119.out) | exact HB.out)) hb)
            clear BK117
            clear BK119
            clear HB
            have BK117 := n0_
            have BK119 := n1_
            have HB := n2_
            clear n0_ n1_ n2_
            (try clear hb)
            (try clear hb2)
            (try clear hk)
            (try clear hi)
            refine hK.out _ _ ⟨(blk_cell BK119.out 0).trans rfl, (blk_cell BK119.out 1).trans rfl⟩ (fun hHeld => ?_)
            clear hK K
            refine norm_ (a' := ?_) ?_ ?_
            rotate_left
            ·show Act.put _ (some 23) _ = _
             simp only [Act.put, List.setIfInBounds_toArray, List.set_cons_zero, List.set_cons_succ, i64_w, i32_w]
             rfl
            refine pure_ (i := 8) (N := some 24) (v := ?_) (a' := ?_) (fl 12 9) rfl rfl (any_of HT_.out (by kernel_rfl)) (fun _ _ _ h => h) (Or.inl ⟨by rfl, ?_⟩) ?_ ?_
            rotate_left
            ·intro w'
             go_simp
             with_reducible rfl
            rotate_left
            ·simp only [Act.put, List.setIfInBounds_toArray, List.set_cons_zero, List.set_cons_succ, i64_w, i32_w]
             rfl
            refine pure_ (i := 9) (N := some 25) (v := ?_) (a' := ?_) (fl 12 10) rfl rfl (any_of HT_.out (by kernel_rfl)) (fun _ _ _ h => h) (Or.inl ⟨by rfl, ?_⟩) ?_ ?_
            rotate_left
            ·intro w'
             go_simp
             with_reducible rfl
            rotate_left
            ·simp only [Act.put, List.setIfInBounds_toArray, List.set_cons_zero, List.set_cons_succ, i64_w, i32_w]
             rfl
            refine pure_ (i := 10) (N := some 26) (v := ?_) (a' := ?_) (fl 12 11) rfl rfl (any_of HT_.out (by kernel_rfl)) (fun _ _ _ h => h) (Or.inl ⟨by rfl, ?_⟩) ?_ ?_
            rotate_left
            ·intro w'
             go_simp
             with_reducible rfl
            rotate_left
            ·simp only [Act.put, List.setIfInBounds_toArray, List.set_cons_zero, List.set_cons_succ, i64_w, i32_w]
             rfl
            refine pure_ (i := 11) (N := some 3) (v := ?_) (a' := ?_) (fl 12 12) rfl rfl (any_of HT_.out (by kernel_rfl)) (fun _ _ _ h => h) (Or.inl ⟨by rfl, ?_⟩) ?_ ?_
            rotate_left
            ·intro w'
             go_simp
             with_reducible rfl
            rotate_left
            ·simp only [Act.put, List.setIfInBounds_toArray, List.set_cons_zero, List.set_cons_succ, i64_w, i32_w]
             rfl
            refine done_ (done_of HT_.out (by kernel_rfl)) ?_
            try go_wp2
            go_roundg k1
            case measure => have := HK1.out; omega
            case rel => exact ⟨(x3_1 ++ (((((⟨#[32]⟩ : ByteArray) ++ ((rd_T45 l0_4 x12_1).f0)) ++ (⟨#[61, 34]⟩ : ByteArray)) ++ t120) ++ (⟨#[34]⟩ : ByteArray))), (wrap64 (x12_1 + 1)), (by first | rfl | (simp; done) | (simp [*]; done) | (simp; generalize ByteArray.toList _ = l_; cases l_ <;> rfl)), (by first | rfl | (simp; done) | (simp [*]; done) | (simp; generalize ByteArray.toList _ = l_; cases l_ <;> rfl)), H', ⟨by have := HK1.out; omega⟩, ⟨by (with_reducible repeat (first | refine blk_drewN ?_ _ | refine blk_drew ?_ | refine blk_alloc ?_ _)); exact BK117.out⟩, ⟨by repeat (first | (with_reducible first | exact HB.out | apply below_alloc | apply pw_below_drewN | apply below_drew1 | refine below_set ?_ GE117.out | refine below_set ?_ GE119.out) | exact HB.out)⟩⟩
           ·rw [if_neg c13] at H
            exact absurd H (by simp)
          ·rw [if_neg c12] at H
           exact absurd H (by simp)
         ·rw [if_neg c11] at H
          exact absurd H (by simp)
        ·rw [if_neg c9] at H
         exact absurd H (by simp)
       ·rw [if_neg c8] at H
        exact absurd H (by simp)
      ·rw [if_neg c7] at H
       exact absurd H (by simp)
     ·rw [if_neg c6] at H
      exact absurd H (by simp)
    ·rw [if_neg c5] at H
     have c5b0 : decide (x12_1 < (l0_4.length : Int)) = false := decide_eq_false c5
     clear c5
     by_cases c20 : x3_1.size + 1 ≤ 9223372036854775807
     ·rw [if_pos c20] at H
      have c20b0 := eq_true c20
      have c20b1 : decide (x3_1.size + 1 ≤ 9223372036854775807) = true := decide_eq_true c20
      try have c20b2 : (9223372036854775807 < x3_1.size + 1) = False := eq_false (Nat.not_lt.2 c20)
      obtain rfl := Option.some.inj H
      go_wp2
      go_ret
      exact ⟨by first | rfl | (simp [errW_none, errW_some] <;> rfl) | (simp [*, errW_none, errW_some] <;> rfl), bs GE117.out⟩
     ·rw [if_neg c20] at H
      exact absurd H (by simp)
 ·rw [if_neg c2] at H
  exact absurd H (by simp)
end Go.Proofs.YtdnbaliibiginaaDoorH.W8

/- Words and walks used below. -/
namespace Go.Proofs.YtdnbaliibiginaaDoorH.W8
open Go.RowKit Go.Proofs.YtdnbaliibiginaaDoorW.PrintWords Go.Proofs.YtdnbaliibiginaaDoorW.PrintLast Go.Proofs.YtdnbaliibiginaaDoorW.PrintMore
attribute [local go_sem] max2_int min2_int max_two min_two max_three min_three max_four min_four   -- for this text's walks alone
def names_Raw.f (k : Nat) (a0 : ByteArray) : Option (Bool) := (names_among.f k a0 (([(⟨#[105, 102, 114, 97, 109, 101]⟩ : ByteArray), (⟨#[110, 111, 101, 109, 98, 101, 100]⟩ : ByteArray), (⟨#[110, 111, 102, 114, 97, 109, 101, 115]⟩ : ByteArray), (⟨#[115, 99, 114, 105, 112, 116]⟩ : ByteArray), (⟨#[115, 116, 121, 108, 101]⟩ : ByteArray), (⟨#[120, 109, 112]⟩ : ByteArray)] : List ByteArray))).bind fun t136 => (some t136)
set_option maxHeartbeats 8000000 in
set_option maxRecDepth 100000 in
theorem names_Raw.calls (k : Nat) (a0 : ByteArray) (r : Bool) (w : World) (h : names_Raw.f k a0 = some r) :
  Calls Tryd.prog 42 #[.string a0] w fun e w' => e = .returned (.bool r) ∧ Below w.heap.size w w' := by
 have HB := Aside0.mk (Below.refl w.heap.size w)
 have H : ((names_among.f k a0 (([(⟨#[105, 102, 114, 97, 109, 101]⟩ : ByteArray), (⟨#[110, 111, 101, 109, 98, 101, 100]⟩ : ByteArray), (⟨#[110, 111, 102, 114, 97, 109, 101, 115]⟩ : ByteArray), (⟨#[115, 99, 114, 105, 112, 116]⟩ : ByteArray), (⟨#[115, 116, 121, 108, 101]⟩ : ByteArray), (⟨#[120, 109, 112]⟩ : ByteArray)] : List ByteArray))).bind fun t136 => (some t136)) = some r := h
 clear h
 obtain ⟨y133, hy133⟩ : ∃ y_ : List ByteArray, y_ = (([(⟨#[105, 102, 114, 97, 109, 101]⟩ : ByteArray), (⟨#[110, 111, 101, 109, 98, 101, 100]⟩ : ByteArray), (⟨#[110, 111, 102, 114, 97, 109, 101, 115]⟩ : ByteArray), (⟨#[115, 99, 114, 105, 112, 116]⟩ : ByteArray), (⟨#[115, 116, 121, 108, 101]⟩ : ByteArray), (⟨#[120, 109, 112]⟩ : ByteArray)] : List ByteArray)) := ⟨_, rfl⟩
 replace H : ((names_among.f k a0 y133).bind fun t136 => (some t136)) = some r := by first | (rw [hy133]; with_reducible exact H) | (have H2_ := (Option.bind_some _ _).symm.trans H; rw [hy133]; with_reducible exact H2_) | (have H2_ := (Option.bind_some _ _).symm.trans H; with_reducible exact H2_) | with_reducible exact H | (rw [hy133]; exact H) | exact H
 have Ny133 := Aside0.mk hy133
 clear hy133
 replace H := Option.bind_eq_some_iff.mp H
 obtain ⟨t136, A20, H⟩ := H
 replace H : (some t136) = some r := H
 have A2 := Aside0.mk A20
 clear A20
 obtain rfl := Option.some.inj H
 go_enter Tryd.func42, Tryd.ntmps42
 go_wp2_with (first | ((with_reducible refine gate_dst (N := 4) rfl ?_); refine Kd.R_lit Kd.string _ 9 ?hg (N := 4) ?hd (xs := ([(⟨#[105, 102, 114, 97, 109, 101]⟩ : ByteArray), (⟨#[110, 111, 101, 109, 98, 101, 100]⟩ : ByteArray), (⟨#[110, 111, 102, 114, 97, 109, 101, 115]⟩ : ByteArray), (⟨#[115, 99, 114, 105, 112, 116]⟩ : ByteArray), (⟨#[115, 116, 121, 108, 101]⟩ : ByteArray), (⟨#[120, 109, 112]⟩ : ByteArray)] : List ByteArray)) (inner := [.string (⟨#[105, 102, 114, 97, 109, 101]⟩ : ByteArray), .string (⟨#[110, 111, 101, 109, 98, 101, 100]⟩ : ByteArray), .string (⟨#[110, 111, 102, 114, 97, 109, 101, 115]⟩ : ByteArray), .string (⟨#[115, 99, 114, 105, 112, 116]⟩ : ByteArray), .string (⟨#[115, 116, 121, 108, 101]⟩ : ByteArray), .string (⟨#[120, 109, 112]⟩ : ByteArray)]) (ok := fun _ => True) (okp := fun _ => True) ?hr ?hp (fun _ hk => hk) trivial (Below.refl _ _) (Nat.le_refl _) (by simp) ?_; (case hd => rfl); (case hg => rfl); (case hr => first | (go_simp; done) | (go_simp; rfl)); (case hp => exact (Reps.one (show Kd.M Kd.string _ _ _ (⟨#[105, 102, 114, 97, 109, 101]⟩ : ByteArray) [.string (⟨#[105, 102, 114, 97, 109, 101]⟩ : ByteArray)] from rfl) (Reps.one (show Kd.M Kd.string _ _ _ (⟨#[110, 111, 101, 109, 98, 101, 100]⟩ : ByteArray) [.string (⟨#[110, 111, 101, 109, 98, 101, 100]⟩ : ByteArray)] from rfl) (Reps.one (show Kd.M Kd.string _ _ _ (⟨#[110, 111, 102, 114, 97, 109, 101, 115]⟩ : ByteArray) [.string (⟨#[110, 111, 102, 114, 97, 109, 101, 115]⟩ : ByteArray)] from rfl) (Reps.one (show Kd.M Kd.string _ _ _ (⟨#[115, 99, 114, 105, 112, 116]⟩ : ByteArray) [.string (⟨#[115, 99, 114, 105, 112, 116]⟩ : ByteArray)] from rfl) (Reps.one (show Kd.M Kd.string _ _ _ (⟨#[115, 116, 121, 108, 101]⟩ : ByteArray) [.string (⟨#[115, 116, 121, 108, 101]⟩ : ByteArray)] from rfl) (Reps.one (show Kd.M Kd.string _ _ _ (⟨#[120, 109, 112]⟩ : ByteArray) [.string (⟨#[120, 109, 112]⟩ : ByteArray)] from rfl) (Reps.none _ _)))))))); intro v134 w3 ho4 hb hg_ hnew_; clear hg_ hnew_; (first | rw [← Ny133.out] at ho4 | (simp only [Int.reduceToNat] at ho4; rw [← Ny133.out] at ho4)); have n0_ := Aside0.mk (Kd.R_lower ho4 (below_size bz)); have n1_ := Aside0.mk (below_step bz hb); clear HB; have HO135 := n0_; have HB := n1_; clear n0_ n1_; clear hb ho4; obtain ⟨Ao5, co5, eo5⟩ := Kd.R_slice HO135.out; subst eo5) | ((with_reducible refine gate_callee (f := 52) rfl ?_); refine goesL_ (some 5) rfl rfl Tryd.func52 (by kernel_rfl) rfl #[.string a0, .slice Ao5 y133.length co5] rfl (by (try simp only [List.map_toArray, List.map_cons, List.map_nil]); first | done | rfl | (simp only [List.length_drop, List.length_take]; rfl)) ?_; (with_reducible refine (names_among.calls k a0 _ _ y133 t136 _ ?side1 ?side2 A2.out).mono ?_); (case side1 => exact cz (Kd.R_reads' HO135.out).2.2); (case side2 => exact (Kd.R_reads' HO135.out).2.1); rintro e w' ⟨rfl, ⟨nd, rfl⟩⟩; refine ⟨_, rfl, ?_⟩))
 go_ret
 exact ⟨by first | rfl | (simp [errW_none, errW_some] <;> rfl) | (simp [*, errW_none, errW_some] <;> rfl), bz⟩
end Go.Proofs.YtdnbaliibiginaaDoorH.W8
