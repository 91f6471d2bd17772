/- Lemmas and walks, part 33: QPW8x38, QPW8x16, QE8X, QE8I, QPW8x41. -/
import Derived.Test.YtdnbaliibiginaaDoorY4
import Derived.Test.YtdnbaliibiginaaDoorY7
import Derived.Test.YtdnbaliibiginaaDoorY32
import Derived.Test.YtdnbaliibiginaaDoorY10
import Derived.Test.YtdnbaliibiginaaDoorY31
import Derived.Deep.RegionHeld3
import Derived.Test.YtdnbaliibiginaaDoorY12
import Derived.Test.YtdnbaliibiginaaDoorY21
set_option linter.unusedVariables false
set_option linter.unusedSimpArgs false

/- Words and walks used below. -/
namespace Go.Proofs.YtdnbaliibiginaaDoorH.W8
open Go.RowKit Go.Proofs.YtdnbaliibiginaaDoorW.PrintWords Go.Proofs.YtdnbaliibiginaaDoorW.PrintLast Go.Proofs.YtdnbaliibiginaaDoorW.PrintMore
attribute [local go_sem] max2_int min2_int max_two min_two max_three min_three max_four min_four   -- for this text's walks alone
def boltinglaw08_bound.l0 : Nat → List (S35) → List (S35) → Int → Option ((List (S35)))
 | 0, _, _, _ => none
 | k + 1, x0, x3, x4 => if x4 < (x0.length : Int) then (if x4 < 40 then (if 0 ≤ x4 then (if 0 ≤ (mn (((rd_T35 x0 x4).f4).length : Int) 6) then (if (mn (((rd_T35 x0 x4).f4).length : Int) 6) ≤ (((rd_T35 x0 x4).f4).length : Int) then (if x3.length < 1954687338268 then (boltinglaw08_bound.l0 k x0 (x3 ++ [(⟨(rd_T35 x0 x4).f0, (rd_T35 x0 x4).f1, (rd_T35 x0 x4).f2, (rd_T35 x0 x4).f3, (((rd_T35 x0 x4).f4).take ((mn (((rd_T35 x0 x4).f4).length : Int) 6) : Int).toNat)⟩ : S35)]) (wrap64 (x4 + 1))) else (none)) else (none)) else (none)) else (none)) else (some x3)) else (some x3)
def boltinglaw08_bound.f (k : Nat) (l0 : List (S35)) : Option ((List (S35))) := boltinglaw08_bound.l0 k l0 (([] : List (S35))) 0
set_option maxHeartbeats 8000000 in
set_option maxRecDepth 100000 in
theorem boltinglaw08_bound.calls (k : Nat) (P0_ : Nat → Prop) (A0 : Option Addr) (c0 : Nat) (l0 : List (S35)) (r : List (S35)) (w : World) (hs0 : Kd.V k35 35 w w.heap.size (fun k_ => P0_ k_) (.slice A0 l0.length c0) l0) (h : boltinglaw08_bound.f k l0 = some r) :
  Calls Tryd.prog 7 #[.slice A0 l0.length c0] w fun e w' => ∃ v0_ : Value, e = .returned (v0_) ∧ Kd.N k35 35 w' w.heap.size (fun k_ => (P0_ k_ ∨ w.heap.size ≤ k_)) v0_ r ∧ Below w.heap.size w w' := by
 have hu35 := Tryd.underlying35
 have HO0 := Aside0.mk (show Kd.V k35 35 w w.heap.size (fun k_ => (P0_ k_ ∨ w.heap.size ≤ k_)) (.slice A0 l0.length c0) l0 from Kd.V_mono hs0 (fun k_ hk => .inl hk))
 have HB := Aside0.mk (Below.refl w.heap.size w)
 have H : (boltinglaw08_bound.l0 k l0 (([] : List (S35))) 0) = some r := h
 clear h
 obtain ⟨y293, hy293⟩ : ∃ y_ : List (S35), y_ = (([] : List (S35))) := ⟨_, rfl⟩
 replace H : (boltinglaw08_bound.l0 k l0 y293 0) = some r := by first | (rw [hy293]; with_reducible exact H) | (have H2_ := (Option.bind_some _ _).symm.trans H; rw [hy293]; with_reducible exact H2_) | (have H2_ := (Option.bind_some _ _).symm.trans H; with_reducible exact H2_) | with_reducible exact H | (rw [hy293]; exact H) | exact H
 have Ny293 := Aside0.mk hy293
 clear hy293
 have H' := Aside0.mk H
 clear H
 go_enter Tryd.func7, Tryd.ntmps7
 go_wp2_with (first | ((with_reducible refine gate_dst (N := 6) rfl ?_); refine Kd.N_lit k35 _ 35 ?hg (N' := 6) ?hd (xs := ([] : List (S35))) (inner := []) (ok := (fun k_ => (P0_ k_ ∨ w.heap.size ≤ k_))) (okp := (fun k_ => (P0_ k_ ∨ w.heap.size ≤ k_))) ?hr ?hp (fun _ hk => hk) ((show ∀ k_, w.heap.size ≤ k_ → (fun k_ => (P0_ k_ ∨ w.heap.size ≤ k_)) k_ from fun k_ hk => (.inr (Nat.le_trans (below_size bz) hk))) _ (Nat.le_refl _)) (Below.refl _ _) (Nat.le_refl _) (by simp) ?_; (case hd => rfl); (case hg => rfl); (case hr => first | (go_simp; done) | (go_simp; rfl)); (case hp => exact (Reps.none _ _)); intro v294 w2 ho3 hb hg_ hnew_; clear hg_ hnew_; (first | rw [← Ny293.out] at ho3 | (simp only [Int.reduceToNat] at ho3; rw [← Ny293.out] at ho3)); have n0_ := Aside0.mk (Kd.V_elder' (by (with_reducible repeat (first | apply Kd.V_alloc | apply Kd.V_drewN | apply Kd.V_drew)); exact HO0.out) (by first | exact Kd.N_base ho3 | exact Kd.R_base ho3) hb); have n1_ := Aside0.mk (Kd.N_lower ho3 (below_size bz)); have n2_ := Aside0.mk (below_step bz hb); clear HO0; clear HB; have HO0 := n0_; have HO295 := n1_; have HB := n2_; clear n0_ n1_ n2_; clear hb ho3))
 go_loopg [3, 4] k (fun kq v3 v4 w' => ∃ (x3_1 : List (S35)) (x4_1 : Int), v4 = .int .i64 x4_1 ∧ Aside0 (boltinglaw08_bound.l0 kq l0 x3_1 x4_1 = some r) ∧ Aside0 (kq ≤ k) ∧ Aside0 (Kd.V k35 35 w' w.heap.size (fun k_ => (P0_ k_ ∨ w.heap.size ≤ k_) ∧ some k_ ≠ (v3 : Value).ownBlock) (.slice A0 l0.length c0) l0) ∧ Aside0 (Kd.N k35 35 w' w.heap.size (fun k_ => (P0_ k_ ∨ w.heap.size ≤ k_)) v3 x3_1) ∧ Aside0 (Below w.heap.size w w'))
 case atStart => exact ⟨(y293), (0), (by first | rfl | (simp; done) | (simp [*]; done) | (simp; generalize ByteArray.toList _ = l_; cases l_ <;> rfl)), H', ⟨Nat.le_refl _⟩, ⟨by (with_reducible repeat (first | apply Kd.V_alloc | apply Kd.V_drewN | apply Kd.V_drew)); exact HO0.out⟩, ⟨by (with_reducible repeat (first | apply Kd.N_alloc | apply Kd.N_drewN | apply Kd.N_drew)); exact HO295.out⟩, ⟨bz⟩⟩
 case round =>
  clear H'
  try clear p2
  obtain ⟨x3_1, x4_1, rfl, HA, HK1, HO_0, HO_3, HB⟩ := hrel
  cases gk with
  | zero => exact absurd HA.out (by simp [boltinglaw08_bound.l0])
  | succ k1 =>
   have H := HA.out
   clear HA
   simp only [boltinglaw08_bound.l0] at H
   by_cases c4 : x4_1 < (l0.length : Int)
   ·rw [if_pos c4] at H
    have c4b0 : decide (x4_1 < (l0.length : Int)) = true := decide_eq_true c4
    clear c4
    by_cases c5 : x4_1 < 40
    ·rw [if_pos c5] at H
     have c5b0 : decide (x4_1 < 40) = true := decide_eq_true c5
     clear c5
     by_cases c6 : 0 ≤ x4_1
     ·rw [if_pos c6] at H
      have c6b0 : decide (0 ≤ x4_1) = true := decide_eq_true c6
      clear c6
      obtain ⟨ji7, hji7⟩ : ∃ j_ : Int, (mn (((rd_T35 l0 x4_1).f4).length : Int) 6) = j_ := ⟨_, rfl⟩
      replace H : (if 0 ≤ (ji7) then (if (ji7) ≤ (((rd_T35 l0 x4_1).f4).length : Int) then (if x3_1.length < 1954687338268 then (boltinglaw08_bound.l0 k1 l0 (x3_1 ++ [(⟨(rd_T35 l0 x4_1).f0, (rd_T35 l0 x4_1).f1, (rd_T35 l0 x4_1).f2, (rd_T35 l0 x4_1).f3, (((rd_T35 l0 x4_1).f4).take ((ji7) : Int).toNat)⟩ : S35)]) (wrap64 (x4_1 + 1))) else (none)) else (none)) else (none)) = some r := by first | (rw [hji7] at H; exact H) | (simp only [hji7] at H ⊢; exact H)
      have hji7_ : (if 6 < (((rd_T35 l0 x4_1).f4).length : Int) then 6 else (((rd_T35 l0 x4_1).f4).length : Int)) = ji7 := hji7
      by_cases c8 : 0 ≤ (ji7)
      ·rw [if_pos c8] at H
       have c8b0 := eq_true c8
       have c8b1 : decide (0 ≤ (ji7)) = true := decide_eq_true c8
       clear c8
       by_cases c9 : (ji7) ≤ (((rd_T35 l0 x4_1).f4).length : Int)
       ·rw [if_pos c9] at H
        have c9b0 := eq_true c9
        have c9b1 : decide ((ji7) ≤ (((rd_T35 l0 x4_1).f4).length : Int)) = true := decide_eq_true c9
        clear c9
        obtain ⟨y298, hy298⟩ : ∃ y_ : List (S45), y_ = (((rd_T35 l0 x4_1).f4).take ((ji7) : Int).toNat) := ⟨_, rfl⟩
        replace H : (if x3_1.length < 1954687338268 then (boltinglaw08_bound.l0 k1 l0 (x3_1 ++ [(⟨(rd_T35 l0 x4_1).f0, (rd_T35 l0 x4_1).f1, (rd_T35 l0 x4_1).f2, (rd_T35 l0 x4_1).f3, y298⟩ : S35)]) (wrap64 (x4_1 + 1))) else (none)) = some r := by first | (rw [hy298]; with_reducible exact H) | (have H2_ := (Option.bind_some _ _).symm.trans H; rw [hy298]; with_reducible exact H2_) | (have H2_ := (Option.bind_some _ _).symm.trans H; with_reducible exact H2_) | with_reducible exact H | (rw [hy298]; exact H) | exact H
        have Ny298 := Aside0.mk hy298
        clear hy298
        by_cases c10 : x3_1.length < 1954687338268
        ·rw [if_pos c10] at H
         have LMc10 := Aside0.mk c10
         clear c10
         obtain ⟨y303, hy303⟩ : ∃ y_ : List (S35), y_ = (x3_1 ++ [(⟨(rd_T35 l0 x4_1).f0, (rd_T35 l0 x4_1).f1, (rd_T35 l0 x4_1).f2, (rd_T35 l0 x4_1).f3, y298⟩ : S35)]) := ⟨_, rfl⟩
         replace H : (boltinglaw08_bound.l0 k1 l0 y303 (wrap64 (x4_1 + 1))) = some r := by first | (rw [hy303]; with_reducible exact H) | (have H2_ := (Option.bind_some _ _).symm.trans H; rw [hy303]; with_reducible exact H2_) | (have H2_ := (Option.bind_some _ _).symm.trans H; with_reducible exact H2_) | with_reducible exact H | (rw [hy303]; exact H) | exact H
         have Ny303 := Aside0.mk hy303
         clear hy303
         have H' := Aside0.mk H
         clear H
         have p296 : 0 ≤ (x4_1 : Int) := (by first | exact of_decide_eq_true (by first | (with_reducible assumption) | assumption) | assumption | omega)
         have q296 : x4_1 < (l0.length : Int) := (by first | exact of_decide_eq_true (by first | (with_reducible assumption) | assumption) | assumption | omega)
         obtain ⟨ad296, A296_4, c296_4, e296, hx296_0, hx296_1, hx296_2, hx296_3, hx296_4, hl296_4, hi296_4⟩ := at_T35 (Kd.V_reads' HO_0.out).2.2 x4_1 p296 q296
         cases e296
         obtain ⟨ce296, hce296, hMe296, hcc296⟩ := Kd.V_get HO_0.out z35 x4_1 p296 (by first | exact q296 | exact (by first | exact of_decide_eq_true (by first | (with_reducible assumption) | assumption) | assumption | omega) | (have e_ := (Kd.V_reads' HO_0.out).1; omega))
         obtain ⟨ua296_4, uc296_4, rfl, ul296_4, ge296_4⟩ := k35_openF hMe296
         have hv296_4 := hcc296 4 _ rfl
         rw [add_field _ _ 4 (by omega)] at hv296_4
         replace hv296_4 := Option.some.inj (hv296_4.symm.trans hx296_4)
         injection hv296_4 with hva_ hvn_ hvc_
         rw [hva_] at ge296_4
         rw [hvc_] at ul296_4
         have HL296_4 := Aside0.mk (show Kd.V k45 45 _ w.heap.size _ _ ((rd_T35 l0 x4_1).f4) from Kd.V_mk ul296_4 ge296_4)
         clear hva_ hvn_ hvc_ ge296_4 ul296_4
         clear hcc296 hce296
         have HR296_4 := Aside0.mk hi296_4
         have HC296_4 := Aside0.mk hl296_4
         clear hi296_4 hl296_4
         replace p296 := eq_true p296
         replace q296 := eq_true q296
         go_wp2_with (first | ((with_reducible refine gate_dst (N := 5) rfl ?_); refine box_event ?hg (N := 5) ?hd (cs := #[.int .i64 0, .int .i64 0, .string (⟨#[]⟩ : ByteArray), .string (⟨#[]⟩ : ByteArray), .slice none 0 0]) (t := 35) ?hr ?_; (case hd => rfl); (case hg => rfl); (case hr => first | (go_simp; done) | (go_simp; rfl)); intro gb297 hg w11 hbox hb; have n0_ := Aside0.mk (Kd.V_below (Kd.V_elderB (by (with_reducible repeat (first | apply Kd.V_alloc | apply Kd.V_drewN | apply Kd.V_drew)); exact HO_0.out) gb297 (Nat.le_of_eq hg.symm)) hb); have n1_ := Aside0.mk (Kd.N_below (Kd.N_elderB (nz HO_3.out) gb297 (Nat.le_of_eq hg.symm)) hb); have n2_ := Aside0.mk (Kd.V_below (Kd.V_elderB (by (with_reducible repeat (first | apply Kd.V_alloc | apply Kd.V_drewN | apply Kd.V_drew)); exact HL296_4.out) gb297 (Nat.le_of_eq hg.symm)) hb); have n3_ := Aside0.mk (Kd.C_below (by repeat (first | (with_reducible exact HR296_4.out) | (with_reducible refine Kd.C_alloc ?_ _) | (with_reducible refine Kd.C_drewN ?_ _) | (with_reducible refine Kd.C_drew ?_) | exact HR296_4.out)) hb); have n4_ := Aside0.mk (below_step bz hb); have n5_ := Aside0.mk (hbox); have n6_ := Aside0.mk ((by rw [hg]; exact (below_size bz) : w.heap.size ≤ gb297)); have n7_ := Aside0.mk ((by rw [hg]; exact (below_size bz) : w.heap.size ≤ gb297)); clear HO_0; clear HO_3; clear HL296_4; clear HR296_4; clear HB; have HO_0 := n0_; have HO_3 := n1_; have HL296_4 := n2_; have HR296_4 := n3_; have HB := n4_; have BK297 := n5_; have GW297 := n6_; have GE297 := n7_; clear n0_ n1_ n2_ n3_ n4_ n5_ n6_ n7_; clear hb hbox hg; have hcz12_0 : w11.cell? ⟨gb297, 0, none⟩ = some (.int .i64 0) := (blk_cell BK297.out 0).trans rfl; have hcz12_1 : w11.cell? ⟨gb297, 1, none⟩ = some (.int .i64 0) := (blk_cell BK297.out 1).trans rfl; have hcz12_2 : w11.cell? ⟨gb297, 2, none⟩ = some (.string (⟨#[]⟩ : ByteArray)) := (blk_cell BK297.out 2).trans rfl; have hcz12_3 : w11.cell? ⟨gb297, 3, none⟩ = some (.string (⟨#[]⟩ : ByteArray)) := (blk_cell BK297.out 3).trans rfl; have hcz12_4 : w11.cell? ⟨gb297, 4, none⟩ = some (.slice none 0 0) := (blk_cell BK297.out 4).trans rfl; have hfz12_0 := blk_frozen BK297.out 0; have hfz12_1 := blk_frozen BK297.out 1; have hfz12_2 := blk_frozen BK297.out 2; have hfz12_3 := blk_frozen BK297.out 3; have hfz12_4 := blk_frozen BK297.out 4) | ((with_reducible refine gate_store (t := 35) (p := 5) rfl ?_); refine store_event (t := 35) (p := 5) (v := ?vo_w13) (w1 := (((((w11.setCell ⟨gb297, 0, none⟩ (.int .i64 ((rd_T35 l0 x4_1).f0))).setCell ⟨gb297, 1, none⟩ (.int .i64 ((rd_T35 l0 x4_1).f1))).setCell ⟨gb297, 2, none⟩ (.string ((rd_T35 l0 x4_1).f2))).setCell ⟨gb297, 3, none⟩ (.string ((rd_T35 l0 x4_1).f3))).setCell ⟨gb297, 4, none⟩ (.slice A296_4 ((rd_T35 l0 x4_1).f4).length c296_4))) ?hg ?ho ?hn ?hr ?_; (case ho => rfl); (case hg => rfl); (case hn => rfl); (case hr => first | (go_simp; done) | (go_simp; rfl)); intro w13 hw; have n0_ : Aside0 (Kd.V k35 35 w13 w.heap.size (fun k_ => (P0_ k_ ∨ w.heap.size ≤ k_) ∧ some k_ ≠ (u3 : Value).ownBlock ∧ k_ ≠ gb297) (.slice (some ad296) l0.length c0) l0) := ⟨(by rw [hw]; exact (by (with_reducible repeat (first | apply Kd.V_alloc | apply Kd.V_drewN | apply Kd.V_drew)); exact Kd.V_mono (Kd.V_far (p := ⟨gb297, 4, none⟩) (Kd.V_far (p := ⟨gb297, 3, none⟩) (Kd.V_far (p := ⟨gb297, 2, none⟩) (Kd.V_far (p := ⟨gb297, 1, none⟩) (Kd.V_far (p := ⟨gb297, 0, none⟩) (Kd.V_mono HO_0.out (fun k_ hk => (⟨hk, hk.2⟩ : _ ∧ k_ ≠ gb297))) (fun _ hk => hk.2) (.int .i64 ((rd_T35 l0 x4_1).f0))) (fun _ hk => hk.2) (.int .i64 ((rd_T35 l0 x4_1).f1))) (fun _ hk => hk.2) (.string ((rd_T35 l0 x4_1).f2))) (fun _ hk => hk.2) (.string ((rd_T35 l0 x4_1).f3))) (fun _ hk => hk.2) (.slice A296_4 ((rd_T35 l0 x4_1).f4).length c296_4)) (fun _ hk => ⟨hk.1.1.1, ⟨hk.1.1.2, hk.1.2⟩⟩)))⟩; have n1_ : Aside0 (Kd.N k35 35 w13 w.heap.size (fun k_ => (P0_ k_ ∨ w.heap.size ≤ k_) ∧ k_ ≠ gb297) u3 x3_1) := ⟨(by rw [hw]; exact (by (with_reducible repeat (first | apply Kd.N_alloc | apply Kd.N_drewN | apply Kd.N_drew)); exact Kd.N_mono (Kd.N_far (p := ⟨gb297, 4, none⟩) (Kd.N_far (p := ⟨gb297, 3, none⟩) (Kd.N_far (p := ⟨gb297, 2, none⟩) (Kd.N_far (p := ⟨gb297, 1, none⟩) (Kd.N_far (p := ⟨gb297, 0, none⟩) (Kd.N_mono HO_3.out (fun k_ hk => (⟨hk, hk.2⟩ : _ ∧ k_ ≠ gb297))) (fun _ hk => hk.2) (.int .i64 ((rd_T35 l0 x4_1).f0))) (fun _ hk => hk.2) (.int .i64 ((rd_T35 l0 x4_1).f1))) (fun _ hk => hk.2) (.string ((rd_T35 l0 x4_1).f2))) (fun _ hk => hk.2) (.string ((rd_T35 l0 x4_1).f3))) (fun _ hk => hk.2) (.slice A296_4 ((rd_T35 l0 x4_1).f4).length c296_4)) (fun _ hk => ⟨hk.1.1, hk.1.2⟩)))⟩; have n2_ : Aside0 (Kd.V k45 45 w13 w.heap.size (fun k_ => (P0_ k_ ∨ w.heap.size ≤ k_) ∧ some k_ ≠ (u3 : Value).ownBlock ∧ k_ ≠ gb297) (.slice A296_4 ((rd_T35 l0 x4_1).f4).length c296_4) ((rd_T35 l0 x4_1).f4)) := ⟨(by rw [hw]; exact (by (with_reducible repeat (first | apply Kd.V_alloc | apply Kd.V_drewN | apply Kd.V_drew)); exact Kd.V_mono (Kd.V_far (p := ⟨gb297, 4, none⟩) (Kd.V_far (p := ⟨gb297, 3, none⟩) (Kd.V_far (p := ⟨gb297, 2, none⟩) (Kd.V_far (p := ⟨gb297, 1, none⟩) (Kd.V_far (p := ⟨gb297, 0, none⟩) (Kd.V_mono HL296_4.out (fun k_ hk => (⟨hk, hk.2⟩ : _ ∧ k_ ≠ gb297))) (fun _ hk => hk.2) (.int .i64 ((rd_T35 l0 x4_1).f0))) (fun _ hk => hk.2) (.int .i64 ((rd_T35 l0 x4_1).f1))) (fun _ hk => hk.2) (.string ((rd_T35 l0 x4_1).f2))) (fun _ hk => hk.2) (.string ((rd_T35 l0 x4_1).f3))) (fun _ hk => hk.2) (.slice A296_4 ((rd_T35 l0 x4_1).f4).length c296_4)) (fun _ hk => ⟨hk.1.1.1, ⟨hk.1.1.2, hk.1.2⟩⟩)))⟩; have n3_ : Aside0 (w13.heap[gb297]? = some (.cells #[.int .i64 ((rd_T35 l0 x4_1).f0), .int .i64 ((rd_T35 l0 x4_1).f1), .string ((rd_T35 l0 x4_1).f2), .string ((rd_T35 l0 x4_1).f3), .slice A296_4 ((rd_T35 l0 x4_1).f4).length c296_4] 35 (0, 0))) := ⟨(by rw [hw]; exact (by (with_reducible repeat (first | refine blk_drewN ?_ _ | refine blk_drew ?_ | refine blk_alloc ?_ _)); refine blk_put (cs := #[.int .i64 ((rd_T35 l0 x4_1).f0), .int .i64 ((rd_T35 l0 x4_1).f1), .string ((rd_T35 l0 x4_1).f2), .string ((rd_T35 l0 x4_1).f3), .slice none 0 0]) ?_ 4 _ rfl; (with_reducible repeat (first | refine blk_drewN ?_ _ | refine blk_drew ?_ | refine blk_alloc ?_ _)); refine blk_put (cs := #[.int .i64 ((rd_T35 l0 x4_1).f0), .int .i64 ((rd_T35 l0 x4_1).f1), .string ((rd_T35 l0 x4_1).f2), .string (⟨#[]⟩ : ByteArray), .slice none 0 0]) ?_ 3 _ rfl; (with_reducible repeat (first | refine blk_drewN ?_ _ | refine blk_drew ?_ | refine blk_alloc ?_ _)); refine blk_put (cs := #[.int .i64 ((rd_T35 l0 x4_1).f0), .int .i64 ((rd_T35 l0 x4_1).f1), .string (⟨#[]⟩ : ByteArray), .string (⟨#[]⟩ : ByteArray), .slice none 0 0]) ?_ 2 _ rfl; (with_reducible repeat (first | refine blk_drewN ?_ _ | refine blk_drew ?_ | refine blk_alloc ?_ _)); refine blk_put (cs := #[.int .i64 ((rd_T35 l0 x4_1).f0), .int .i64 0, .string (⟨#[]⟩ : ByteArray), .string (⟨#[]⟩ : ByteArray), .slice none 0 0]) ?_ 1 _ rfl; (with_reducible repeat (first | refine blk_drewN ?_ _ | refine blk_drew ?_ | refine blk_alloc ?_ _)); refine blk_put (cs := #[.int .i64 0, .int .i64 0, .string (⟨#[]⟩ : ByteArray), .string (⟨#[]⟩ : ByteArray), .slice none 0 0]) ?_ 0 _ rfl; (with_reducible repeat (first | refine blk_drewN ?_ _ | refine blk_drew ?_ | refine blk_alloc ?_ _)); exact BK297.out))⟩; have n4_ : Aside0 (Below w.heap.size w w13) := ⟨(by rw [hw]; exact (bs GE297.out))⟩; clear hw; clear HO_0; clear HO_3; clear HL296_4; clear BK297; clear HB; have HO_0 := n0_; have HO_3 := n1_; have HL296_4 := n2_; have BK297 := n3_; have HB := n4_; clear n0_ n1_ n2_ n3_ n4_; have hcz14_0 : w13.cell? ⟨gb297, 0, none⟩ = some (.int .i64 ((rd_T35 l0 x4_1).f0)) := (blk_cell BK297.out 0).trans rfl; have hcz14_1 : w13.cell? ⟨gb297, 1, none⟩ = some (.int .i64 ((rd_T35 l0 x4_1).f1)) := (blk_cell BK297.out 1).trans rfl; have hcz14_2 : w13.cell? ⟨gb297, 2, none⟩ = some (.string ((rd_T35 l0 x4_1).f2)) := (blk_cell BK297.out 2).trans rfl; have hcz14_3 : w13.cell? ⟨gb297, 3, none⟩ = some (.string ((rd_T35 l0 x4_1).f3)) := (blk_cell BK297.out 3).trans rfl; have hcz14_4 : w13.cell? ⟨gb297, 4, none⟩ = some (.slice A296_4 ((rd_T35 l0 x4_1).f4).length c296_4) := (blk_cell BK297.out 4).trans rfl; have hfz14_0 := blk_frozen BK297.out 0; have hfz14_1 := blk_frozen BK297.out 1; have hfz14_2 := blk_frozen BK297.out 2; have hfz14_3 := blk_frozen BK297.out 3; have hfz14_4 := blk_frozen BK297.out 4; have q15 : ((ji7) : Int) ≤ ((((rd_T35 l0 x4_1).f4).length : Int) : Int) := (by first | exact of_decide_eq_true (by first | (with_reducible assumption) | assumption) | assumption | omega); obtain ⟨i015, hi015, _, hsz15, _⟩ := info_parts info45; have hroom15 : ((rd_T35 l0 x4_1).f4).length ≤ c296_4 := HC296_4.out; have hC15 : Kd.F k45 _ _ A296_4 ((rd_T35 l0 x4_1).f4).length ((rd_T35 l0 x4_1).f4) := (Kd.V_at (base := w.heap.size) HL296_4.out).2.2; have hcut15 := cut_to (P := Tryd.prog) 33 45 .i64 Tryd.underlying33 hi015 A296_4 ((rd_T35 l0 x4_1).f4).length c296_4 (ji7) ((by first | exact of_decide_eq_true (by first | (with_reducible assumption) | assumption) | assumption | omega)) q15 hroom15; have hr15 := Kd.F_take (m := ((ji7) : Int).toNat) hC15 (by omega); have hy15 : y298.length = ((ji7) : Int).toNat := (by rw [Ny298.out, List.length_take]; omega); rw [← Ny298.out] at hr15; rw [← hy15] at hcut15; have HO302 := Aside0.mk (show Kd.V k45 45 _ w.heap.size _ (.slice A296_4 y298.length c296_4) y298 from Kd.V_mk (by omega) hr15); have HC302 := Aside0.mk (show y298.length ≤ c296_4 from by omega); clear hr15 hC15 hroom15 hi015 hsz15; have KY15 := Aside0.mk hy15; clear hy15; replace q15 := eq_true q15) | ((with_reducible refine gate_store (t := 33) (p := 28) rfl ?_); refine store_event (t := 33) (p := 28) (v := ?vo_w16) (w1 := (w13.setCell ⟨gb297, 4, none⟩ (.slice A296_4 y298.length c296_4))) ?hg ?ho ?hn ?hr ?_; (case ho => rfl); (case hg => rfl); (case hn => rfl); (case hr => first | (go_simp; done) | (go_simp; rfl)); intro w16 hw; have n0_ : Aside0 (Kd.V k35 35 w16 w.heap.size (fun k_ => (P0_ k_ ∨ w.heap.size ≤ k_) ∧ some k_ ≠ (u3 : Value).ownBlock ∧ k_ ≠ gb297) (.slice (some ad296) l0.length c0) l0) := ⟨(by rw [hw]; exact (by (with_reducible repeat (first | apply Kd.V_alloc | apply Kd.V_drewN | apply Kd.V_drew)); exact Kd.V_mono (Kd.V_far (p := ⟨gb297, 4, none⟩) (Kd.V_mono HO_0.out (fun k_ hk => (⟨hk, hk.2.2⟩ : _ ∧ k_ ≠ gb297))) (fun _ hk => hk.2) (.slice A296_4 y298.length c296_4)) (fun _ hk => ⟨hk.1.1, ⟨hk.1.2.1, hk.1.2.2⟩⟩)))⟩; have n1_ : Aside0 (Kd.N k35 35 w16 w.heap.size (fun k_ => (P0_ k_ ∨ w.heap.size ≤ k_) ∧ k_ ≠ gb297) u3 x3_1) := ⟨(by rw [hw]; exact (by (with_reducible repeat (first | apply Kd.N_alloc | apply Kd.N_drewN | apply Kd.N_drew)); exact Kd.N_mono (Kd.N_far (p := ⟨gb297, 4, none⟩) (Kd.N_mono HO_3.out (fun k_ hk => (⟨hk, hk.2⟩ : _ ∧ k_ ≠ gb297))) (fun _ hk => hk.2) (.slice A296_4 y298.length c296_4)) (fun _ hk => ⟨hk.1.1, hk.1.2⟩)))⟩; have n2_ : Aside0 (Kd.V k45 45 w16 w.heap.size (fun k_ => (P0_ k_ ∨ w.heap.size ≤ k_) ∧ some k_ ≠ (u3 : Value).ownBlock ∧ k_ ≠ gb297) (.slice A296_4 ((rd_T35 l0 x4_1).f4).length c296_4) ((rd_T35 l0 x4_1).f4)) := ⟨(by rw [hw]; exact (by (with_reducible repeat (first | apply Kd.V_alloc | apply Kd.V_drewN | apply Kd.V_drew)); exact Kd.V_mono (Kd.V_far (p := ⟨gb297, 4, none⟩) (Kd.V_mono HL296_4.out (fun k_ hk => (⟨hk, hk.2.2⟩ : _ ∧ k_ ≠ gb297))) (fun _ hk => hk.2) (.slice A296_4 y298.length c296_4)) (fun _ hk => ⟨hk.1.1, ⟨hk.1.2.1, hk.1.2.2⟩⟩)))⟩; have n3_ : Aside0 (Kd.V k45 45 w16 w.heap.size (fun k_ => (P0_ k_ ∨ w.heap.size ≤ k_) ∧ some k_ ≠ (u3 : Value).ownBlock ∧ k_ ≠ gb297) (.slice A296_4 y298.length c296_4) y298) := ⟨(by rw [hw]; exact (by (with_reducible repeat (first | apply Kd.V_alloc | apply Kd.V_drewN | apply Kd.V_drew)); exact Kd.V_mono (Kd.V_far (p := ⟨gb297, 4, none⟩) (Kd.V_mono HO302.out (fun k_ hk => (⟨hk, hk.2.2⟩ : _ ∧ k_ ≠ gb297))) (fun _ hk => hk.2) (.slice A296_4 y298.length c296_4)) (fun _ hk => ⟨hk.1.1, ⟨hk.1.2.1, hk.1.2.2⟩⟩)))⟩; have n4_ : Aside0 (w16.heap[gb297]? = some (.cells #[.int .i64 ((rd_T35 l0 x4_1).f0), .int .i64 ((rd_T35 l0 x4_1).f1), .string ((rd_T35 l0 x4_1).f2), .string ((rd_T35 l0 x4_1).f3), .slice A296_4 y298.length c296_4] 35 (0, 0))) := ⟨(by rw [hw]; exact (by (with_reducible repeat (first | refine blk_drewN ?_ _ | refine blk_drew ?_ | refine blk_alloc ?_ _)); refine blk_put (cs := #[.int .i64 ((rd_T35 l0 x4_1).f0), .int .i64 ((rd_T35 l0 x4_1).f1), .string ((rd_T35 l0 x4_1).f2), .string ((rd_T35 l0 x4_1).f3), .slice A296_4 ((rd_T35 l0 x4_1).f4).length c296_4]) ?_ 4 _ rfl; (with_reducible repeat (first | refine blk_drewN ?_ _ | refine blk_drew ?_ | refine blk_alloc ?_ _)); exact BK297.out))⟩; have n5_ : Aside0 (Below w.heap.size w w16) := ⟨(by rw [hw]; exact (bs GE297.out))⟩; clear hw; clear HO_0; clear HO_3; clear HL296_4; clear HO302; clear BK297; clear HB; have HO_0 := n0_; have HO_3 := n1_; have HL296_4 := n2_; have HO302 := n3_; have BK297 := n4_; have HB := n5_; clear n0_ n1_ n2_ n3_ n4_ n5_; have hcz17_0 : w16.cell? ⟨gb297, 0, none⟩ = some (.int .i64 ((rd_T35 l0 x4_1).f0)) := (blk_cell BK297.out 0).trans rfl; have hcz17_1 : w16.cell? ⟨gb297, 1, none⟩ = some (.int .i64 ((rd_T35 l0 x4_1).f1)) := (blk_cell BK297.out 1).trans rfl; have hcz17_2 : w16.cell? ⟨gb297, 2, none⟩ = some (.string ((rd_T35 l0 x4_1).f2)) := (blk_cell BK297.out 2).trans rfl; have hcz17_3 : w16.cell? ⟨gb297, 3, none⟩ = some (.string ((rd_T35 l0 x4_1).f3)) := (blk_cell BK297.out 3).trans rfl; have hcz17_4 : w16.cell? ⟨gb297, 4, none⟩ = some (.slice A296_4 y298.length c296_4) := (blk_cell BK297.out 4).trans rfl; have hfz17_0 := blk_frozen BK297.out 0; have hfz17_1 := blk_frozen BK297.out 1; have hfz17_2 := blk_frozen BK297.out 2; have hfz17_3 := blk_frozen BK297.out 3; have hfz17_4 := blk_frozen BK297.out 4) | ((with_reducible refine gate_builtin (b := .append) (xs := #[.tmp 29, .tmp 31]) rfl ?_); at_builtin; refine Kd.N_append k35 (w0 := w) w.heap.size rfl (.tmp 29) (.tmp 31) 22 35 (.agg #[(.int .i64 0), (.int .i64 0), (.string ⟨#[]⟩), (.string ⟨#[]⟩), (.slice none 0 0)]) 72 rfl Tryd.underlying22 info35 rfl (by decide) (by omega) u3 x3_1 (⟨(rd_T35 l0 x4_1).f0, (rd_T35 l0 x4_1).f1, (rd_T35 l0 x4_1).f2, (rd_T35 l0 x4_1).f3, y298⟩ : S35) [.int .i64 ((rd_T35 l0 x4_1).f0), .int .i64 ((rd_T35 l0 x4_1).f1), .string ((rd_T35 l0 x4_1).f2), .string ((rd_T35 l0 x4_1).f3), .slice A296_4 y298.length c296_4] (fun k_ => (P0_ k_ ∨ w.heap.size ≤ k_) ∧ k_ ≠ gb297) (fun k_ => ((fun k_ => (P0_ k_ ∨ w.heap.size ≤ k_) ∧ k_ ≠ gb297)) k_ ∧ some k_ ≠ (u3 : Value).ownBlock) rfl rfl ?aP (fun _ hk => hk) ?aF ?aO ?aB ?aS ?aL ?_; (case aP => exact (k35_mkF _ _ (⟨(rd_T35 l0 x4_1).f0, (rd_T35 l0 x4_1).f1, (rd_T35 l0 x4_1).f2, (rd_T35 l0 x4_1).f3, y298⟩ : S35) (Kd.V_reads' (Kd.V_mono (ok' := (fun k_ => ((fun k_ => (P0_ k_ ∨ w.heap.size ≤ k_) ∧ k_ ≠ gb297)) k_ ∧ some k_ ≠ (u3 : Value).ownBlock)) (HO302.out) (fun k_ hk => ⟨⟨hk.1, hk.2.2⟩, hk.2.1⟩))).2.1 (Kd.V_F (Kd.V_mono (ok' := (fun k_ => ((fun k_ => (P0_ k_ ∨ w.heap.size ≤ k_) ∧ k_ ≠ gb297)) k_ ∧ some k_ ≠ (u3 : Value).ownBlock)) (HO302.out) (fun k_ hk => ⟨⟨hk.1, hk.2.2⟩, hk.2.1⟩))))); (case aB => exact (bs GE297.out)); (case aF => exact (fun k_ hk => ⟨(.inr (Nat.le_trans (below_size (bs GE297.out)) hk)), Kd.freshB (g := gb297) (o := .cells #[.int .i64 ((rd_T35 l0 x4_1).f0), .int .i64 ((rd_T35 l0 x4_1).f1), .string ((rd_T35 l0 x4_1).f2), .string ((rd_T35 l0 x4_1).f3), .slice A296_4 y298.length c296_4] 35 (0, 0)) (kz BK297.out) k_ hk⟩)); (case aO => exact (nz HO_3.out)); (case aS => exact (below_size (bs GE297.out))); (case aL => have := LMc10.out; omega); intro v304 w18 ho hb hg hat; rw [← Ny303.out] at ho; have n0_ := Aside0.mk (Kd.V_afterv (ok := (fun k_ => (P0_ k_ ∨ w.heap.size ≤ k_) ∧ k_ ≠ gb297)) (by (with_reducible repeat (first | apply Kd.V_alloc | apply Kd.V_drewN | apply Kd.V_drew)); exact Kd.V_mono HO_0.out (fun _ hk => ⟨⟨hk.1, hk.2.2⟩, hk.2.1⟩)) hg hat); have n1_ := Aside0.mk (Kd.V_afterv (ok := (fun k_ => (P0_ k_ ∨ w.heap.size ≤ k_) ∧ k_ ≠ gb297)) (by (with_reducible repeat (first | apply Kd.V_alloc | apply Kd.V_drewN | apply Kd.V_drew)); exact Kd.V_mono HL296_4.out (fun _ hk => ⟨⟨hk.1, hk.2.2⟩, hk.2.1⟩)) hg hat); have n2_ := Aside0.mk (blk_grown (g := gb297) (o := .cells #[.int .i64 ((rd_T35 l0 x4_1).f0), .int .i64 ((rd_T35 l0 x4_1).f1), .string ((rd_T35 l0 x4_1).f2), .string ((rd_T35 l0 x4_1).f3), .slice A296_4 y298.length c296_4] 35 (0, 0)) (kz BK297.out) hg (Kd.N_away HO_3.out (fun _ hk => hk.2))); have n3_ := Aside0.mk (Kd.V_afterv (ok := (fun k_ => (P0_ k_ ∨ w.heap.size ≤ k_) ∧ k_ ≠ gb297)) (by (with_reducible repeat (first | apply Kd.V_alloc | apply Kd.V_drewN | apply Kd.V_drew)); exact Kd.V_mono HO302.out (fun _ hk => ⟨⟨hk.1, hk.2.2⟩, hk.2.1⟩)) hg hat); have n4_ := Aside0.mk (hb); have n5_ := Aside0.mk (ho); clear HO_0; clear HL296_4; clear BK297; clear HO302; clear HB; clear HO_3; have HO_0 := n0_; have HL296_4 := n1_; have BK297 := n2_; have HO302 := n3_; have HB := n4_; have HO305 := n5_; clear n0_ n1_ n2_ n3_ n4_ n5_; clear ho hb hg hat))
         go_roundg k1
         case measure => have := HK1.out; omega
         case rel => exact ⟨(y303), (wrap64 (x4_1 + 1)), (by first | rfl | (simp; done) | (simp [*]; done) | (simp; generalize ByteArray.toList _ = l_; cases l_ <;> rfl)), H', ⟨by have := HK1.out; omega⟩, ⟨by (with_reducible repeat (first | apply Kd.V_alloc | apply Kd.V_drewN | apply Kd.V_drew)); exact Kd.V_mono HO_0.out (fun _ hk => ⟨hk.1.1, hk.2⟩)⟩, ⟨by (with_reducible repeat (first | apply Kd.N_alloc | apply Kd.N_drewN | apply Kd.N_drew)); exact Kd.N_mono HO305.out (fun _ hk => hk.1)⟩, ⟨bs GE297.out⟩⟩
        ·rw [if_neg c10] at H
         exact absurd H (by simp)
       ·rw [if_neg c9] at H
        exact absurd H (by simp)
      ·rw [if_neg c8] at H
       exact absurd H (by simp)
     ·rw [if_neg c6] at H
      exact absurd H (by simp)
    ·rw [if_neg c5] at H
     have c5b0 : decide (x4_1 < 40) = false := decide_eq_false c5
     clear c5
     obtain rfl := Option.some.inj H
     go_wp2
     go_ret
     exact ⟨_, by first | rfl | (simp [errW_none, errW_some] <;> rfl) | (simp [*, errW_none, errW_some] <;> rfl), by (with_reducible repeat (first | apply Kd.N_alloc | apply Kd.N_drewN | apply Kd.N_drew)); exact HO_3.out, bz⟩
   ·rw [if_neg c4] at H
    have c4b0 : decide (x4_1 < (l0.length : Int)) = false := decide_eq_false c4
    clear c4
    obtain rfl := Option.some.inj H
    go_wp2
    go_ret
    exact ⟨_, by first | rfl | (simp [errW_none, errW_some] <;> rfl) | (simp [*, errW_none, errW_some] <;> rfl), by (with_reducible repeat (first | apply Kd.N_alloc | apply Kd.N_drewN | apply Kd.N_drew)); exact HO_3.out, bz⟩
end Go.Proofs.YtdnbaliibiginaaDoorH.W8

/- Words and walks used below. -/
namespace Go.Proofs.YtdnbaliibiginaaDoorH.W8
open Go.RowKit Go.Proofs.YtdnbaliibiginaaDoorW.PrintWords Go.Proofs.YtdnbaliibiginaaDoorW.PrintLast Go.Proofs.YtdnbaliibiginaaDoorW.PrintMore
attribute [local go_sem] max2_int min2_int max_two min_two max_three min_three max_four min_four   -- for this text's walks alone
def boltinglaw08_one.f (a0 : ByteArray) (a1 : ByteArray) : Option ((List (S35))) := some (([(⟨0, 0, a0, (⟨#[]⟩ : ByteArray), ([] : List (S45))⟩ : S35), (⟨1, 1, (⟨#[]⟩ : ByteArray), a1, ([] : List (S45))⟩ : S35)] : List (S35)))
set_option maxHeartbeats 8000000 in
set_option maxRecDepth 100000 in
theorem boltinglaw08_one.calls (a0 : ByteArray) (a1 : ByteArray) (r : List (S35)) (w : World) (h : boltinglaw08_one.f a0 a1 = some r) :
  Calls Tryd.prog 24 #[.string a0, .string a1] w fun e w' => ∃ v0_ : Value, e = .returned (v0_) ∧ Kd.R k35 35 w' w.heap.size (fun _ => True) v0_ r ∧ Below w.heap.size w w' := by
 have hu35 := Tryd.underlying35
 have HB := Aside0.mk (Below.refl w.heap.size w)
 have H : (some (([(⟨0, 0, a0, (⟨#[]⟩ : ByteArray), ([] : List (S45))⟩ : S35), (⟨1, 1, (⟨#[]⟩ : ByteArray), a1, ([] : List (S45))⟩ : S35)] : List (S35)))) = some r := h
 clear h
 obtain ⟨y145, hy145⟩ : ∃ y_ : List (S35), y_ = (([(⟨0, 0, a0, (⟨#[]⟩ : ByteArray), ([] : List (S45))⟩ : S35), (⟨1, 1, (⟨#[]⟩ : ByteArray), a1, ([] : List (S45))⟩ : S35)] : List (S35))) := ⟨_, rfl⟩
 replace H : (some y145) = some r := by first | (rw [hy145]; with_reducible exact H) | (have H2_ := (Option.bind_some _ _).symm.trans H; rw [hy145]; with_reducible exact H2_) | (have H2_ := (Option.bind_some _ _).symm.trans H; with_reducible exact H2_) | with_reducible exact H | (rw [hy145]; exact H) | exact H
 have Ny145 := Aside0.mk hy145
 clear hy145
 obtain rfl := Option.some.inj H
 go_enter Tryd.func24, Tryd.ntmps24
 go_wp2_with (first | ((with_reducible refine gate_dst (N := 9) rfl ?_); refine Kd.R_lit k35 _ 35 ?hg (N := 9) ?hd (xs := ([(⟨0, 0, a0, (⟨#[]⟩ : ByteArray), ([] : List (S45))⟩ : S35), (⟨1, 1, (⟨#[]⟩ : ByteArray), a1, ([] : List (S45))⟩ : S35)] : List (S35))) (inner := [.int .i64 0, .int .i64 0, .string a0, .string (⟨#[]⟩ : ByteArray), .slice none 0 0, .int .i64 1, .int .i64 1, .string (⟨#[]⟩ : ByteArray), .string a1, .slice none 0 0]) (ok := fun _ => True) (okp := fun _ => True) ?hr ?hp (fun _ hk => hk) trivial (Below.refl _ _) (Nat.le_refl _) (by simp) ?_; (case hd => rfl); (case hg => rfl); (case hr => first | (go_simp; done) | (go_simp; rfl)); (case hp => exact (Reps.c5 (show Kd.M k35 _ _ _ (⟨0, 0, a0, (⟨#[]⟩ : ByteArray), ([] : List (S45))⟩ : S35) [.int .i64 0, .int .i64 0, .string a0, .string (⟨#[]⟩ : ByteArray), .slice none 0 0] from (k35_mkM _ _ _ (⟨0, 0, a0, (⟨#[]⟩ : ByteArray), ([] : List (S45))⟩ : S35) (Kd.R_nil _ _ _ _ _))) (Reps.c5 (show Kd.M k35 _ _ _ (⟨1, 1, (⟨#[]⟩ : ByteArray), a1, ([] : List (S45))⟩ : S35) [.int .i64 1, .int .i64 1, .string (⟨#[]⟩ : ByteArray), .string a1, .slice none 0 0] from (k35_mkM _ _ _ (⟨1, 1, (⟨#[]⟩ : ByteArray), a1, ([] : List (S45))⟩ : S35) (Kd.R_nil _ _ _ _ _))) (Reps.none _ _)))); intro v146 w3 ho4 hb hg_ hnew_; clear hg_ hnew_; (first | rw [← Ny145.out] at ho4 | (simp only [Int.reduceToNat] at ho4; rw [← Ny145.out] at ho4)); have n0_ := Aside0.mk (Kd.R_lower ho4 (below_size bz)); have n1_ := Aside0.mk (below_step bz hb); clear HB; have HO147 := n0_; have HB := n1_; clear n0_ n1_; clear hb ho4))
 go_ret
 exact ⟨_, by first | rfl | (simp [errW_none, errW_some] <;> rfl) | (simp [*, errW_none, errW_some] <;> rfl), by (with_reducible repeat (first | apply Kd.R_alloc | apply Kd.R_drewN | apply Kd.R_drew)); exact HO147.out, bz⟩
end Go.Proofs.YtdnbaliibiginaaDoorH.W8

/- The calls whose answers the document fixes: the walk; and that they are so, by the kernel. -/
namespace Go.Proofs.YtdnbaliibiginaaDoorH.W8
open Go.RowKit Go.Proofs Go.Proofs.YtdnbaliibiginaaDoor Go.Proofs.YtdnbaliibiginaaDoorW.PrintWords
abbrev aP : ByteArray := ⟨#[112]⟩
abbrev aS : ByteArray := ⟨#[115, 99, 114, 105, 112, 116]⟩
abbrev aAB : ByteArray := ⟨#[97, 60, 98]⟩
abbrev aASB : ByteArray := ⟨#[97, 60, 47, 98]⟩
abbrev aBR : ByteArray := ⟨#[98, 114]⟩
abbrev aA : ByteArray := ⟨#[97]⟩
abbrev a0 : ByteArray := ⟨#[]⟩
def oneR (a b : ByteArray) : List Rw := [⟨0, 0, a, a0, []⟩, ⟨1, 1, a0, b, []⟩]
def ppR : List Rw := [⟨0, 0, aP, a0, []⟩, ⟨1, 0, aP, a0, []⟩]
def brR : List Rw := [⟨0, 0, aBR, a0, [⟨aA, ⟨#[34]⟩⟩]⟩, ⟨0, 2, a0, ⟨#[99]⟩, []⟩]
theorem f1 : write_Rows.f (oneR aP aAB) = some ⟨#[60, 112, 62, 97, 38, 108, 116, 59, 98, 60, 47, 112, 62]⟩ := by kernel_rfl
theorem f2 : write_Rows.f (oneR aS aAB) = some ⟨#[60, 115, 99, 114, 105, 112, 116, 62, 97, 60, 98, 60, 47, 115, 99, 114, 105, 112, 116, 62]⟩ := by kernel_rfl
theorem f3 : write_Inside.f 100 (oneR aP aAB) 0 = some ⟨#[97, 38, 108, 116, 59, 98]⟩ := by kernel_rfl
theorem f4 : write_Rows.f brR = some ⟨#[60, 98, 114, 32, 97, 61, 34, 38, 113, 117, 111, 116, 59, 34, 62, 60, 33, 45, 45, 99, 45, 45, 62]⟩ := by kernel_rfl
theorem g1 : write_Legal.f 200 (oneR aP aAB) = some true := by kernel_rfl
theorem g2 : write_Legal.f 200 (oneR aS aAB) = some true := by kernel_rfl
theorem g3 : write_Legal.f 200 (oneR aS aASB) = some false := by kernel_rfl
theorem g4 : write_Legal.f 200 ppR = some false := by kernel_rfl
theorem g5 : write_Legal.f 200 (oneR aBR aA) = some false := by kernel_rfl
theorem one_c (a b : ByteArray) (w : World) : Calls Tryd.prog 24 #[.string a, .string b] w fun e w' => ∃ A c, e = .returned (.slice A 2 c) ∧ 2 ≤ c ∧ k35.C w' A 2 (oneR a b) ∧ Below w.heap.size w w' := by
 refine (boltinglaw08_one.calls a b (oneR a b) w rfl).mono ?_
 rintro e w' ⟨v, rfl, hR, hb⟩
 obtain ⟨A, c, rfl, hc, hC⟩ := Kd.R_reads hR
 exact ⟨A, c, rfl, hc, hC, hb⟩
abbrev ppO : Obj := .cells #[.int .i64 0, .int .i64 0, .string aP, .string a0, .slice none 0 0, .int .i64 1, .int .i64 0, .string aP, .string a0, .slice none 0 0] 35
abbrev brA : Obj := .cells #[.string aA, .string ⟨#[34]⟩] 45
abbrev brO (b : Nat) : Obj := .cells #[.int .i64 0, .int .i64 0, .string aBR, .string a0, .slice (some ⟨b, 0, none⟩) 1 1, .int .i64 0, .int .i64 2, .string a0, .string ⟨#[99]⟩, .slice none 0 0] 35
theorem nilC (W : World) : k45.C W none 0 [] := ⟨rfl, by omega, fun h => by omega⟩
abbrev ppV : List Value := [.int .i64 0, .int .i64 0, .string aP, .string a0, .slice none 0 0, .int .i64 1, .int .i64 0, .string aP, .string a0, .slice none 0 0]
theorem pp_C (w : World) : k35.C (w.alloc ppO) (some ⟨w.heap.size, 0, none⟩) 2 ppR := by
 have ho : (w.alloc ppO).ownsRow w.heap.size 35 5 (.slice (some ⟨w.heap.size, 0, none⟩) 2 2) 2 ppV := ⟨rfl, .inr ⟨w.heap.size, 2, _, rfl, Nat.le_refl _, new_cells w _ _, Nat.le_refl _, by unfold maxLen; omega, rfl, rfl⟩⟩
 have hr : Reps (k35.K (w.alloc ppO)) 5 ppR ppV := Reps.c5 (k35_mk _ ⟨0, 0, aP, a0, []⟩ (Nat.le_refl _) (nilC _)) (Reps.c5 (k35_mk _ ⟨1, 0, aP, a0, []⟩ (Nat.le_refl _) (nilC _)) (Reps.none _ _))
 obtain ⟨A, c, e, h⟩ := own_reads_row ho hr rfl
 cases e
 exact h
abbrev brV (b : Nat) : List Value := [.int .i64 0, .int .i64 0, .string aBR, .string a0, .slice (some ⟨b, 0, none⟩) 1 1, .int .i64 0, .int .i64 2, .string a0, .string ⟨#[99]⟩, .slice none 0 0]
theorem at_C (w : World) : k45.C (w.alloc brA) (some ⟨w.heap.size, 0, none⟩) 1 [⟨aA, ⟨#[34]⟩⟩] := by
 have ho : (w.alloc brA).ownsRow w.heap.size 45 2 (.slice (some ⟨w.heap.size, 0, none⟩) 1 1) 1 [.string aA, .string ⟨#[34]⟩] := ⟨rfl, .inr ⟨w.heap.size, 1, _, rfl, Nat.le_refl _, new_cells w _ _, Nat.le_refl _, by unfold maxLen; omega, rfl, rfl⟩⟩
 have hr : Reps (k45.K (w.alloc brA)) 2 [(⟨aA, ⟨#[34]⟩⟩ : S45)] [.string aA, .string ⟨#[34]⟩] := Reps.c2 (k45_mk _ ⟨aA, ⟨#[34]⟩⟩) (Reps.none _ _)
 obtain ⟨A, c, e, h⟩ := own_reads_row ho hr rfl
 cases e
 exact h
theorem br_C (w : World) : k35.C ((w.alloc brA).alloc (brO w.heap.size)) (some ⟨w.heap.size + 1, 0, none⟩) 2 brR := by
 have hn := new_cells (w.alloc brA) #[.int .i64 0, .int .i64 0, .string aBR, .string a0, .slice (some ⟨w.heap.size, 0, none⟩) 1 1, .int .i64 0, .int .i64 2, .string a0, .string ⟨#[99]⟩, .slice none 0 0] 35
 rw [World.size_alloc] at hn
 have ho : ((w.alloc brA).alloc (brO w.heap.size)).ownsRow 0 35 5 (.slice (some ⟨w.heap.size + 1, 0, none⟩) 2 2) 2 (brV w.heap.size) := ⟨rfl, .inr ⟨w.heap.size + 1, 2, _, rfl, Nat.zero_le _, hn, Nat.le_refl _, by unfold maxLen; omega, rfl, rfl⟩⟩
 have hr : Reps (k35.K ((w.alloc brA).alloc (brO w.heap.size))) 5 brR (brV w.heap.size) := Reps.c5 (k35_mk _ ⟨0, 0, aBR, a0, [⟨aA, ⟨#[34]⟩⟩]⟩ (Nat.le_refl _) (Kd.C_alloc (at_C w) _)) (Reps.c5 (k35_mk _ ⟨0, 2, a0, ⟨#[99]⟩, []⟩ (Nat.le_refl _) (nilC _)) (Reps.none _ _))
 obtain ⟨A, c, e, h⟩ := own_reads_row ho hr rfl
 cases e
 exact h
set_option maxHeartbeats 1600000 in
set_option maxRecDepth 100000 in
theorem fixed_c (w : World) (hS : Std8 w) : Calls Tryd.prog 9 #[] w fun e w' => e = .returned (.bool true) ∧ Below w.heap.size w w' := by
 have hpp := pp_C w
 have HB := (Below.refl w.heap.size w).alloc (Nat.le_refl _) ppO
 have HP := Below.refl (w.alloc ppO).heap.size (w.alloc ppO)
 go_enter Tryd.func9, Tryd.ntmps9
 go_wp2_with (first
  | (go_at_call 24; ((with_reducible refine (one_c _ _ _).mono ?_); rintro e w1 ⟨A1, c1, rfl, hc1, hC1, hb1⟩; have HBn := Go.Proofs.YtdnbaliibiginaaDoor.below_then HB HB.size hb1; have HPn := Go.Proofs.YtdnbaliibiginaaDoor.below_then HP HP.size hb1; clear HB HP; have HB := HBn; have HP := HPn; clear HBn HPn))
  | (go_at_call 10; ((first | refine (write_Rows.calls A1 c1 _ _ _ hC1 hc1 f1 (hS.below HB)).mono ?_ | refine (write_Rows.calls A1 c1 _ _ _ hC1 hc1 f2 (hS.below HB)).mono ?_); rintro e w2 ⟨rfl, hb2⟩; have HBn := Go.Proofs.YtdnbaliibiginaaDoor.below_then HB HB.size hb2; have HPn := Go.Proofs.YtdnbaliibiginaaDoor.below_then HP HP.size hb2; clear HB HP; have HB := HBn; have HP := HPn; clear HBn HPn))
  | (go_at_call 12; ((refine (write_Inside.calls 100 A1 c1 _ 0 _ _ hC1 hc1 f3 (hS.below HB)).mono ?_); rintro e w3 ⟨rfl, hb3⟩; have HBn := Go.Proofs.YtdnbaliibiginaaDoor.below_then HB HB.size hb3; have HPn := Go.Proofs.YtdnbaliibiginaaDoor.below_then HP HP.size hb3; clear HB HP; have HB := HBn; have HP := HPn; clear HBn HPn))
  | (go_at_call 10; (have HBm := (HB.alloc HB.size brA).alloc (by rw [World.size_alloc]; exact Nat.le_succ_of_le HB.size) (brO w3.heap.size); have HPm := (HP.alloc HP.size brA).alloc (Nat.le_trans HP.size (by rw [World.size_alloc w3]; exact Nat.le_succ _)) (brO w3.heap.size); (refine (write_Rows.calls (some ⟨w3.heap.size + 1, 0, none⟩) 2 brR _ _ (br_C w3) (by decide) f4 (hS.below HBm)).mono ?_); rintro e w4 ⟨rfl, hb4⟩; have HBn := Go.Proofs.YtdnbaliibiginaaDoor.below_then HBm HBm.size hb4; have HPn := Go.Proofs.YtdnbaliibiginaaDoor.below_then HPm HPm.size hb4; clear HB HP HBm HPm; have HB := HBn; have HP := HPn; clear HBn HPn))
  | (go_at_call 17; ((first | refine (write_Legal.calls 200 A1 c1 _ _ _ hC1 hc1 g1 (hS.below HB)).mono ?_ | refine (write_Legal.calls 200 A1 c1 _ _ _ hC1 hc1 g2 (hS.below HB)).mono ?_ | refine (write_Legal.calls 200 A1 c1 _ _ _ hC1 hc1 g3 (hS.below HB)).mono ?_ | refine (write_Legal.calls 200 A1 c1 _ _ _ hC1 hc1 g5 (hS.below HB)).mono ?_ | refine (write_Legal.calls 200 (some ⟨w.heap.size, 0, none⟩) 2 _ _ _ (Kd.C_below hpp HP) (by decide) g4 (hS.below HB)).mono ?_); rintro e w5 ⟨rfl, hb5⟩; have HBn := Go.Proofs.YtdnbaliibiginaaDoor.below_then HB HB.size hb5; have HPn := Go.Proofs.YtdnbaliibiginaaDoor.below_then HP HP.size hb5; clear HB HP; have HB := HBn; have HP := HPn; clear HBn HPn)))
 go_ret
 exact ⟨rfl, HB⟩
def boltinglaw08_fixed.f : Option Bool := some true
theorem boltinglaw08_fixed.calls (r : Bool) (w : World) (h : boltinglaw08_fixed.f = some r) (hS_ : Std8 w) : Calls Tryd.prog 9 #[] w fun e w' => e = .returned (.bool r) ∧ Below w.heap.size w w' := by
 obtain rfl := Option.some.inj h
 exact fixed_c w hS_
end Go.Proofs.YtdnbaliibiginaaDoorH.W8

/- Contract of the document's Inside: what an element has, written (printed by gen_inside8.py). Nothing that lay in memory turns. -/
namespace Go.Proofs.YtdnbaliibiginaaDoorH.W8
open Go.RowKit Go.Proofs Go.Proofs.YtdnbaliibiginaaDoor Go.Proofs.YtdnbaliibiginaaDoorW.PrintWords Go.Proofs.YtdnbaliibiginaaDoorW.PrintLast Go.Proofs.YtdnbaliibiginaaDoorW.PrintMore
def insT : Bool × List (List Nat × List Nat) := (true, [([], []), ([0], [0]), ([1], [1]), ([2], [2]), ([2], [2]), ([4, 2], [2, 4]), ([3, 5, 2], [2, 3, 5]), ([2, 6], [2, 6]), ([7, 2], [7]), ([8], [8]), ([9, 8], [8, 9]), ([10, 8, 8], [8, 10]), ([11], [11]), ([11], [11]), ([12, 13, 11], [11, 12, 13]), ([14, 11], [11, 14]), ([15, 11], [11, 15]), ([16, 11], [11, 16]), ([17, 11, 11], [11, 17]), ([18, 18], [18]), ([18], [18]), ([18], [18]), ([20, 21, 18], [18, 20, 21]), ([22, 18], [18, 22]), ([23, 18], [18, 23]), ([19, 24, 19, 18], [18, 19, 24]), ([18, 25, 11], [11, 18, 25]), ([11, 26, 8], [8, 11, 26]), ([8, 27], [8, 27])])
def insB : List Nat := [0, 1, 3, 7, 7, 23, 63, 127, 255, 511, 1023, 2047, 4095, 4095, 16383, 32767, 65535, 131071, 262143, 524287, 524287, 524287, 3670015, 7864319, 16252927, 33554431, 67108863, 134217727, 268435455]
def boltingref08_Inside.f (l0 : List Rw) (a1 : Int) : Option ByteArray :=
 if a1 < -1 ∨ (l0.length : Int) ≤ a1 then some ⟨#[]⟩ else if a1 = -1 then boltingref08_Within.f l0 (-1)
 else if (rd_T35 l0 a1).f1 = 0 then (boltingref05_Void.f).bind fun vs => (boltingref02_Has.f 100 vs (rd_T35 l0 a1).f2).bind fun v => (boltingref08_Within.f l0 a1).bind fun r => some (if v then ⟨#[]⟩ else r)
 else some ⟨#[]⟩
end Go.Proofs.YtdnbaliibiginaaDoorH.W8

/- Words and walks used below. -/
namespace Go.Proofs.YtdnbaliibiginaaDoorH.W8
open Go.RowKit Go.Proofs.YtdnbaliibiginaaDoorW.PrintWords Go.Proofs.YtdnbaliibiginaaDoorW.PrintLast Go.Proofs.YtdnbaliibiginaaDoorW.PrintMore
attribute [local go_sem] max2_int min2_int max_two min_two max_three min_three max_four min_four   -- for this text's walks alone
def boltinglaw08_WriteRows.f (k : Nat) (l0 : List (S35)) (a1 : Int) : Option (Bool) := (boltinglaw08_bound.f k l0).bind fun t315 => ((boltingref04_Right.f k t315).bind fun t318 => (if t318 = true then ((write_Rows.f t315).bind fun t320 => ((boltingref08_Within.f t315 (-1)).bind fun t321 => (if t320.toList = t321.toList then ((write_Inside.f k t315 a1).bind fun t322 => ((boltingref08_Inside.f t315 a1).bind fun t323 => (if t322.toList = t323.toList then ((boltinglaw08_fixed.f).bind fun t324 => (some t324)) else (some false)))) else (some false)))) else ((boltinglaw08_fixed.f).bind fun t319 => (some t319))))
end Go.Proofs.YtdnbaliibiginaaDoorH.W8
