/- Lemmas and walks, part 34: QW8E, QPW8x42, QPW8x45, QPW8x46, QW8H, QW8I. -/
import Derived.Test.YtdnbaliibiginaaDoorY32
import Derived.Test.YtdnbaliibiginaaDoorY33
import Derived.Test.YtdnbaliibiginaaDoorY4
import Derived.Test.YtdnbaliibiginaaDoorY31
set_option linter.unusedVariables false
set_option linter.unusedSimpArgs false

/- WriteRows, in numbers and lists alone: what is bounded is written alike by both. -/
namespace Go.Proofs.YtdnbaliibiginaaDoorH.W8
open Go.RowKit Go.Proofs Go.Proofs.YtdnbaliibiginaaDoorH Go.Proofs.YtdnbaliibiginaaDoor Go.Proofs.YtdnbaliibiginaaDoorW.PrintWords
def cutR (x : Rw) : Rw := ⟨x.f0, x.f1, x.f2, x.f3, x.f4.take ((mn (x.f4.length : Int) 6) : Int).toNat⟩
theorem mn6' (n : Nat) : 0 ≤ mn (n : Int) 6 ∧ mn (n : Int) 6 ≤ n ∧ mn (n : Int) 6 ≤ 6 := by unfold mn; split <;> omega
theorem bound_l0 (l : List Rw) (hl : l.length ≤ 1000000000) : ∀ (d i k : Nat) (acc : List Rw), 40 - i ≤ d → acc.length = i → d < k →
  boltinglaw08_bound.l0 k l acc i = some (acc ++ ((l.drop i).take (40 - i)).map cutR) := by
 intro d
 induction d with
 | zero =>
  intro i k acc hd ha hk
  obtain ⟨k, rfl⟩ : ∃ m, k = m + 1 := ⟨k - 1, by omega⟩
  rw [show 40 - i = 0 from by omega]
  simp only [boltinglaw08_bound.l0]
  by_cases h1 : (i : Int) < (l.length : Int)
  ·rw [if_pos h1, if_neg (by omega)]; simp
  ·rw [if_neg h1]; simp
 | succ d ih =>
  intro i k acc hd ha hk
  obtain ⟨k, rfl⟩ : ∃ m, k = m + 1 := ⟨k - 1, by omega⟩
  by_cases h1 : (i : Int) < (l.length : Int)
  ·by_cases h2 : (i : Int) < 40
   ·have hi : i < l.length := by omega
    have hm := mn6' l[i].f4.length
    have := ih (i + 1) k (acc ++ [cutR l[i]]) (by omega) (by simp [ha]) (by omega)
    simp only [boltinglaw08_bound.l0]
    rw [if_pos h1, if_pos h2, if_pos (by omega), rd35_at l i hi, if_pos hm.1, if_pos hm.2.1, if_pos (by omega), wN (by omega)]
    refine this.trans ?_
    rw [List.append_assoc]
    congr 2
    rw [show 40 - i = (40 - (i + 1)) + 1 from by omega, List.drop_eq_getElem_cons hi, List.take_succ_cons]
    rfl
   ·simp only [boltinglaw08_bound.l0]
    rw [if_pos h1, if_neg h2, show 40 - i = 0 from by omega]; simp
  ·simp only [boltinglaw08_bound.l0]
   rw [if_neg h1, List.drop_of_length_le (by omega)]; simp
theorem bound_f (l : List Rw) (hl : l.length ≤ 1000000000) (k : Nat) (hk : 100 ≤ k) : boltinglaw08_bound.f k l = some ((l.take 40).map cutR) := by
 have := bound_l0 l hl 40 0 k [] (by omega) rfl (by omega)
 simpa [boltinglaw08_bound.f] using this
theorem atts_wt : ∀ (l : List S45), (l.flatMap atT).length ≤ 6 * (l.map wt45).sum
 | [] => by simp
 | a :: l => by
  have ih := atts_wt l
  have h1 := wr_len true a.f1.data.toList
  have e0 := ba_size a.f0
  have e1 := ba_size a.f1
  simp only [List.flatMap_cons, List.length_append, List.map_cons, List.sum_cons, wt45, atT, List.length_cons, List.length_nil] at *
  omega
theorem own_wt (x : Rw) : own x ≤ 30 * wt35 x := by
 have h1 := atts_wt x.f4
 have e0 := ba_size x.f2
 have e1 := ba_size x.f3
 have e2 : (x.f4.map (fun x => wt45 x)).sum = (x.f4.map wt45).sum := rfl
 unfold own tagT
 simp only [List.length_append, List.length_cons, List.length_nil, wt35] at *
 omega
theorem owns_wt : ∀ (l : List Rw), (l.map own).sum ≤ 30 * (l.map wt35).sum
 | [] => by simp
 | x :: l => by have := owns_wt l; have := own_wt x; simp only [List.map_cons, List.sum_cons]; omega
theorem sum_take' {α : Type} (f : α → Nat) : ∀ (l : List α) (n : Nat), ((l.take n).map f).sum ≤ (l.map f).sum
 | [], n => by simp
 | a :: l, 0 => by simp
 | a :: l, n + 1 => by have := sum_take' f l n; simp only [List.take_succ_cons, List.map_cons, List.sum_cons]; omega
theorem cutR_wt (x : Rw) : wt35 (cutR x) ≤ wt35 x := by
 have := sum_take' wt45 x.f4 (mn (x.f4.length : Int) 6).toNat
 simp only [wt35, cutR]
 omega
theorem cutRs_wt : ∀ (l : List Rw), ((l.map cutR).map wt35).sum ≤ (l.map wt35).sum
 | [] => by simp
 | x :: l => by have := cutRs_wt l; have := cutR_wt x; simp only [List.map_cons, List.sum_cons]; omega
theorem lenR_wt : ∀ (l : List Rw), l.length ≤ (l.map wt35).sum
 | [] => by simp
 | x :: l => by have := lenR_wt l; simp only [List.map_cons, List.sum_cons, List.length_cons, wt35]; omega
theorem size_of (l : List Rw) (h : (l.map wt35).sum ≤ 2000000) : SizeP ((l.take 40).map cutR) := by
 refine ⟨by rw [List.length_map, List.length_take]; omega, ?_, ?_⟩
 ·have h1 := owns_wt ((l.take 40).map cutR)
  have h2 := cutRs_wt (l.take 40)
  have h3 := sum_take' wt35 l 40
  unfold sufS
  rw [List.drop_zero]
  omega
 ·intro x hx
  obtain ⟨y, _, rfl⟩ := List.mem_map.1 hx
  have := mn6' y.f4.length
  simp only [cutR, List.length_take]
  omega
theorem fixed_k : boltinglaw08_fixed.f = some true := rfl
theorem same_list {a b : ByteArray} (h : a.data.toList = b.data.toList) : a.toList = b.toList := (bIff a b).2 h
end Go.Proofs.YtdnbaliibiginaaDoorH.W8

/- Words and walks used below. -/
namespace Go.Proofs.YtdnbaliibiginaaDoorH.W8
open Go.RowKit Go.Proofs.YtdnbaliibiginaaDoorW.PrintWords Go.Proofs.YtdnbaliibiginaaDoorW.PrintLast Go.Proofs.YtdnbaliibiginaaDoorW.PrintMore
attribute [local go_sem] max2_int min2_int max_two min_two max_three min_three max_four min_four   -- for this text's walks alone
def boltingref04_Moved.l0 : Nat → List (S35) → Int → List (S35) → Int → Option ((List (S35)))
 | 0, _, _, _, _ => none
 | k + 1, x0, x1, x5, x6 => if x6 < (x0.length : Int) then (if 0 ≤ x6 then ((some (([] : List (S45)) : List (S45))).bind fun y330 => (if y330.length + ((rd_T35 x0 x6).f4).length < 4398046511104 then (if x5.length < 1954687338268 then (boltingref04_Moved.l0 k x0 x1 (x5 ++ [(⟨wrap64 (((rd_T35 x0 x6).f0) + x1), (rd_T35 x0 x6).f1, (rd_T35 x0 x6).f2, (rd_T35 x0 x6).f3, (y330 ++ ((rd_T35 x0 x6).f4))⟩ : S35)]) (wrap64 (x6 + 1))) else (none)) else (none))) else (none)) else (some x5)
def boltingref04_Moved.f (k : Nat) (l0 : List (S35)) (a1 : Int) : Option ((List (S35))) := boltingref04_Moved.l0 k l0 a1 (([] : List (S35))) 0
set_option maxHeartbeats 8000000 in
set_option maxRecDepth 100000 in
theorem boltingref04_Moved.calls (k : Nat) (A0 : Option Addr) (c0 : Nat) (l0 : List (S35)) (a1 : Int) (r : List (S35)) (w : World) (hr0 : Kd.C k35 w A0 l0.length l0) (hc0 : l0.length ≤ c0) (h : boltingref04_Moved.f k l0 a1 = some r) :
  Calls Tryd.prog 15 #[.slice A0 l0.length c0, .int .i64 a1] w fun e w' => ∃ v0_ : Value, e = .returned (v0_) ∧ Kd.R k35 35 w' w.heap.size (fun _ => True) v0_ r ∧ Below w.heap.size w w' := by
 have hu35 := Tryd.underlying35
 have HR0 := Aside0.mk hr0
 have HC0 := Aside0.mk hc0
 clear hr0 hc0
 have HB := Aside0.mk (Below.refl w.heap.size w)
 have H : (boltingref04_Moved.l0 k l0 a1 (([] : List (S35))) 0) = some r := h
 clear h
 obtain ⟨y325, hy325⟩ : ∃ y_ : List (S35), y_ = (([] : List (S35))) := ⟨_, rfl⟩
 replace H : (boltingref04_Moved.l0 k l0 a1 y325 0) = some r := by first | (rw [hy325]; with_reducible exact H) | (have H2_ := (Option.bind_some _ _).symm.trans H; rw [hy325]; with_reducible exact H2_) | (have H2_ := (Option.bind_some _ _).symm.trans H; with_reducible exact H2_) | with_reducible exact H | (rw [hy325]; exact H) | exact H
 have Ny325 := Aside0.mk hy325
 clear hy325
 have H' := Aside0.mk H
 clear H
 go_enter Tryd.func15, Tryd.ntmps15
 go_wp2_with (first | ((with_reducible refine gate_dst (N := 8) rfl ?_); refine Kd.R_lit k35 _ 35 ?hg (N := 8) ?hd (xs := ([] : List (S35))) (inner := []) (ok := fun _ => True) (okp := fun _ => True) ?hr ?hp (fun _ hk => hk) trivial (Below.refl _ _) (Nat.le_refl _) (by simp) ?_; (case hd => rfl); (case hg => rfl); (case hr => first | (go_simp; done) | (go_simp; rfl)); (case hp => exact (Reps.none _ _)); intro v326 w3 ho4 hb hg_ hnew_; clear hg_ hnew_; (first | rw [← Ny325.out] at ho4 | (simp only [Int.reduceToNat] at ho4; rw [← Ny325.out] at ho4)); have n0_ := Aside0.mk (Kd.R_lower ho4 (below_size bz)); have n1_ := Aside0.mk (below_step bz hb); clear HB; have HO327 := n0_; have HB := n1_; clear n0_ n1_; clear hb ho4))
 go_loopg [5, 6] k (fun kq v5 v6 w' => ∃ (x5_1 : List (S35)) (x6_1 : Int), v6 = .int .i64 x6_1 ∧ Aside0 (boltingref04_Moved.l0 kq l0 a1 x5_1 x6_1 = some r) ∧ Aside0 (kq ≤ k) ∧ Aside0 (Kd.R k35 35 w' w.heap.size (fun _ => True) v5 x5_1) ∧ Aside0 (Below w.heap.size w w'))
 case atStart => exact ⟨(y325), (0), (by first | rfl | (simp; done) | (simp [*]; done) | (simp; generalize ByteArray.toList _ = l_; cases l_ <;> rfl)), H', ⟨Nat.le_refl _⟩, ⟨by (with_reducible repeat (first | apply Kd.R_alloc | apply Kd.R_drewN | apply Kd.R_drew)); exact HO327.out⟩, ⟨bz⟩⟩
 case round =>
  clear H'
  try clear c1
  try clear p2
  obtain ⟨x5_1, x6_1, rfl, HA, HK1, HO_5, HB⟩ := hrel
  cases gk with
  | zero => exact absurd HA.out (by simp [boltingref04_Moved.l0])
  | succ k1 =>
   have H := HA.out
   clear HA
   simp only [boltingref04_Moved.l0] at H
   by_cases c5 : x6_1 < (l0.length : Int)
   ·rw [if_pos c5] at H
    have c5b0 : decide (x6_1 < (l0.length : Int)) = true := decide_eq_true c5
    clear c5
    by_cases c6 : 0 ≤ x6_1
    ·rw [if_pos c6] at H
     have c6b0 : decide (0 ≤ x6_1) = true := decide_eq_true c6
     clear c6
     obtain ⟨y330, hy330⟩ : ∃ y_ : List (S45), y_ = (([] : List (S45))) := ⟨_, rfl⟩
     replace H : (if y330.length + ((rd_T35 l0 x6_1).f4).length < 4398046511104 then (if x5_1.length < 1954687338268 then (boltingref04_Moved.l0 k1 l0 a1 (x5_1 ++ [(⟨wrap64 (((rd_T35 l0 x6_1).f0) + a1), (rd_T35 l0 x6_1).f1, (rd_T35 l0 x6_1).f2, (rd_T35 l0 x6_1).f3, (y330 ++ ((rd_T35 l0 x6_1).f4))⟩ : S35)]) (wrap64 (x6_1 + 1))) else (none)) else (none)) = some r := by first | (rw [hy330]; with_reducible exact H) | (have H2_ := (Option.bind_some _ _).symm.trans H; rw [hy330]; with_reducible exact H2_) | (have H2_ := (Option.bind_some _ _).symm.trans H; with_reducible exact H2_) | with_reducible exact H | (rw [hy330]; exact H) | exact H
     have Ny330 := Aside0.mk hy330
     clear hy330
     by_cases c7 : y330.length + ((rd_T35 l0 x6_1).f4).length < 4398046511104
     ·rw [if_pos c7] at H
      have LMc7 := Aside0.mk c7
      clear c7
      obtain ⟨y333, hy333⟩ : ∃ y_ : List (S45), y_ = (y330 ++ ((rd_T35 l0 x6_1).f4)) := ⟨_, rfl⟩
      replace H : (if x5_1.length < 1954687338268 then (boltingref04_Moved.l0 k1 l0 a1 (x5_1 ++ [(⟨wrap64 (((rd_T35 l0 x6_1).f0) + a1), (rd_T35 l0 x6_1).f1, (rd_T35 l0 x6_1).f2, (rd_T35 l0 x6_1).f3, y333⟩ : S35)]) (wrap64 (x6_1 + 1))) else (none)) = some r := by first | (rw [hy333]; with_reducible exact H) | (have H2_ := (Option.bind_some _ _).symm.trans H; rw [hy333]; with_reducible exact H2_) | (have H2_ := (Option.bind_some _ _).symm.trans H; with_reducible exact H2_) | with_reducible exact H | (rw [hy333]; exact H) | exact H
      have Ny333 := Aside0.mk hy333
      clear hy333
      by_cases c8 : x5_1.length < 1954687338268
      ·rw [if_pos c8] at H
       have LMc8 := Aside0.mk c8
       clear c8
       obtain ⟨y336, hy336⟩ : ∃ y_ : List (S35), y_ = (x5_1 ++ [(⟨wrap64 (((rd_T35 l0 x6_1).f0) + a1), (rd_T35 l0 x6_1).f1, (rd_T35 l0 x6_1).f2, (rd_T35 l0 x6_1).f3, y333⟩ : S35)]) := ⟨_, rfl⟩
       replace H : (boltingref04_Moved.l0 k1 l0 a1 y336 (wrap64 (x6_1 + 1))) = some r := by first | (rw [hy336]; with_reducible exact H) | (have H2_ := (Option.bind_some _ _).symm.trans H; rw [hy336]; with_reducible exact H2_) | (have H2_ := (Option.bind_some _ _).symm.trans H; with_reducible exact H2_) | with_reducible exact H | (rw [hy336]; exact H) | exact H
       have Ny336 := Aside0.mk hy336
       clear hy336
       have H' := Aside0.mk H
       clear H
       have p328 : 0 ≤ (x6_1 : Int) := (by first | exact of_decide_eq_true (by first | (with_reducible assumption) | assumption) | assumption | omega)
       have q328 : x6_1 < (l0.length : Int) := (by first | exact of_decide_eq_true (by first | (with_reducible assumption) | assumption) | assumption | omega)
       obtain ⟨ad328, A328_4, c328_4, e328, hx328_0, hx328_1, hx328_2, hx328_3, hx328_4, hl328_4, hi328_4⟩ := at_T35 HR0.out x6_1 p328 q328
       cases e328
       replace hx328_0 := (HB.out.cell (World.block_lt_of_cell? w _ hx328_0)).trans hx328_0
       replace hx328_1 := (HB.out.cell (World.block_lt_of_cell? w _ hx328_1)).trans hx328_1
       replace hx328_2 := (HB.out.cell (World.block_lt_of_cell? w _ hx328_2)).trans hx328_2
       replace hx328_3 := (HB.out.cell (World.block_lt_of_cell? w _ hx328_3)).trans hx328_3
       replace hx328_4 := (HB.out.cell (World.block_lt_of_cell? w _ hx328_4)).trans hx328_4
       have HR328_4 := Aside0.mk hi328_4
       have HC328_4 := Aside0.mk hl328_4
       clear hi328_4 hl328_4
       replace p328 := eq_true p328
       replace q328 := eq_true q328
       go_wp2_with (first | ((with_reducible refine gate_dst (N := 7) rfl ?_); refine box_event ?hg (N := 7) ?hd (cs := #[.int .i64 0, .int .i64 0, .string (⟨#[]⟩ : ByteArray), .string (⟨#[]⟩ : ByteArray), .slice none 0 0]) (t := 35) ?hr ?_; (case hd => rfl); (case hg => rfl); (case hr => first | (go_simp; done) | (go_simp; rfl)); intro gb329 hg w9 hbox hb; have n0_ := Aside0.mk (Kd.R_below (Kd.R_elderB (rz HO_5.out) gb329 (Nat.le_of_eq hg.symm)) hb); have n1_ := Aside0.mk (below_step bz hb); have n2_ := Aside0.mk (hbox); have n3_ := Aside0.mk ((by rw [hg]; exact (below_size bz) : w.heap.size ≤ gb329)); have n4_ := Aside0.mk ((by rw [hg]; exact (below_size bz) : w.heap.size ≤ gb329)); clear HO_5; clear HB; have HO_5 := n0_; have HB := n1_; have BK329 := n2_; have GW329 := n3_; have GE329 := n4_; clear n0_ n1_ n2_ n3_ n4_; clear hb hbox hg; have hcz10_0 : w9.cell? ⟨gb329, 0, none⟩ = some (.int .i64 0) := (blk_cell BK329.out 0).trans rfl; have hcz10_1 : w9.cell? ⟨gb329, 1, none⟩ = some (.int .i64 0) := (blk_cell BK329.out 1).trans rfl; have hcz10_2 : w9.cell? ⟨gb329, 2, none⟩ = some (.string (⟨#[]⟩ : ByteArray)) := (blk_cell BK329.out 2).trans rfl; have hcz10_3 : w9.cell? ⟨gb329, 3, none⟩ = some (.string (⟨#[]⟩ : ByteArray)) := (blk_cell BK329.out 3).trans rfl; have hcz10_4 : w9.cell? ⟨gb329, 4, none⟩ = some (.slice none 0 0) := (blk_cell BK329.out 4).trans rfl; have hfz10_0 := blk_frozen BK329.out 0; have hfz10_1 := blk_frozen BK329.out 1; have hfz10_2 := blk_frozen BK329.out 2; have hfz10_3 := blk_frozen BK329.out 3; have hfz10_4 := blk_frozen BK329.out 4) | ((with_reducible refine gate_dst (N := 24) rfl ?_); refine Kd.R_lit k45 _ 45 ?hg (N := 24) ?hd (xs := ([] : List (S45))) (inner := []) (ok := fun _ => True) (okp := fun _ => True) ?hr ?hp (fun _ hk => hk) trivial (Below.refl _ _) (Nat.le_refl _) (by simp) ?_; (case hd => rfl); (case hg => rfl); (case hr => first | (go_simp; done) | (go_simp; rfl)); (case hp => exact (Reps.none _ _)); intro v331 w11 ho12 hb hg_ hnew_; clear hg_ hnew_; (first | rw [← Ny330.out] at ho12 | (simp only [Int.reduceToNat] at ho12; rw [← Ny330.out] at ho12)); have n0_ := Aside0.mk (Kd.R_elder' (by (with_reducible repeat (first | apply Kd.R_alloc | apply Kd.R_drewN | apply Kd.R_drew)); exact (Kd.R_mono (Kd.R_far (p := ⟨gb329, 0, none⟩) (Kd.R_far (p := ⟨gb329, 4, none⟩) (Kd.R_far (p := ⟨gb329, 3, none⟩) (Kd.R_far (p := ⟨gb329, 2, none⟩) (Kd.R_far (p := ⟨gb329, 1, none⟩) (Kd.R_far (p := ⟨gb329, 0, none⟩) (Kd.R_mono HO_5.out (fun k_ hk => (⟨hk, hk.2⟩ : _ ∧ k_ ≠ gb329))) (fun _ hk => hk.2) (.int .i64 ((rd_T35 l0 x6_1).f0))) (fun _ hk => hk.2) (.int .i64 ((rd_T35 l0 x6_1).f1))) (fun _ hk => hk.2) (.string ((rd_T35 l0 x6_1).f2))) (fun _ hk => hk.2) (.string ((rd_T35 l0 x6_1).f3))) (fun _ hk => hk.2) (.slice A328_4 ((rd_T35 l0 x6_1).f4).length c328_4)) (fun _ hk => hk.2) (.int .i64 (wrap64 (((rd_T35 l0 x6_1).f0) + a1)))) (fun _ h_ => h_.1))) (Kd.R_base ho12) hb); have n1_ := Aside0.mk (Kd.R_lower ho12 (below_size (bs GE329.out))); have n2_ := Aside0.mk (blk_below (g := gb329) (o := .cells #[.int .i64 (wrap64 (((rd_T35 l0 x6_1).f0) + a1)), .int .i64 ((rd_T35 l0 x6_1).f1), .string ((rd_T35 l0 x6_1).f2), .string ((rd_T35 l0 x6_1).f3), .slice A328_4 ((rd_T35 l0 x6_1).f4).length c328_4] 35 (0, 0)) (by (with_reducible repeat (first | refine blk_drewN ?_ _ | refine blk_drew ?_ | refine blk_alloc ?_ _)); refine blk_put (cs := #[.int .i64 ((rd_T35 l0 x6_1).f0), .int .i64 ((rd_T35 l0 x6_1).f1), .string ((rd_T35 l0 x6_1).f2), .string ((rd_T35 l0 x6_1).f3), .slice A328_4 ((rd_T35 l0 x6_1).f4).length c328_4]) ?_ 0 _ rfl; (with_reducible repeat (first | refine blk_drewN ?_ _ | refine blk_drew ?_ | refine blk_alloc ?_ _)); refine blk_put (cs := #[.int .i64 ((rd_T35 l0 x6_1).f0), .int .i64 ((rd_T35 l0 x6_1).f1), .string ((rd_T35 l0 x6_1).f2), .string ((rd_T35 l0 x6_1).f3), .slice none 0 0]) ?_ 4 _ rfl; (with_reducible repeat (first | refine blk_drewN ?_ _ | refine blk_drew ?_ | refine blk_alloc ?_ _)); refine blk_put (cs := #[.int .i64 ((rd_T35 l0 x6_1).f0), .int .i64 ((rd_T35 l0 x6_1).f1), .string ((rd_T35 l0 x6_1).f2), .string (⟨#[]⟩ : ByteArray), .slice none 0 0]) ?_ 3 _ rfl; (with_reducible repeat (first | refine blk_drewN ?_ _ | refine blk_drew ?_ | refine blk_alloc ?_ _)); refine blk_put (cs := #[.int .i64 ((rd_T35 l0 x6_1).f0), .int .i64 ((rd_T35 l0 x6_1).f1), .string (⟨#[]⟩ : ByteArray), .string (⟨#[]⟩ : ByteArray), .slice none 0 0]) ?_ 2 _ rfl; (with_reducible repeat (first | refine blk_drewN ?_ _ | refine blk_drew ?_ | refine blk_alloc ?_ _)); refine blk_put (cs := #[.int .i64 ((rd_T35 l0 x6_1).f0), .int .i64 0, .string (⟨#[]⟩ : ByteArray), .string (⟨#[]⟩ : ByteArray), .slice none 0 0]) ?_ 1 _ rfl; (with_reducible repeat (first | refine blk_drewN ?_ _ | refine blk_drew ?_ | refine blk_alloc ?_ _)); refine blk_put (cs := #[.int .i64 0, .int .i64 0, .string (⟨#[]⟩ : ByteArray), .string (⟨#[]⟩ : ByteArray), .slice none 0 0]) ?_ 0 _ rfl; (with_reducible repeat (first | refine blk_drewN ?_ _ | refine blk_drew ?_ | refine blk_alloc ?_ _)); exact BK329.out) hb); have n3_ := Aside0.mk (below_step (bs GE329.out) hb); clear HO_5; clear BK329; clear HB; have HO_5 := n0_; have HO332 := n1_; have BK329 := n2_; have HB := n3_; clear n0_ n1_ n2_ n3_; clear hb ho12; have hcz13_0 : w11.cell? ⟨gb329, 0, none⟩ = some (.int .i64 (wrap64 (((rd_T35 l0 x6_1).f0) + a1))) := (blk_cell BK329.out 0).trans rfl; have hcz13_1 : w11.cell? ⟨gb329, 1, none⟩ = some (.int .i64 ((rd_T35 l0 x6_1).f1)) := (blk_cell BK329.out 1).trans rfl; have hcz13_2 : w11.cell? ⟨gb329, 2, none⟩ = some (.string ((rd_T35 l0 x6_1).f2)) := (blk_cell BK329.out 2).trans rfl; have hcz13_3 : w11.cell? ⟨gb329, 3, none⟩ = some (.string ((rd_T35 l0 x6_1).f3)) := (blk_cell BK329.out 3).trans rfl; have hcz13_4 : w11.cell? ⟨gb329, 4, none⟩ = some (.slice A328_4 ((rd_T35 l0 x6_1).f4).length c328_4) := (blk_cell BK329.out 4).trans rfl; have hfz13_0 := blk_frozen BK329.out 0; have hfz13_1 := blk_frozen BK329.out 1; have hfz13_2 := blk_frozen BK329.out 2; have hfz13_3 := blk_frozen BK329.out 3; have hfz13_4 := blk_frozen BK329.out 4) | ((with_reducible refine gate_builtin (b := .append) (xs := #[.tmp 24, .tmp 26]) rfl ?_); at_builtin; refine Kd.R_append_rows k45 (w0 := w) w.heap.size rfl (.tmp 24) (.tmp 26) 33 45 (.agg #[(.string ⟨#[]⟩), (.string ⟨#[]⟩)]) 32 rfl Tryd.underlying33 info45 rfl (by decide) (by omega) v331 y330 ((rd_T35 l0 x6_1).f4) _ _ _ (fun _ => True) (fun _ => False) rfl rfl ?aO ?aR (fun _ _ h => h) (fun _ h => h.elim) ?aF ?aB ?aS ?aL ?_; (case aR => exact cz (Kd.C_below HR328_4.out HB.out)); (case aB => exact (bs GE329.out)); (case aF => exact (fun _ _ => trivial)); (case aO => exact (rz HO332.out)); (case aS => exact (below_size (bs GE329.out))); (case aL => have := LMc7.out; omega); intro v334 w14 ho hb hg hat; rw [← Ny333.out] at ho; have n0_ := Aside0.mk (Kd.R_after (ok := (fun k_ => k_ ≠ gb329)) (by (with_reducible repeat (first | apply Kd.R_alloc | apply Kd.R_drewN | apply Kd.R_drew)); exact Kd.R_mono HO_5.out (fun _ hk => ⟨hk.1.2, hk.2⟩)) hg hat); have n1_ := Aside0.mk (blk_grown (g := gb329) (o := .cells #[.int .i64 (wrap64 (((rd_T35 l0 x6_1).f0) + a1)), .int .i64 ((rd_T35 l0 x6_1).f1), .string ((rd_T35 l0 x6_1).f2), .string ((rd_T35 l0 x6_1).f3), .slice A328_4 ((rd_T35 l0 x6_1).f4).length c328_4] 35 (0, 0)) (kz BK329.out) hg (Kd.R_ne HO332.out BK329.out (by decide))); have n2_ := Aside0.mk (hb); have n3_ := Aside0.mk (ho); clear HO_5; clear BK329; clear HB; clear HO332; have HO_5 := n0_; have BK329 := n1_; have HB := n2_; have HO335 := n3_; clear n0_ n1_ n2_ n3_; clear ho hb hg hat; obtain ⟨Ao15, co15, eo15⟩ := Kd.R_slice HO335.out; subst eo15; have hcz16_0 : w14.cell? ⟨gb329, 0, none⟩ = some (.int .i64 (wrap64 (((rd_T35 l0 x6_1).f0) + a1))) := (blk_cell BK329.out 0).trans rfl; have hcz16_1 : w14.cell? ⟨gb329, 1, none⟩ = some (.int .i64 ((rd_T35 l0 x6_1).f1)) := (blk_cell BK329.out 1).trans rfl; have hcz16_2 : w14.cell? ⟨gb329, 2, none⟩ = some (.string ((rd_T35 l0 x6_1).f2)) := (blk_cell BK329.out 2).trans rfl; have hcz16_3 : w14.cell? ⟨gb329, 3, none⟩ = some (.string ((rd_T35 l0 x6_1).f3)) := (blk_cell BK329.out 3).trans rfl; have hcz16_4 : w14.cell? ⟨gb329, 4, none⟩ = some (.slice A328_4 ((rd_T35 l0 x6_1).f4).length c328_4) := (blk_cell BK329.out 4).trans rfl; have hfz16_0 := blk_frozen BK329.out 0; have hfz16_1 := blk_frozen BK329.out 1; have hfz16_2 := blk_frozen BK329.out 2; have hfz16_3 := blk_frozen BK329.out 3; have hfz16_4 := blk_frozen BK329.out 4) | ((with_reducible refine gate_store (t := 33) (p := 28) rfl ?_); refine store_event (t := 33) (p := 28) (v := ?vo_w17) (w1 := (w14.setCell ⟨gb329, 4, none⟩ (.slice Ao15 y333.length co15))) ?hg ?ho ?hn ?hr ?_; (case ho => rfl); (case hg => rfl); (case hn => rfl); (case hr => first | (go_simp; done) | (go_simp; rfl)); intro w17 hw; have n0_ : Aside0 (Kd.R k35 35 w17 w.heap.size (fun k_ => some k_ ≠ (.slice Ao15 y333.length co15 : Value).ownBlock ∧ k_ ≠ gb329) u5 x5_1) := ⟨(by rw [hw]; exact (by (with_reducible repeat (first | apply Kd.R_alloc | apply Kd.R_drewN | apply Kd.R_drew)); exact Kd.R_mono (Kd.R_far (p := ⟨gb329, 4, none⟩) (Kd.R_mono HO_5.out (fun k_ hk => (⟨hk, hk.1⟩ : _ ∧ k_ ≠ gb329))) (fun _ hk => hk.2) (.slice Ao15 y333.length co15)) (fun _ hk => ⟨hk.1.2, hk.1.1⟩)))⟩; have n1_ : Aside0 (Kd.R k45 45 w17 w.heap.size (fun _ => True) (.slice Ao15 y333.length co15) y333) := ⟨(by rw [hw]; exact (by (with_reducible repeat (first | apply Kd.R_alloc | apply Kd.R_drewN | apply Kd.R_drew)); exact Kd.R_mono (Kd.R_far (p := ⟨gb329, 4, none⟩) (Kd.R_types HO335.out BK329.out (by decide)) (fun _ hk => hk.2) (.slice Ao15 y333.length co15)) (fun _ hk => trivial)))⟩; have n2_ : Aside0 (w17.heap[gb329]? = some (.cells #[.int .i64 (wrap64 (((rd_T35 l0 x6_1).f0) + a1)), .int .i64 ((rd_T35 l0 x6_1).f1), .string ((rd_T35 l0 x6_1).f2), .string ((rd_T35 l0 x6_1).f3), .slice Ao15 y333.length co15] 35 (0, 0))) := ⟨(by rw [hw]; exact (by (with_reducible repeat (first | refine blk_drewN ?_ _ | refine blk_drew ?_ | refine blk_alloc ?_ _)); refine blk_put (cs := #[.int .i64 (wrap64 (((rd_T35 l0 x6_1).f0) + a1)), .int .i64 ((rd_T35 l0 x6_1).f1), .string ((rd_T35 l0 x6_1).f2), .string ((rd_T35 l0 x6_1).f3), .slice A328_4 ((rd_T35 l0 x6_1).f4).length c328_4]) ?_ 4 _ rfl; (with_reducible repeat (first | refine blk_drewN ?_ _ | refine blk_drew ?_ | refine blk_alloc ?_ _)); exact BK329.out))⟩; have n3_ : Aside0 (Below w.heap.size w w17) := ⟨(by rw [hw]; exact (bs GE329.out))⟩; clear hw; clear HO_5; clear HO335; clear BK329; clear HB; have HO_5 := n0_; have HO335 := n1_; have BK329 := n2_; have HB := n3_; clear n0_ n1_ n2_ n3_; have hcz18_0 : w17.cell? ⟨gb329, 0, none⟩ = some (.int .i64 (wrap64 (((rd_T35 l0 x6_1).f0) + a1))) := (blk_cell BK329.out 0).trans rfl; have hcz18_1 : w17.cell? ⟨gb329, 1, none⟩ = some (.int .i64 ((rd_T35 l0 x6_1).f1)) := (blk_cell BK329.out 1).trans rfl; have hcz18_2 : w17.cell? ⟨gb329, 2, none⟩ = some (.string ((rd_T35 l0 x6_1).f2)) := (blk_cell BK329.out 2).trans rfl; have hcz18_3 : w17.cell? ⟨gb329, 3, none⟩ = some (.string ((rd_T35 l0 x6_1).f3)) := (blk_cell BK329.out 3).trans rfl; have hcz18_4 : w17.cell? ⟨gb329, 4, none⟩ = some (.slice Ao15 y333.length co15) := (blk_cell BK329.out 4).trans rfl; have hfz18_0 := blk_frozen BK329.out 0; have hfz18_1 := blk_frozen BK329.out 1; have hfz18_2 := blk_frozen BK329.out 2; have hfz18_3 := blk_frozen BK329.out 3; have hfz18_4 := blk_frozen BK329.out 4) | ((with_reducible refine gate_builtin (b := .append) (xs := #[.tmp 29, .tmp 31]) rfl ?_); at_builtin; refine Kd.R_append k35 (w0 := w) w.heap.size rfl (.tmp 29) (.tmp 31) 22 35 (.agg #[(.int .i64 0), (.int .i64 0), (.string ⟨#[]⟩), (.string ⟨#[]⟩), (.slice none 0 0)]) 72 rfl Tryd.underlying22 info35 rfl (by decide) (by omega) u5 x5_1 (⟨wrap64 (((rd_T35 l0 x6_1).f0) + a1), (rd_T35 l0 x6_1).f1, (rd_T35 l0 x6_1).f2, (rd_T35 l0 x6_1).f3, y333⟩ : S35) [.int .i64 (wrap64 (((rd_T35 l0 x6_1).f0) + a1)), .int .i64 ((rd_T35 l0 x6_1).f1), .string ((rd_T35 l0 x6_1).f2), .string ((rd_T35 l0 x6_1).f3), .slice Ao15 y333.length co15] (fun k_ => k_ ≠ gb329) (fun k_ => ((fun k_ => k_ ≠ gb329)) k_ ∧ some k_ ≠ (u5 : Value).ownBlock) rfl rfl ?aP (fun _ hk => hk) ?aF ?aO ?aB ?aS ?aL ?_; (case aP => exact k35_mkM _ _ _ (⟨wrap64 (((rd_T35 l0 x6_1).f0) + a1), (rd_T35 l0 x6_1).f1, (rd_T35 l0 x6_1).f2, (rd_T35 l0 x6_1).f3, y333⟩ : S35) (Kd.R_mono (Kd.R_types (Kd.R_apart' (HO335.out) (Kd.R_typed HO_5.out) (by decide)) BK329.out (by decide)) (fun k_ hk => ⟨hk.2, hk.1.2⟩))); (case aB => exact (bs GE329.out)); (case aF => exact (fun k_ hk => Kd.freshB (g := gb329) (o := .cells #[.int .i64 (wrap64 (((rd_T35 l0 x6_1).f0) + a1)), .int .i64 ((rd_T35 l0 x6_1).f1), .string ((rd_T35 l0 x6_1).f2), .string ((rd_T35 l0 x6_1).f3), .slice Ao15 y333.length co15] 35 (0, 0)) (kz BK329.out) k_ hk)); (case aO => exact (by (with_reducible repeat (first | apply Kd.R_alloc | apply Kd.R_drewN | apply Kd.R_drew)); exact Kd.R_mono HO_5.out (fun _ hk => hk.2))); (case aS => exact (below_size (bs GE329.out))); (case aL => have := LMc8.out; omega); intro v337 w19 ho hb hg hat; rw [← Ny336.out] at ho; have n0_ := Aside0.mk (blk_grown (g := gb329) (o := .cells #[.int .i64 (wrap64 (((rd_T35 l0 x6_1).f0) + a1)), .int .i64 ((rd_T35 l0 x6_1).f1), .string ((rd_T35 l0 x6_1).f2), .string ((rd_T35 l0 x6_1).f3), .slice Ao15 y333.length co15] 35 (0, 0)) (kz BK329.out) hg (Kd.R_away HO_5.out (fun _ hk => hk.2))); have n1_ := Aside0.mk (hb); have n2_ := Aside0.mk (ho); clear BK329; clear HB; clear HO_5; clear HO335; have BK329 := n0_; have HB := n1_; have HO338 := n2_; clear n0_ n1_ n2_; clear ho hb hg hat))
       go_roundg k1
       case measure => have := HK1.out; omega
       case rel => exact ⟨(y336), (wrap64 (x6_1 + 1)), (by first | rfl | (simp; done) | (simp [*]; done) | (simp; generalize ByteArray.toList _ = l_; cases l_ <;> rfl)), H', ⟨by have := HK1.out; omega⟩, ⟨by (with_reducible repeat (first | apply Kd.R_alloc | apply Kd.R_drewN | apply Kd.R_drew)); exact Kd.R_mono HO338.out (fun _ hk => trivial)⟩, ⟨bs GE329.out⟩⟩
      ·rw [if_neg c8] at H
       exact absurd H (by simp)
     ·rw [if_neg c7] at H
      exact absurd H (by simp)
    ·rw [if_neg c6] at H
     exact absurd H (by simp)
   ·rw [if_neg c5] at H
    have c5b0 : decide (x6_1 < (l0.length : Int)) = false := decide_eq_false c5
    clear c5
    obtain rfl := Option.some.inj H
    go_wp2
    go_ret
    exact ⟨_, by first | rfl | (simp [errW_none, errW_some] <;> rfl) | (simp [*, errW_none, errW_some] <;> rfl), by (with_reducible repeat (first | apply Kd.R_alloc | apply Kd.R_drewN | apply Kd.R_drew)); exact HO_5.out, bz⟩
end Go.Proofs.YtdnbaliibiginaaDoorH.W8

/- Words and walks used below. -/
namespace Go.Proofs.YtdnbaliibiginaaDoorH.W8
open Go.RowKit Go.Proofs.YtdnbaliibiginaaDoorW.PrintWords Go.Proofs.YtdnbaliibiginaaDoorW.PrintLast Go.Proofs.YtdnbaliibiginaaDoorW.PrintMore
attribute [local go_sem] max2_int min2_int max_two min_two max_three min_three max_four min_four   -- for this text's walks alone
def boltingref04_Join.f (k : Nat) (l0 : List (S35)) (l1 : List (S35)) : Option ((List (S35))) := (boltingref04_Moved.f k l0 0).bind fun t367 => ((boltingref04_Moved.f k l1 0).bind fun t370 => (if t367.length + t370.length < 1954687338268 then (some (t367 ++ t370)) else (none)))
end Go.Proofs.YtdnbaliibiginaaDoorH.W8

/- Words and walks used below. -/
namespace Go.Proofs.YtdnbaliibiginaaDoorH.W8
open Go.RowKit Go.Proofs.YtdnbaliibiginaaDoorW.PrintWords Go.Proofs.YtdnbaliibiginaaDoorW.PrintLast Go.Proofs.YtdnbaliibiginaaDoorW.PrintMore
attribute [local go_sem] max2_int min2_int max_two min_two max_three min_three max_four min_four   -- for this text's walks alone
def boltinglaw08_WriteTwo.j0 : Nat → List (S35) → List (S35) → Bool → Option (Bool)
 | 0, _, _, _ => none
 | k + 1, x0, x1, x17 => if x17 = true then ((boltinglaw08_fixed.f).bind fun t384 => (some t384)) else ((boltingref04_Join.f k x0 (([(⟨0, 0, (⟨#[105]⟩ : ByteArray), (⟨#[]⟩ : ByteArray), ([] : List (S45))⟩ : S35)] : List (S35)))).bind fun t388 => ((boltingref04_Join.f k t388 x1).bind fun t391 => ((write_Legal.f k t391).bind fun t394 => (if t394 = true then ((write_Rows.f t391).bind fun t395 => ((write_Rows.f x0).bind fun t396 => (if t396.size + 7 ≤ 9223372036854775807 then ((write_Rows.f x1).bind fun t397 => (if (t396 ++ (⟨#[60, 105, 62, 60, 47, 105, 62]⟩ : ByteArray)).size + t397.size ≤ 9223372036854775807 then (if t395.toList = ((t396 ++ (⟨#[60, 105, 62, 60, 47, 105, 62]⟩ : ByteArray)) ++ t397).toList then ((boltinglaw08_fixed.f).bind fun t398 => (some t398)) else (some false)) else (none))) else (none)))) else (some false)))))
def boltinglaw08_WriteTwo.f (k : Nat) (l0 : List (S35)) (l1 : List (S35)) : Option (Bool) := (boltinglaw08_bound.f k l0).bind fun t376 => ((boltinglaw08_bound.f k l1).bind fun t379 => ((write_Legal.f k t376).bind fun t382 => (if t382 = true then ((write_Legal.f k t379).bind fun t383 => (boltinglaw08_WriteTwo.j0 k t376 t379 (!t383))) else (boltinglaw08_WriteTwo.j0 k t376 t379 true))))
end Go.Proofs.YtdnbaliibiginaaDoorH.W8

/- WriteTwo, in numbers and lists alone: legal trees behind legal trees are legal, and written one behind the other. -/
namespace Go.Proofs.YtdnbaliibiginaaDoorH.W8
open Go.RowKit Go.Proofs Go.Proofs.YtdnbaliibiginaaDoorH Go.Proofs.YtdnbaliibiginaaDoor Go.Proofs.YtdnbaliibiginaaDoorW.PrintWords
def iName : ByteArray := ⟨#[105]⟩
def iRow : Rw := ⟨0, 0, iName, ⟨#[]⟩, []⟩
end Go.Proofs.YtdnbaliibiginaaDoorH.W8

/- WriteTwo, in numbers and lists alone: the statement. -/
namespace Go.Proofs.YtdnbaliibiginaaDoorH.W8
open Go.RowKit Go.Proofs Go.Proofs.YtdnbaliibiginaaDoorH Go.Proofs.YtdnbaliibiginaaDoor Go.Proofs.YtdnbaliibiginaaDoorW.PrintWords
theorem refMoved_l0 (xs : List Rw) (hl : xs.length < 1000000) (hd : ∀ x ∈ xs, 0 ≤ x.f0 ∧ x.f0 ≤ 1000000) (ha : ∀ x ∈ xs, x.f4.length ≤ 6) : ∀ (d i k : Nat) (acc : List Rw), i + d = xs.length → acc.length = i → d < k → boltingref04_Moved.l0 k xs 0 acc i = some (acc ++ xs.drop i) := by
 intro d
 induction d with
 | zero =>
  intro i k acc hi hacc hk
  obtain ⟨k, rfl⟩ : ∃ m, k = m + 1 := ⟨k - 1, by omega⟩
  simp only [boltingref04_Moved.l0]
  rw [if_neg (by omega), List.drop_of_length_le (by omega), List.append_nil]
 | succ d ih =>
  intro i k acc hi hacc hk
  obtain ⟨k, rfl⟩ : ∃ m, k = m + 1 := ⟨k - 1, by omega⟩
  have hlt : i < xs.length := by omega
  have h0 := hd xs[i] (List.getElem_mem hlt)
  have h4 := ha xs[i] (List.getElem_mem hlt)
  simp only [boltingref04_Moved.l0]
  rw [if_pos (by omega), if_pos (by omega), Option.bind_some, rd35_at xs i hlt, if_pos (by simp; omega), if_pos (by omega), wN (by omega), w64 (by omega) (by omega), Int.add_zero, List.nil_append]
  rw [ih (i + 1) k _ (by omega) (by simp [hacc]) (by omega), List.append_assoc, List.drop_eq_getElem_cons hlt]
  rfl
theorem refMoved_f (xs : List Rw) (hl : xs.length < 1000000) (hd : ∀ x ∈ xs, 0 ≤ x.f0 ∧ x.f0 ≤ 1000000) (ha : ∀ x ∈ xs, x.f4.length ≤ 6) (k : Nat) (hk : xs.length < k) : boltingref04_Moved.f k xs 0 = some xs := by
 unfold boltingref04_Moved.f
 have := refMoved_l0 xs hl hd ha xs.length 0 k [] (by omega) rfl hk
 simpa using this
theorem depth_all {xs : List Rw} (hp : RightP xs) (hl : xs.length ≤ 1000000) : ∀ x ∈ xs, 0 ≤ x.f0 ∧ x.f0 ≤ 1000000 := by
 intro x hm
 obtain ⟨j, hj, rfl⟩ := List.getElem_of_mem hm
 have h1 := (hp j hj).low
 have h2 := (hp j hj).high
 rw [depth_at xs j hj] at h1 h2
 omega
theorem len_of (l : List Rw) : ((l.take 40).map cutR).length ≤ 40 := by rw [List.length_map, List.length_take]; omega
end Go.Proofs.YtdnbaliibiginaaDoorH.W8
