/- Lemmas and walks, part 15: QE8C, QPW7x8, QE8N. -/
import Derived.Test.YtkcmghlhpbepcaaGreatDoorN83
import Derived.Test.YtkcmghlhpbepcaaGreatDoorN85
import Derived.Lib.SliceRun
import Derived.Lib.Walk
import Derived.Test.YtkcmghlhpbepcaaGreatDoorN814
set_option linter.unusedVariables false
set_option linter.unusedSimpArgs false

/- slices.Clone of attributes, given to the printed walk. -/
namespace Go.Proofs.YtkcmghlhpbepcaaGreatDoorH.W7
open Go.RowKit Go.Proofs.YtkcmghlhpbepcaaGreatDoorW.PrintWords Go.Proofs.YtkcmghlhpbepcaaGreatDoorW.PrintLast Go.Proofs.YtkcmghlhpbepcaaGreatDoorW.PrintMore
def api_Attr.f (l0 : List S36) : Option (List S36) := if l0.length * 32 ≤ 140737488355328 then some l0 else none
set_option maxHeartbeats 2000000 in
set_option maxRecDepth 100000 in
theorem api_Attr.calls (A0 : Option Addr) (c0 : Nat) (l0 : List S36) (r : List S36) (w : World) (hr0 : Kd.C k36 w A0 l0.length l0) (hc0 : l0.length ≤ c0) (h : api_Attr.f l0 = some r) :
 Calls Tryz.prog 132 #[.slice A0 l0.length c0] w fun e w' => ∃ v0_ : Value, e = .returned (v0_) ∧ Kd.R k36 36 w' w.heap.size (fun _ => True) v0_ r ∧ Below w.heap.size w w' := by
 unfold api_Attr.f at h
 split at h
 ·rename_i hz
  obtain rfl := Option.some.inj h
  clear h
  have HR0 := Aside0.mk hr0
  have HC0 := Aside0.mk hc0
  clear hr0 hc0
  have HB := Aside0.mk (Below.refl w.heap.size w)
  have hu := Tryz.underlying32
  have q22 : ∀ (w : World) (a : Option Addr) (n c n' c' : Nat), (binOp .eql 32 (.slice a n c) (.slice none n' c')).run Tryz.prog w = .ok (.bool a.isNone) w := fun w a n c n' c' => Lib.run_eql_slice_nil w _ _ a n c n' c' hu
  cases A0 with
  | none =>
    have hnil : l0 = [] := by
     cases l0 with
     | nil => rfl
     | cons x xs => obtain ⟨ad, e, _⟩ := HR0.out.2.2 (by simp); cases e
    subst hnil
    go_enter Tryz.func132, Tryz.ntmps132
    go_wp2
    go_ret
    exact ⟨_, rfl, Kd.R_nil _ _ _ _ _, HB.out⟩
  | some ad =>
    go_enter Tryz.func132, Tryz.ntmps132
    go_wp2_with (first | ((with_reducible refine gate_dst (N := 5) rfl ?_); refine Kd.R_lit k36 _ 36 ?hg (N := 5) ?hd (xs := ([] : List (S36))) (inner := []) (ok := fun _ => True) (okp := fun _ => True) ?hr ?hp (fun _ hk => hk) trivial (Below.refl _ _) (Nat.le_refl _) (by simp) ?_; (case hd => rfl); (case hg => rfl); (case hr => first | (go_simp; done) | (go_simp; rfl)); (case hp => exact (Reps.none _ _)); intro v5 w5 ho5 hb5 hg_ hnew_; clear hg_ hnew_; have HO5 := Aside0.mk ho5; have HB5 := Aside0.mk hb5; clear ho5 hb5) | ((with_reducible refine gate_builtin (b := .append) (xs := #[.tmp 5, .tmp 6]) rfl ?_); at_builtin; refine Kd.R_append_rows k36 (w0 := w) w.heap.size rfl (.tmp 5) (.tmp 6) 32 36 (.agg #[(.string ⟨#[]⟩), (.string ⟨#[]⟩)]) 32 rfl Tryz.underlying32 info36 rfl (by decide) (by omega) v5 [] l0 _ _ _ (fun _ => True) (fun _ => False) rfl rfl HO5.out (Kd.C_below HR0.out HB5.out) (fun _ _ h => h) (fun _ h => h.elim) (fun _ _ => trivial) HB5.out HB5.out.size (by simpa using hz) ?_; intro v7 w7 ho7 hb7 hg_ hat_))
    go_ret
    exact ⟨_, rfl, by simpa using ho7, hb7⟩
 ·cases h
end Go.Proofs.YtkcmghlhpbepcaaGreatDoorH.W7

/- Words and walks used below. -/
namespace Go.Proofs.YtkcmghlhpbepcaaGreatDoorH.W7
open Go.RowKit Go.Proofs.YtkcmghlhpbepcaaGreatDoorW.PrintWords Go.Proofs.YtkcmghlhpbepcaaGreatDoorW.PrintLast Go.Proofs.YtkcmghlhpbepcaaGreatDoorW.PrintMore
attribute [local go_sem] max2_int min2_int max_two min_two max_three min_three max_four min_four   -- for this text's walks alone
def rows_moved.l0 : Nat → Int → List (S34) → List (S34) → Int → Int → Option ((List (S34)))
 | 0, _, _, _, _, _ => none
 | k + 1, x1, x5, x8, x9, x10 => if x10 < x9 then (if 0 ≤ x10 then (if x10 < (x8.length : Int) then ((api_Attr.f ((rd_T34 x8 x10).f4)).bind fun t115 => (if x5.length < 1954687338268 then (rows_moved.l0 k x1 (x5 ++ [(⟨wrap64 (((rd_T34 x8 x10).f0) + x1), (rd_T34 x8 x10).f1, (rd_T34 x8 x10).f2, (rd_T34 x8 x10).f3, t115⟩ : S34)]) x8 x9 (wrap64 (x10 + 1))) else (none))) else (none)) else (none)) else (some x5)
def rows_moved.f (k : Nat) (l0 : List (S34)) (a1 : Int) : Option ((List (S34))) := rows_moved.l0 k a1 ([] : List (S34)) l0 (l0.length : Int) 0
set_option maxHeartbeats 8000000 in
set_option maxRecDepth 100000 in
theorem rows_moved.calls (k : Nat) (A0 : Option Addr) (c0 : Nat) (l0 : List (S34)) (a1 : Int) (r : List (S34)) (w : World) (hr0 : Kd.C k34 w A0 l0.length l0) (hc0 : l0.length ≤ c0) (h : rows_moved.f k l0 a1 = some r) :
 Calls Tryz.prog 89 #[.slice A0 l0.length c0, .int .i64 a1] w fun e w' => ∃ v0_ : Value, e = .returned (v0_) ∧ Kd.R k34 34 w' w.heap.size (fun _ => True) v0_ r ∧ Below w.heap.size w w' := by
 have hu34 := Tryz.underlying34
 have HR0 := Aside0.mk hr0
 have HC0 := Aside0.mk hc0
 clear hr0 hc0
 have HB := Aside0.mk (Below.refl w.heap.size w)
 have H : (rows_moved.l0 k a1 ([] : List (S34)) l0 (l0.length : Int) 0) = some r := h
 clear h
 have H' := Aside0.mk H
 clear H
 go_enter Tryz.func89, Tryz.ntmps89
 go_wp2
 go_loopg [5, 10] k (fun kq v5 v10 w' => ∃ (x5_1 : List (S34)) (x10_1 : Int), v10 = .int .i64 x10_1 ∧ Aside0 (rows_moved.l0 kq a1 x5_1 l0 (l0.length : Int) x10_1 = some r) ∧ Aside0 (kq ≤ k) ∧ Aside0 (Kd.R k34 34 w' w.heap.size (fun _ => True) v5 x5_1) ∧ Aside0 (Below w.heap.size w w'))
 case atStart => exact ⟨(([] : List (S34))), (0), (by first | rfl | (simp; done) | (simp [*]; done) | (simp; generalize ByteArray.toList _ = l_; cases l_ <;> rfl)), H', ⟨Nat.le_refl _⟩, ⟨by first | exact Kd.R_nil _ _ _ _ _ | exact Kd.N_nil _ _ _ _ _ | exact Kd.V_nil _ _ _ _ _ | exact Kd.Q_nil _ _ _ _ _ | exact Kd.S_nil _ _ _ _ _⟩, ⟨bz⟩⟩
 case round =>
  clear H'
  try clear p2
  obtain ⟨x5_1, x10_1, rfl, HA, HK1, HO_5, HB⟩ := hrel
  cases gk with
  | zero => exact absurd HA.out (by simp [rows_moved.l0])
  | succ k1 =>
    have H := HA.out
    clear HA
    simp only [rows_moved.l0] at H
    by_cases c3 : x10_1 < (l0.length : Int)
    ·rw [if_pos c3] at H
     have c3b0 : decide (x10_1 < (l0.length : Int)) = true := decide_eq_true c3
     clear c3
     by_cases c4 : 0 ≤ x10_1
     ·rw [if_pos c4] at H
      have c4b0 : decide (0 ≤ x10_1) = true := decide_eq_true c4
      clear c4
      by_cases c5 : x10_1 < (l0.length : Int)
      ·rw [if_pos c5] at H
       have c5b0 : decide (x10_1 < (l0.length : Int)) = true := decide_eq_true c5
       clear c5
       replace H := Option.bind_eq_some_iff.mp H
       obtain ⟨t115, A60, H⟩ := H
       replace H : (if x5_1.length < 1954687338268 then (rows_moved.l0 k1 a1 (x5_1 ++ [(⟨wrap64 (((rd_T34 l0 x10_1).f0) + a1), (rd_T34 l0 x10_1).f1, (rd_T34 l0 x10_1).f2, (rd_T34 l0 x10_1).f3, t115⟩ : S34)]) l0 (l0.length : Int) (wrap64 (x10_1 + 1))) else (none)) = some r := H
       have A6 := Aside0.mk A60
       clear A60
       by_cases c7 : x5_1.length < 1954687338268
       ·rw [if_pos c7] at H
        have LMc7 := Aside0.mk c7
        clear c7
        obtain ⟨y118, hy118⟩ : ∃ y_ : List (S34), y_ = (x5_1 ++ [(⟨wrap64 (((rd_T34 l0 x10_1).f0) + a1), (rd_T34 l0 x10_1).f1, (rd_T34 l0 x10_1).f2, (rd_T34 l0 x10_1).f3, t115⟩ : S34)]) := ⟨_, rfl⟩
        replace H : (rows_moved.l0 k1 a1 y118 l0 (l0.length : Int) (wrap64 (x10_1 + 1))) = some r := by first | (rw [hy118]; with_reducible exact H) | (have H2_ := (Option.bind_some _ _).symm.trans H; rw [hy118]; with_reducible exact H2_) | (have H2_ := (Option.bind_some _ _).symm.trans H; with_reducible exact H2_) | with_reducible exact H | (rw [hy118]; exact H) | exact H
        have Ny118 := Aside0.mk hy118
        clear hy118
        have H' := Aside0.mk H
        clear H
        have p113 : 0 ≤ (x10_1 : Int) := (by first | exact of_decide_eq_true (by first | (with_reducible assumption) | assumption) | assumption | omega)
        have q113 : x10_1 < (l0.length : Int) := (by first | exact of_decide_eq_true (by first | (with_reducible assumption) | assumption) | assumption | omega)
        obtain ⟨ad113, A113_4, c113_4, e113, hx113_0, hx113_1, hx113_2, hx113_3, hx113_4, hl113_4, hi113_4⟩ := at_T34 HR0.out x10_1 p113 q113
        cases e113
        replace hx113_0 := (HB.out.cell (World.block_lt_of_cell? w _ hx113_0)).trans hx113_0
        replace hx113_1 := (HB.out.cell (World.block_lt_of_cell? w _ hx113_1)).trans hx113_1
        replace hx113_2 := (HB.out.cell (World.block_lt_of_cell? w _ hx113_2)).trans hx113_2
        replace hx113_3 := (HB.out.cell (World.block_lt_of_cell? w _ hx113_3)).trans hx113_3
        replace hx113_4 := (HB.out.cell (World.block_lt_of_cell? w _ hx113_4)).trans hx113_4
        have HR113_4 := Aside0.mk hi113_4
        have HC113_4 := Aside0.mk hl113_4
        clear hi113_4 hl113_4
        replace p113 := eq_true p113
        replace q113 := eq_true q113
        go_wp2_with (first | ((with_reducible refine gate_dst (N := 7) rfl ?_); refine box_event ?hg (N := 7) ?hd (cs := #[.int .i64 0, .int .i64 0, .string (⟨#[]⟩ : ByteArray), .string (⟨#[]⟩ : ByteArray), .slice none 0 0]) (t := 34) ?hr ?_; (case hd => rfl); (case hg => rfl); (case hr => first | (go_simp; done) | (go_simp; rfl)); intro gb114 hg w8 hbox hb; have n0_ := Aside0.mk (Kd.R_below (Kd.R_elderB (rz HO_5.out) gb114 (Nat.le_of_eq hg.symm)) hb); have n1_ := Aside0.mk (below_step bz hb); have n2_ := Aside0.mk (hbox); have n3_ := Aside0.mk ((by rw [hg]; exact (below_size bz) : w.heap.size ≤ gb114)); have n4_ := Aside0.mk ((by rw [hg]; exact (below_size bz) : w.heap.size ≤ gb114)); clear HO_5; clear HB; have HO_5 := n0_; have HB := n1_; have BK114 := n2_; have GW114 := n3_; have GE114 := n4_; clear n0_ n1_ n2_ n3_ n4_; clear hb hbox hg; have hcz9_0 : w8.cell? ⟨gb114, 0, none⟩ = some (.int .i64 0) := (blk_cell BK114.out 0).trans rfl; have hcz9_1 : w8.cell? ⟨gb114, 1, none⟩ = some (.int .i64 0) := (blk_cell BK114.out 1).trans rfl; have hcz9_2 : w8.cell? ⟨gb114, 2, none⟩ = some (.string (⟨#[]⟩ : ByteArray)) := (blk_cell BK114.out 2).trans rfl; have hcz9_3 : w8.cell? ⟨gb114, 3, none⟩ = some (.string (⟨#[]⟩ : ByteArray)) := (blk_cell BK114.out 3).trans rfl; have hcz9_4 : w8.cell? ⟨gb114, 4, none⟩ = some (.slice none 0 0) := (blk_cell BK114.out 4).trans rfl; have hfz9_0 := blk_frozen BK114.out 0; have hfz9_1 := blk_frozen BK114.out 1; have hfz9_2 := blk_frozen BK114.out 2; have hfz9_3 := blk_frozen BK114.out 3; have hfz9_4 := blk_frozen BK114.out 4) | ((with_reducible refine gate_callee (f := 132) rfl ?_); refine goesL_ (some 21) rfl rfl Tryz.func132 (by kernel_rfl) rfl #[.slice A113_4 ((rd_T34 l0 x10_1).f4).length c113_4] rfl (by (try simp only [List.map_toArray, List.map_cons, List.map_nil]); first | done | rfl | (simp only [List.length_drop, List.length_take]; rfl)) ?_; (with_reducible refine (api_Attr.calls _ _ ((rd_T34 l0 x10_1).f4) t115 _ ?side1 ?side2 A6.out).mono ?_); (case side1 => exact Kd.C_below HR113_4.out (bs GE114.out)); (case side2 => exact HC113_4.out); rintro e w10 ⟨v116, rfl, ho0, hb⟩; refine ⟨_, rfl, ?_⟩; have n0_ := Aside0.mk (Kd.R_elder' (by (with_reducible repeat (first | apply Kd.R_alloc | apply Kd.R_drewN | apply Kd.R_drew)); exact (Kd.R_mono (Kd.R_far (p := ⟨gb114, 0, none⟩) (Kd.R_far (p := ⟨gb114, 4, none⟩) (Kd.R_far (p := ⟨gb114, 3, none⟩) (Kd.R_far (p := ⟨gb114, 2, none⟩) (Kd.R_far (p := ⟨gb114, 1, none⟩) (Kd.R_far (p := ⟨gb114, 0, none⟩) (Kd.R_mono HO_5.out (fun k_ hk => (⟨hk, hk.2⟩ : _ ∧ k_ ≠ gb114))) (fun _ hk => hk.2) (.int .i64 ((rd_T34 l0 x10_1).f0))) (fun _ hk => hk.2) (.int .i64 ((rd_T34 l0 x10_1).f1))) (fun _ hk => hk.2) (.string ((rd_T34 l0 x10_1).f2))) (fun _ hk => hk.2) (.string ((rd_T34 l0 x10_1).f3))) (fun _ hk => hk.2) (.slice A113_4 ((rd_T34 l0 x10_1).f4).length c113_4)) (fun _ hk => hk.2) (.int .i64 (wrap64 (((rd_T34 l0 x10_1).f0) + a1)))) (fun _ h_ => h_.1))) (Kd.R_base ho0) hb); have n1_ := Aside0.mk (Kd.R_lower ho0 (below_size (bs GE114.out))); have n2_ := Aside0.mk (blk_below (g := gb114) (o := .cells #[.int .i64 (wrap64 (((rd_T34 l0 x10_1).f0) + a1)), .int .i64 ((rd_T34 l0 x10_1).f1), .string ((rd_T34 l0 x10_1).f2), .string ((rd_T34 l0 x10_1).f3), .slice A113_4 ((rd_T34 l0 x10_1).f4).length c113_4] 34 (0, 0)) (by (with_reducible repeat (first | refine blk_drewN ?_ _ | refine blk_drew ?_ | refine blk_alloc ?_ _)); refine blk_put (cs := #[.int .i64 ((rd_T34 l0 x10_1).f0), .int .i64 ((rd_T34 l0 x10_1).f1), .string ((rd_T34 l0 x10_1).f2), .string ((rd_T34 l0 x10_1).f3), .slice A113_4 ((rd_T34 l0 x10_1).f4).length c113_4]) ?_ 0 _ rfl; (with_reducible repeat (first | refine blk_drewN ?_ _ | refine blk_drew ?_ | refine blk_alloc ?_ _)); refine blk_put (cs := #[.int .i64 ((rd_T34 l0 x10_1).f0), .int .i64 ((rd_T34 l0 x10_1).f1), .string ((rd_T34 l0 x10_1).f2), .string ((rd_T34 l0 x10_1).f3), .slice none 0 0]) ?_ 4 _ rfl; (with_reducible repeat (first | refine blk_drewN ?_ _ | refine blk_drew ?_ | refine blk_alloc ?_ _)); refine blk_put (cs := #[.int .i64 ((rd_T34 l0 x10_1).f0), .int .i64 ((rd_T34 l0 x10_1).f1), .string ((rd_T34 l0 x10_1).f2), .string (⟨#[]⟩ : ByteArray), .slice none 0 0]) ?_ 3 _ rfl; (with_reducible repeat (first | refine blk_drewN ?_ _ | refine blk_drew ?_ | refine blk_alloc ?_ _)); refine blk_put (cs := #[.int .i64 ((rd_T34 l0 x10_1).f0), .int .i64 ((rd_T34 l0 x10_1).f1), .string (⟨#[]⟩ : ByteArray), .string (⟨#[]⟩ : ByteArray), .slice none 0 0]) ?_ 2 _ rfl; (with_reducible repeat (first | refine blk_drewN ?_ _ | refine blk_drew ?_ | refine blk_alloc ?_ _)); refine blk_put (cs := #[.int .i64 ((rd_T34 l0 x10_1).f0), .int .i64 0, .string (⟨#[]⟩ : ByteArray), .string (⟨#[]⟩ : ByteArray), .slice none 0 0]) ?_ 1 _ rfl; (with_reducible repeat (first | refine blk_drewN ?_ _ | refine blk_drew ?_ | refine blk_alloc ?_ _)); refine blk_put (cs := #[.int .i64 0, .int .i64 0, .string (⟨#[]⟩ : ByteArray), .string (⟨#[]⟩ : ByteArray), .slice none 0 0]) ?_ 0 _ rfl; (with_reducible repeat (first | refine blk_drewN ?_ _ | refine blk_drew ?_ | refine blk_alloc ?_ _)); exact BK114.out) hb); have n3_ := Aside0.mk (below_step (bs GE114.out) hb); clear HO_5; clear BK114; clear HB; have HO_5 := n0_; have HO117 := n1_; have BK114 := n2_; have HB := n3_; clear n0_ n1_ n2_ n3_; (try clear hb); (try clear hb2); (try clear hk); (try clear hi); (try clear ho0); obtain ⟨Ao11, co11, eo11⟩ := Kd.R_slice HO117.out; subst eo11; have hcz12_0 : w10.cell? ⟨gb114, 0, none⟩ = some (.int .i64 (wrap64 (((rd_T34 l0 x10_1).f0) + a1))) := (blk_cell BK114.out 0).trans rfl; have hcz12_1 : w10.cell? ⟨gb114, 1, none⟩ = some (.int .i64 ((rd_T34 l0 x10_1).f1)) := (blk_cell BK114.out 1).trans rfl; have hcz12_2 : w10.cell? ⟨gb114, 2, none⟩ = some (.string ((rd_T34 l0 x10_1).f2)) := (blk_cell BK114.out 2).trans rfl; have hcz12_3 : w10.cell? ⟨gb114, 3, none⟩ = some (.string ((rd_T34 l0 x10_1).f3)) := (blk_cell BK114.out 3).trans rfl; have hcz12_4 : w10.cell? ⟨gb114, 4, none⟩ = some (.slice A113_4 ((rd_T34 l0 x10_1).f4).length c113_4) := (blk_cell BK114.out 4).trans rfl; have hfz12_0 := blk_frozen BK114.out 0; have hfz12_1 := blk_frozen BK114.out 1; have hfz12_2 := blk_frozen BK114.out 2; have hfz12_3 := blk_frozen BK114.out 3; have hfz12_4 := blk_frozen BK114.out 4) | ((with_reducible refine gate_store (t := 32) (p := 22) rfl ?_); refine store_event (t := 32) (p := 22) (v := ?vo_w13) (w1 := (w10.setCell ⟨gb114, 4, none⟩ (.slice Ao11 t115.length co11))) ?hg ?ho ?hn ?hr ?_; (case ho => rfl); (case hg => rfl); (case hn => rfl); (case hr => first | (go_simp; done) | (go_simp; rfl)); intro w13 hw; have n0_ : Aside0 (Kd.R k34 34 w13 w.heap.size (fun k_ => some k_ ≠ (.slice Ao11 t115.length co11 : Value).ownBlock ∧ k_ ≠ gb114) u5 x5_1) := ⟨(by rw [hw]; exact (by (with_reducible repeat (first | apply Kd.R_alloc | apply Kd.R_drewN | apply Kd.R_drew)); exact Kd.R_mono (Kd.R_far (p := ⟨gb114, 4, none⟩) (Kd.R_mono HO_5.out (fun k_ hk => (⟨hk, hk.1.2⟩ : _ ∧ k_ ≠ gb114))) (fun _ hk => hk.2) (.slice Ao11 t115.length co11)) (fun _ hk => ⟨hk.1.2, hk.1.1.2⟩)))⟩; have n1_ : Aside0 (Kd.R k36 36 w13 w.heap.size (fun _ => True) (.slice Ao11 t115.length co11) t115) := ⟨(by rw [hw]; exact (by (with_reducible repeat (first | apply Kd.R_alloc | apply Kd.R_drewN | apply Kd.R_drew)); exact Kd.R_mono (Kd.R_far (p := ⟨gb114, 4, none⟩) (Kd.R_types HO117.out BK114.out (by decide)) (fun _ hk => hk.2) (.slice Ao11 t115.length co11)) (fun _ hk => trivial)))⟩; have n2_ : Aside0 (w13.heap[gb114]? = some (.cells #[.int .i64 (wrap64 (((rd_T34 l0 x10_1).f0) + a1)), .int .i64 ((rd_T34 l0 x10_1).f1), .string ((rd_T34 l0 x10_1).f2), .string ((rd_T34 l0 x10_1).f3), .slice Ao11 t115.length co11] 34 (0, 0))) := ⟨(by rw [hw]; exact (by (with_reducible repeat (first | refine blk_drewN ?_ _ | refine blk_drew ?_ | refine blk_alloc ?_ _)); refine blk_put (cs := #[.int .i64 (wrap64 (((rd_T34 l0 x10_1).f0) + a1)), .int .i64 ((rd_T34 l0 x10_1).f1), .string ((rd_T34 l0 x10_1).f2), .string ((rd_T34 l0 x10_1).f3), .slice A113_4 ((rd_T34 l0 x10_1).f4).length c113_4]) ?_ 4 _ rfl; (with_reducible repeat (first | refine blk_drewN ?_ _ | refine blk_drew ?_ | refine blk_alloc ?_ _)); exact BK114.out))⟩; have n3_ : Aside0 (Below w.heap.size w w13) := ⟨(by rw [hw]; exact (bs GE114.out))⟩; clear hw; clear HO_5; clear HO117; clear BK114; clear HB; have HO_5 := n0_; have HO117 := n1_; have BK114 := n2_; have HB := n3_; clear n0_ n1_ n2_ n3_; have hcz14_0 : w13.cell? ⟨gb114, 0, none⟩ = some (.int .i64 (wrap64 (((rd_T34 l0 x10_1).f0) + a1))) := (blk_cell BK114.out 0).trans rfl; have hcz14_1 : w13.cell? ⟨gb114, 1, none⟩ = some (.int .i64 ((rd_T34 l0 x10_1).f1)) := (blk_cell BK114.out 1).trans rfl; have hcz14_2 : w13.cell? ⟨gb114, 2, none⟩ = some (.string ((rd_T34 l0 x10_1).f2)) := (blk_cell BK114.out 2).trans rfl; have hcz14_3 : w13.cell? ⟨gb114, 3, none⟩ = some (.string ((rd_T34 l0 x10_1).f3)) := (blk_cell BK114.out 3).trans rfl; have hcz14_4 : w13.cell? ⟨gb114, 4, none⟩ = some (.slice Ao11 t115.length co11) := (blk_cell BK114.out 4).trans rfl; have hfz14_0 := blk_frozen BK114.out 0; have hfz14_1 := blk_frozen BK114.out 1; have hfz14_2 := blk_frozen BK114.out 2; have hfz14_3 := blk_frozen BK114.out 3; have hfz14_4 := blk_frozen BK114.out 4) | ((with_reducible refine gate_builtin (b := .append) (xs := #[.tmp 23, .tmp 25]) rfl ?_); at_builtin; refine Kd.R_append k34 (w0 := w) w.heap.size rfl (.tmp 23) (.tmp 25) 22 34 (.agg #[(.int .i64 0), (.int .i64 0), (.string ⟨#[]⟩), (.string ⟨#[]⟩), (.slice none 0 0)]) 72 rfl Tryz.underlying22 info34 rfl (by decide) (by omega) u5 x5_1 (⟨wrap64 (((rd_T34 l0 x10_1).f0) + a1), (rd_T34 l0 x10_1).f1, (rd_T34 l0 x10_1).f2, (rd_T34 l0 x10_1).f3, t115⟩ : S34) [.int .i64 (wrap64 (((rd_T34 l0 x10_1).f0) + a1)), .int .i64 ((rd_T34 l0 x10_1).f1), .string ((rd_T34 l0 x10_1).f2), .string ((rd_T34 l0 x10_1).f3), .slice Ao11 t115.length co11] (fun k_ => k_ ≠ gb114) (fun k_ => ((fun k_ => k_ ≠ gb114)) k_ ∧ some k_ ≠ (u5 : Value).ownBlock) rfl rfl ?aP (fun _ hk => hk) ?aF ?aO ?aB ?aS ?aL ?_; (case aP => exact k34_mkM _ _ _ (⟨wrap64 (((rd_T34 l0 x10_1).f0) + a1), (rd_T34 l0 x10_1).f1, (rd_T34 l0 x10_1).f2, (rd_T34 l0 x10_1).f3, t115⟩ : S34) (Kd.R_mono (Kd.R_types (Kd.R_apart' (HO117.out) (Kd.R_typed HO_5.out) (by decide)) BK114.out (by decide)) (fun k_ hk => ⟨hk.2, hk.1.2⟩))); (case aB => exact (bs GE114.out)); (case aF => exact (fun k_ hk => Kd.freshB (g := gb114) (o := .cells #[.int .i64 (wrap64 (((rd_T34 l0 x10_1).f0) + a1)), .int .i64 ((rd_T34 l0 x10_1).f1), .string ((rd_T34 l0 x10_1).f2), .string ((rd_T34 l0 x10_1).f3), .slice Ao11 t115.length co11] 34 (0, 0)) (kz BK114.out) k_ hk)); (case aO => exact (by (with_reducible repeat (first | apply Kd.R_alloc | apply Kd.R_drewN | apply Kd.R_drew)); exact Kd.R_mono HO_5.out (fun _ hk => hk.2))); (case aS => exact (below_size (bs GE114.out))); (case aL => have := LMc7.out; omega); intro v119 w15 ho hb hg hat; rw [← Ny118.out] at ho; have n0_ := Aside0.mk (blk_grown (g := gb114) (o := .cells #[.int .i64 (wrap64 (((rd_T34 l0 x10_1).f0) + a1)), .int .i64 ((rd_T34 l0 x10_1).f1), .string ((rd_T34 l0 x10_1).f2), .string ((rd_T34 l0 x10_1).f3), .slice Ao11 t115.length co11] 34 (0, 0)) (kz BK114.out) hg (Kd.R_away HO_5.out (fun _ hk => hk.2))); have n1_ := Aside0.mk (hb); have n2_ := Aside0.mk (ho); clear BK114; clear HB; clear HO_5; clear HO117; have BK114 := n0_; have HB := n1_; have HO120 := n2_; clear n0_ n1_ n2_; clear ho hb hg hat))
        go_roundg k1
        case measure => have := HK1.out; omega
        case rel => exact ⟨(y118), (wrap64 (x10_1 + 1)), (by first | rfl | (simp; done) | (simp [*]; done) | (simp; generalize ByteArray.toList _ = l_; cases l_ <;> rfl)), H', ⟨by have := HK1.out; omega⟩, ⟨by (with_reducible repeat (first | apply Kd.R_alloc | apply Kd.R_drewN | apply Kd.R_drew)); exact Kd.R_mono HO120.out (fun _ hk => trivial)⟩, ⟨bs GE114.out⟩⟩
       ·rw [if_neg c7] at H
        exact absurd H (by simp)
      ·rw [if_neg c5] at H
       exact absurd H (by simp)
     ·rw [if_neg c4] at H
      exact absurd H (by simp)
    ·rw [if_neg c3] at H
     have c3b0 : decide (x10_1 < (l0.length : Int)) = false := decide_eq_false c3
     clear c3
     obtain rfl := Option.some.inj H
     go_wp2
     go_ret
     exact ⟨_, by first | rfl | (simp [errW_none, errW_some] <;> rfl) | (simp [*, errW_none, errW_some] <;> rfl), by (with_reducible repeat (first | apply Kd.R_alloc | apply Kd.R_drewN | apply Kd.R_drew)); exact HO_5.out, bz⟩
end Go.Proofs.YtkcmghlhpbepcaaGreatDoorH.W7

/- Contract of rows.Normal: texts side by side are one. Nothing that lay in memory turns. -/
namespace Go.Proofs.YtkcmghlhpbepcaaGreatDoorH.W7
open Go.RowKit Go.Proofs Go.Proofs.YtkcmghlhpbepcaaGreatDoor Go.Proofs.YtkcmghlhpbepcaaGreatDoorW.PrintWords
def normStep (outs : List Rw) (x : Rw) : Option (List Rw) :=
 if x.f1 = 1 ∧ x.f3.data.toList = [] then some outs
 else if x.f1 = 1 ∧ 0 < outs.length ∧ (rd_T34 outs ((outs.length : Int) - 1)).f1 = 1 ∧ (rd_T34 outs ((outs.length : Int) - 1)).f0 = x.f0 then
  if (rd_T34 outs ((outs.length : Int) - 1)).f3.size + x.f3.size ≤ 9223372036854775807 then
   some (outs.set (outs.length - 1) ⟨(rd_T34 outs ((outs.length : Int) - 1)).f0, (rd_T34 outs ((outs.length : Int) - 1)).f1, (rd_T34 outs ((outs.length : Int) - 1)).f2, (rd_T34 outs ((outs.length : Int) - 1)).f3 ++ x.f3, (rd_T34 outs ((outs.length : Int) - 1)).f4⟩)
  else none
 else if outs.length < 1000000000000 then some (outs ++ [x]) else none
def normAll : List Rw → List Rw → Option (List Rw)
 | outs, [] => some outs
 | outs, x :: xs => (normStep outs x).bind fun o => normAll o xs
def rows_Normal.f (l0 : List Rw) : Option (List Rw) := (rows_moved.f (l0.length + 1) l0 0).bind fun ms => normAll [] ms
theorem drew_alloc (w : World) (o : Obj) : (w.alloc o).drew = w.drew.alloc o := rfl
theorem own_hop {v v1 : Value} {n m : Nat} (h : ∀ k, v.ownBlock = some k → n ≤ k) (hat : v1.ownBlock = v.ownBlock ∨ ∃ b, v1.ownBlock = some b ∧ m ≤ b) (hm : n ≤ m) : ∀ k, v1.ownBlock = some k → n ≤ k := by
 intro k hk
 rcases hat with e | ⟨b, e, hb⟩
 ·exact h k (e ▸ hk)
 ·rw [e] at hk
  cases hk
  omega
set_option maxHeartbeats 2000000 in
set_option maxRecDepth 100000 in
theorem rows_Normal.calls (A : Option Addr) (c : Nat) (xs : List Rw) (res : List Rw) (w : World) (hr : k34.C w A xs.length xs) (hcap : xs.length ≤ c) (h : rows_Normal.f xs = some res) :
 Calls Tryz.prog 41 #[.slice A xs.length c] w fun e w' => ∃ v0_ : Value, e = .returned (v0_) ∧ Kd.R k34 34 w' w.heap.size (fun _ => True) v0_ res ∧ Below w.heap.size w w' := by
 unfold rows_Normal.f at h
 obtain ⟨ms, hms, h⟩ := Option.bind_eq_some_iff.1 h
 have hmv := Lib.hid (rows_moved.calls (xs.length + 1) A c xs 0 ms w hr hcap hms)
 clear hms
 replace h := Lib.hid h
 go_enter Tryz.func41, Tryz.ntmps41
 go_wp2_with (go_at_call 89; ((with_reducible refine hmv.out.mono ?_); rintro e w1 ⟨vm, rfl, hm, hb1⟩; obtain ⟨A1, c1, rfl⟩ := Kd.R_slice hm))
 have hml := (Kd.R_reads' hm).2.2.2.1
 go_loopw [3, 10] (fun vo vi wr => ∃ (i : Nat) (outs : List Rw), vi = .int .i64 i ∧ i ≤ ms.length ∧ Hid (normAll outs (ms.drop i) = some res) ∧ Kd.R k34 34 wr w.heap.size (fun _ => True) vo outs ∧ Below w1.heap.size w1 wr ∧ Hid (∀ k, vo.ownBlock = some k → w1.heap.size ≤ k)) (fun _ vi _ => ms.length - (intOf vi).toNat)
 case atStart => exact ⟨0, [], rfl, Nat.zero_le _, h.out, Kd.R_nil _ _ _ _ _, Below.refl _ _, fun k hk => by simp [Value.ownBlock] at hk⟩
 case round =>
  obtain ⟨i, outs, rfl, hi, hrest, hO, hB, hown⟩ := hrel
  obtain ⟨A2, c2, rfl⟩ := Kd.R_slice hO
  have hol := (Kd.R_reads' hO).2.2.2.1
  have hbw := hb1.size
  have hbz := hB.size
  by_cases hlt : i < ms.length
  ·obtain ⟨gm, capm, hv, -, -, -⟩ := Kd.R_form hm (by omega)
   simp only [Value.slice.injEq, true_and] at hv
   obtain ⟨rfl, rfl⟩ := hv
   obtain ⟨cs, hcl, hM, hcell, hfz⟩ := Kd.R_elem hm (⟨0, 0, ⟨#[]⟩, ⟨#[]⟩, []⟩ : Rw) i (by omega) (by omega)
   have hgd : ms.getD (i : Int).toNat (⟨0, 0, ⟨#[]⟩, ⟨#[]⟩, []⟩ : Rw) = ms[i] := by simp [hlt]
   rw [hgd] at hM
   have hrest2 := hrest.out
   rw [List.drop_eq_getElem_cons hlt] at hrest2
   simp only [normAll] at hrest2
   obtain ⟨o2, hst, hre⟩ := Option.bind_eq_some_iff.1 hrest2
   clear hrest hgd hfz hrest2
   generalize ms[i] = x at *
   obtain ⟨v4, rfl, hv4⟩ := k34_openM hM
   obtain ⟨A4, c4, rfl⟩ := Kd.R_slice hv4
   have z0 := cell_keep (hcell 0 _ rfl) hB
   have z1 := cell_keep (hcell 1 _ rfl) hB
   have z2 := cell_keep (hcell 2 _ rfl) hB
   have z3 := cell_keep (hcell 3 _ rfl) hB
   have z4 := cell_keep (hcell 4 _ rfl) hB
   change wr.cell? ⟨gm, i * 5, none⟩ = _ at z0
   change wr.cell? ⟨gm, i * 5 + 1, none⟩ = _ at z1
   change wr.cell? ⟨gm, i * 5 + 2, none⟩ = _ at z2
   change wr.cell? ⟨gm, i * 5 + 3, none⟩ = _ at z3
   change wr.cell? ⟨gm, i * 5 + 4, none⟩ = _ at z4
   have hrest3 := Lib.hid hre
   clear hcell hcl hre
   obtain ⟨xd, xk, xn, xt, xa⟩ := x
   simp only at z0 z1 z2 z3 z4
   have hnt := new_cells wr #[.int .i64 xd, .int .i64 xk, .string xn, .string xt, .slice A4 xa.length c4] 34
   obtain ⟨⟨p0, p1, p2, p3, p4⟩, p5⟩ := five_facts hnt
   have hBA := hB.alloc hbz (.cells #[.int .i64 xd, .int .i64 xk, .string xn, .string xt, .slice A4 xa.length c4] 34)
   have hOA := Kd.R_alloc hO (.cells #[.int .i64 xd, .int .i64 xk, .string xn, .string xt, .slice A4 xa.length c4] 34)
   have hsA : w.heap.size ≤ (wr.alloc (.cells #[.int .i64 xd, .int .i64 xk, .string xn, .string xt, .slice A4 xa.length c4] 34)).heap.size := by rw [World.size_alloc]; omega
   have hsB : w1.heap.size ≤ (wr.alloc (.cells #[.int .i64 xd, .int .i64 xk, .string xn, .string xt, .slice A4 xa.length c4] 34)).heap.size := by rw [World.size_alloc]; omega
   have hMp := Kd.M_mono k34 (ok' := fun k => k < w1.heap.size) (fun k hk => hk.2.2.1) (Kd.M_bound k34 hM)
   have hsz1 : (wr.alloc (.cells #[.int .i64 xd, .int .i64 xk, .string xn, .string xt, .slice A4 xa.length c4] 34)).heap.size = wr.heap.size + 1 := World.size_alloc _ _
   unfold normStep at hst
   by_cases hA : xk = 1 ∧ xt.data.toList = []
   ·rw [if_pos hA] at hst
    obtain rfl := Option.some.inj hst
    obtain ⟨rfl, hxt⟩ := hA
    obtain rfl : xt = ⟨#[]⟩ := by
     obtain ⟨d⟩ := xt
     simpa using hxt
    clear hst
    go_wp2
    exact ⟨⟨i + 1, outs, rfl, by omega, hrest3, hOA, hBA, hown⟩, by simp [intOf]; omega⟩
   ·rw [if_neg hA] at hst
    have hne : xk = 1 → ¬ xt.data.toList = [] := fun e1 e2 => hA ⟨e1, e2⟩
    clear hA
    have hne1 : xk = 1 → (xt.toList == []) = false := fun e1 => by rw [beq_eq_false_iff_ne, Lib.toList_data]; exact hne e1
    by_cases hk1 : xk = 1
    ·have hx1 := hne1 hk1
     have hx2 : ¬ xt.toList = [] := by rw [Lib.toList_data]; exact hne hk1
     subst hk1
     by_cases hn0 : 0 < outs.length
     ·obtain ⟨go, capo, hv, -, -, -⟩ := Kd.R_form hO hn0
      simp only [Value.slice.injEq, true_and] at hv
      obtain ⟨rfl, rfl⟩ := hv
      obtain ⟨m, hm1⟩ : ∃ m, outs.length = m + 1 := ⟨outs.length - 1, by omega⟩
      obtain ⟨cs, hcl, hMo, hcello, hfzo⟩ := Kd.R_elem hOA (⟨0, 0, ⟨#[]⟩, ⟨#[]⟩, []⟩ : Rw) (m : Int) (by omega) (by omega)
      have hgd : outs.getD (m : Int).toNat (⟨0, 0, ⟨#[]⟩, ⟨#[]⟩, []⟩ : Rw) = outs[m] := by simp [show m < outs.length by omega]
      have hrd : rd_T34 outs ((outs.length : Int) - 1) = outs[m] := by
       rw [show (outs.length : Int) - 1 = (m : Int) from by omega]
       simp [rd_T34, show m < outs.length by omega]
      rw [hgd] at hMo
      rw [hrd, show outs.length - 1 = m from by omega] at hst
      generalize outs[m] = y at *
      obtain ⟨w4, rfl, hw4⟩ := k34_openM hMo
      have y0 := hcello 0 _ rfl
      have y1 := hcello 1 _ rfl
      have y3 := hcello 3 _ rfl
      have f3 := hfzo 3
      change World.cell? _ ⟨go, m * 5, none⟩ = _ at y0
      change World.cell? _ ⟨go, m * 5 + 1, none⟩ = _ at y1
      change World.cell? _ ⟨go, m * 5 + 3, none⟩ = _ at y3
      change World.frozen? _ ⟨go, m * 5 + 3, none⟩ = _ at f3
      obtain ⟨yd, yk, yn, yt, ya⟩ := y
      simp only at y0 y1 y3
      by_cases hB1 : yk = 1 ∧ yd = xd
      ·rw [if_pos ⟨rfl, hn0, hB1⟩] at hst
       obtain ⟨rfl, rfl⟩ := hB1
       have hcx : ¬ xt = ⟨#[]⟩ := fun e => hx2 (by rw [Lib.toList_data, e])
       clear hne hne1
       rw [hm1]
       go_wp2
       first
        | go_region
        | skip
       by_cases hsz : yt.size + xt.size ≤ 9223372036854775807
       ·rw [if_pos hsz] at hst
        obtain rfl := Option.some.inj hst
        have a1 : decide (yt.size + xt.size ≤ 9223372036854775807) = true := decide_eq_true hsz
        have a2 : (9223372036854775807 < yt.size + xt.size) = False := eq_false (by omega)
        clear hst
        go_wp2
        first
         | go_region
         | skip
        go_wp2
        have hge := hown.out go (by simp [Value.ownBlock])
        have hS := (Kd.R_seg hOA (m : Int) (by omega) (by omega) (c := [.int .i64 yd, .int .i64 1, .string yn, .string yt, w4]) (seg := [.string (yt ++ xt)]) (j := 3) hcl hcello (by show 3 + 1 ≤ 5; omega) (x' := (⟨yd, 1, yn, yt ++ xt, ya⟩ : Rw)) (okp := fun k => True ∧ k ≠ go) (k34_mkM _ _ _ (⟨yd, 1, yn, yt ++ xt, ya⟩ : Rw) hw4) (fun _ h => h)).1
        rw [hm1] at hS
        have hBS : Below w1.heap.size w1 _ := hBA.setCell (p := ⟨go, m * 5 + 3, none⟩) hge (.string (yt ++ xt))
        exact ⟨⟨i + 1, outs.set m (⟨yd, 1, yn, yt ++ xt, ya⟩ : Rw), rfl, by omega, hrest3, Kd.R_drew (Kd.R_drew hS), below_drew (below_drew hBS), Lib.hid (fun k hk => hown.out k (by simpa [Value.ownBlock] using hk))⟩, by simp [intOf]; omega⟩
       ·rw [if_neg hsz] at hst
        cases hst
      ·rw [if_neg (fun e => hB1 e.2.2)] at hst
       have hcx : ¬ xt = ⟨#[]⟩ := fun e => hx2 (by rw [Lib.toList_data, e])
       clear hne hne1
       by_cases hy1 : yk = 1
       ·subst hy1
        have hy2 : (yd == xd) = false := beq_eq_false_iff_ne.2 (fun e => hB1 ⟨rfl, e⟩)
        by_cases hlen : outs.length < 1000000000000
        ·rw [if_pos hlen] at hst
         obtain rfl := Option.some.inj hst
         clear hst
         rw [hm1]
         rw [hm1] at hOA hown
         go_wp2_with (at_builtin; (try rw [drew_alloc]); refine Kd.R_append k34 (w0 := w1) w.heap.size rfl (.tmp 16) (.tmp 18) 22 34 (.agg #[(.int .i64 0), (.int .i64 0), (.string ⟨#[]⟩), (.string ⟨#[]⟩), (.slice none 0 0)]) 72 rfl Tryz.underlying22 info34 rfl (by decide) (by omega) (.slice (some ⟨go, 0, none⟩) (m + 1) c2) outs (⟨xd, 1, xn, xt, xa⟩ : Rw) [.int .i64 xd, .int .i64 1, .string xn, .string xt, .slice A4 xa.length c4] (fun _ => True) (fun k => k < w1.heap.size) rfl ?aX ?aP ?aK ?aF ?aO ?aB ?aS ?aL ?_; (case aX => exact congrArg (fun n => Value.slice (some ⟨n, 0, none⟩) 1 1) hsz1.symm); (case aP => exact Kd.M_below hMp (by first | with_reducible exact below_drew hBA | with_reducible exact hBA)); (case aK => exact fun k hk => ⟨trivial, fun e => by have := hown.out k e.symm; omega⟩); (case aF => exact fun _ _ => trivial); (case aO => first | with_reducible exact Kd.R_drew hOA | with_reducible exact hOA); (case aB => exact Below.mono (by first | with_reducible exact below_drew hBA | with_reducible exact hBA) hbw); (case aS => exact hsA); (case aL => omega); intro v1 w2 hO2 hb2 hg2 hat2; obtain ⟨A3, c3, rfl⟩ := Kd.R_slice hO2; have hB2 := Below.grown (below_drew hBA) hg2 hsB (fun k hk => hown.out k hk); have hown2 := Lib.hid (own_hop hown.out hat2 hsB))
         first
          | (go_region; go_wp2_with (at_builtin; (try rw [drew_alloc]); refine Kd.R_append k34 (w0 := w1) w.heap.size rfl (.tmp 16) (.tmp 18) 22 34 (.agg #[(.int .i64 0), (.int .i64 0), (.string ⟨#[]⟩), (.string ⟨#[]⟩), (.slice none 0 0)]) 72 rfl Tryz.underlying22 info34 rfl (by decide) (by omega) (.slice (some ⟨go, 0, none⟩) (m + 1) c2) outs (⟨xd, 1, xn, xt, xa⟩ : Rw) [.int .i64 xd, .int .i64 1, .string xn, .string xt, .slice A4 xa.length c4] (fun _ => True) (fun k => k < w1.heap.size) rfl ?aX ?aP ?aK ?aF ?aO ?aB ?aS ?aL ?_; (case aX => exact congrArg (fun n => Value.slice (some ⟨n, 0, none⟩) 1 1) hsz1.symm); (case aP => exact Kd.M_below hMp (by first | with_reducible exact below_drew hBA | with_reducible exact hBA)); (case aK => exact fun k hk => ⟨trivial, fun e => by have := hown.out k e.symm; omega⟩); (case aF => exact fun _ _ => trivial); (case aO => first | with_reducible exact Kd.R_drew hOA | with_reducible exact hOA); (case aB => exact Below.mono (by first | with_reducible exact below_drew hBA | with_reducible exact hBA) hbw); (case aS => exact hsA); (case aL => omega); intro v1 w2 hO2 hb2 hg2 hat2; obtain ⟨A3, c3, rfl⟩ := Kd.R_slice hO2; have hB2 := Below.grown (below_drew hBA) hg2 hsB (fun k hk => hown.out k hk); have hown2 := Lib.hid (own_hop hown.out hat2 hsB)))
          | skip
         rw [List.length_append, hm1, List.length_singleton] at hO2 hown2
         exact ⟨⟨i + 1, outs ++ [(⟨xd, 1, xn, xt, xa⟩ : Rw)], rfl, by omega, hrest3, hO2, hB2, hown2⟩, by simp [intOf]; omega⟩
        ·rw [if_neg hlen] at hst
         cases hst
       ·have hy2 : (yk == 1) = false := beq_eq_false_iff_ne.2 hy1
        by_cases hlen : outs.length < 1000000000000
        ·rw [if_pos hlen] at hst
         obtain rfl := Option.some.inj hst
         clear hst
         rw [hm1]
         rw [hm1] at hOA hown
         go_wp2_with (at_builtin; (try rw [drew_alloc]); refine Kd.R_append k34 (w0 := w1) w.heap.size rfl (.tmp 16) (.tmp 18) 22 34 (.agg #[(.int .i64 0), (.int .i64 0), (.string ⟨#[]⟩), (.string ⟨#[]⟩), (.slice none 0 0)]) 72 rfl Tryz.underlying22 info34 rfl (by decide) (by omega) (.slice (some ⟨go, 0, none⟩) (m + 1) c2) outs (⟨xd, 1, xn, xt, xa⟩ : Rw) [.int .i64 xd, .int .i64 1, .string xn, .string xt, .slice A4 xa.length c4] (fun _ => True) (fun k => k < w1.heap.size) rfl ?aX ?aP ?aK ?aF ?aO ?aB ?aS ?aL ?_; (case aX => exact congrArg (fun n => Value.slice (some ⟨n, 0, none⟩) 1 1) hsz1.symm); (case aP => exact Kd.M_below hMp (by first | with_reducible exact below_drew hBA | with_reducible exact hBA)); (case aK => exact fun k hk => ⟨trivial, fun e => by have := hown.out k e.symm; omega⟩); (case aF => exact fun _ _ => trivial); (case aO => first | with_reducible exact Kd.R_drew hOA | with_reducible exact hOA); (case aB => exact Below.mono (by first | with_reducible exact below_drew hBA | with_reducible exact hBA) hbw); (case aS => exact hsA); (case aL => omega); intro v1 w2 hO2 hb2 hg2 hat2; obtain ⟨A3, c3, rfl⟩ := Kd.R_slice hO2; have hB2 := Below.grown (below_drew hBA) hg2 hsB (fun k hk => hown.out k hk); have hown2 := Lib.hid (own_hop hown.out hat2 hsB))
         first
          | (go_region; go_wp2_with (at_builtin; (try rw [drew_alloc]); refine Kd.R_append k34 (w0 := w1) w.heap.size rfl (.tmp 16) (.tmp 18) 22 34 (.agg #[(.int .i64 0), (.int .i64 0), (.string ⟨#[]⟩), (.string ⟨#[]⟩), (.slice none 0 0)]) 72 rfl Tryz.underlying22 info34 rfl (by decide) (by omega) (.slice (some ⟨go, 0, none⟩) (m + 1) c2) outs (⟨xd, 1, xn, xt, xa⟩ : Rw) [.int .i64 xd, .int .i64 1, .string xn, .string xt, .slice A4 xa.length c4] (fun _ => True) (fun k => k < w1.heap.size) rfl ?aX ?aP ?aK ?aF ?aO ?aB ?aS ?aL ?_; (case aX => exact congrArg (fun n => Value.slice (some ⟨n, 0, none⟩) 1 1) hsz1.symm); (case aP => exact Kd.M_below hMp (by first | with_reducible exact below_drew hBA | with_reducible exact hBA)); (case aK => exact fun k hk => ⟨trivial, fun e => by have := hown.out k e.symm; omega⟩); (case aF => exact fun _ _ => trivial); (case aO => first | with_reducible exact Kd.R_drew hOA | with_reducible exact hOA); (case aB => exact Below.mono (by first | with_reducible exact below_drew hBA | with_reducible exact hBA) hbw); (case aS => exact hsA); (case aL => omega); intro v1 w2 hO2 hb2 hg2 hat2; obtain ⟨A3, c3, rfl⟩ := Kd.R_slice hO2; have hB2 := Below.grown (below_drew hBA) hg2 hsB (fun k hk => hown.out k hk); have hown2 := Lib.hid (own_hop hown.out hat2 hsB)))
          | skip
         rw [List.length_append, hm1, List.length_singleton] at hO2 hown2
         exact ⟨⟨i + 1, outs ++ [(⟨xd, 1, xn, xt, xa⟩ : Rw)], rfl, by omega, hrest3, hO2, hB2, hown2⟩, by simp [intOf]; omega⟩
        ·rw [if_neg hlen] at hst
         cases hst
     ·rw [if_neg (fun e => hn0 e.2.1)] at hst
      have hcx : ¬ xt = ⟨#[]⟩ := fun e => hx2 (by rw [Lib.toList_data, e])
      have hl0 : outs.length = 0 := by omega
      clear hne hne1
      by_cases hlen : outs.length < 1000000000000
      ·rw [if_pos hlen] at hst
       obtain rfl := Option.some.inj hst
       clear hst
       rw [hl0]
       rw [hl0] at hOA hown
       go_wp2_with (at_builtin; (try rw [drew_alloc]); refine Kd.R_append k34 (w0 := w1) w.heap.size rfl (.tmp 16) (.tmp 18) 22 34 (.agg #[(.int .i64 0), (.int .i64 0), (.string ⟨#[]⟩), (.string ⟨#[]⟩), (.slice none 0 0)]) 72 rfl Tryz.underlying22 info34 rfl (by decide) (by omega) (.slice A2 0 c2) outs (⟨xd, 1, xn, xt, xa⟩ : Rw) [.int .i64 xd, .int .i64 1, .string xn, .string xt, .slice A4 xa.length c4] (fun _ => True) (fun k => k < w1.heap.size) rfl ?aX ?aP ?aK ?aF ?aO ?aB ?aS ?aL ?_; (case aX => exact congrArg (fun n => Value.slice (some ⟨n, 0, none⟩) 1 1) hsz1.symm); (case aP => exact Kd.M_below hMp (by first | with_reducible exact below_drew hBA | with_reducible exact hBA)); (case aK => exact fun k hk => ⟨trivial, fun e => by have := hown.out k e.symm; omega⟩); (case aF => exact fun _ _ => trivial); (case aO => first | with_reducible exact Kd.R_drew hOA | with_reducible exact hOA); (case aB => exact Below.mono (by first | with_reducible exact below_drew hBA | with_reducible exact hBA) hbw); (case aS => exact hsA); (case aL => omega); intro v1 w2 hO2 hb2 hg2 hat2; obtain ⟨A3, c3, rfl⟩ := Kd.R_slice hO2; have hB2 := Below.grown (below_drew hBA) hg2 hsB (fun k hk => hown.out k hk); have hown2 := Lib.hid (own_hop hown.out hat2 hsB))
       first
        | (go_region; go_wp2_with (at_builtin; (try rw [drew_alloc]); refine Kd.R_append k34 (w0 := w1) w.heap.size rfl (.tmp 16) (.tmp 18) 22 34 (.agg #[(.int .i64 0), (.int .i64 0), (.string ⟨#[]⟩), (.string ⟨#[]⟩), (.slice none 0 0)]) 72 rfl Tryz.underlying22 info34 rfl (by decide) (by omega) (.slice A2 0 c2) outs (⟨xd, 1, xn, xt, xa⟩ : Rw) [.int .i64 xd, .int .i64 1, .string xn, .string xt, .slice A4 xa.length c4] (fun _ => True) (fun k => k < w1.heap.size) rfl ?aX ?aP ?aK ?aF ?aO ?aB ?aS ?aL ?_; (case aX => exact congrArg (fun n => Value.slice (some ⟨n, 0, none⟩) 1 1) hsz1.symm); (case aP => exact Kd.M_below hMp (by first | with_reducible exact below_drew hBA | with_reducible exact hBA)); (case aK => exact fun k hk => ⟨trivial, fun e => by have := hown.out k e.symm; omega⟩); (case aF => exact fun _ _ => trivial); (case aO => first | with_reducible exact Kd.R_drew hOA | with_reducible exact hOA); (case aB => exact Below.mono (by first | with_reducible exact below_drew hBA | with_reducible exact hBA) hbw); (case aS => exact hsA); (case aL => omega); intro v1 w2 hO2 hb2 hg2 hat2; obtain ⟨A3, c3, rfl⟩ := Kd.R_slice hO2; have hB2 := Below.grown (below_drew hBA) hg2 hsB (fun k hk => hown.out k hk); have hown2 := Lib.hid (own_hop hown.out hat2 hsB)))
        | skip
       rw [List.length_append, hl0, List.length_singleton, Nat.zero_add] at hO2 hown2
       exact ⟨⟨i + 1, outs ++ [(⟨xd, 1, xn, xt, xa⟩ : Rw)], rfl, by omega, hrest3, hO2, hB2, hown2⟩, by simp [intOf]; omega⟩
      ·rw [if_neg hlen] at hst
       cases hst
    ·rw [if_neg (fun e => hk1 e.1)] at hst
     have hq1 : (xk == 1) = false := beq_eq_false_iff_ne.2 hk1
     clear hne hne1
     by_cases hlen : outs.length < 1000000000000
     ·rw [if_pos hlen] at hst
      obtain rfl := Option.some.inj hst
      clear hst
      go_wp2_with (at_builtin; (try rw [drew_alloc]); refine Kd.R_append k34 (w0 := w1) w.heap.size rfl (.tmp 16) (.tmp 18) 22 34 (.agg #[(.int .i64 0), (.int .i64 0), (.string ⟨#[]⟩), (.string ⟨#[]⟩), (.slice none 0 0)]) 72 rfl Tryz.underlying22 info34 rfl (by decide) (by omega) (.slice A2 outs.length c2) outs (⟨xd, xk, xn, xt, xa⟩ : Rw) [.int .i64 xd, .int .i64 xk, .string xn, .string xt, .slice A4 xa.length c4] (fun _ => True) (fun k => k < w1.heap.size) rfl ?aX ?aP ?aK ?aF ?aO ?aB ?aS ?aL ?_; (case aX => exact congrArg (fun n => Value.slice (some ⟨n, 0, none⟩) 1 1) hsz1.symm); (case aP => exact Kd.M_below hMp (by first | with_reducible exact below_drew hBA | with_reducible exact hBA)); (case aK => exact fun k hk => ⟨trivial, fun e => by have := hown.out k e.symm; omega⟩); (case aF => exact fun _ _ => trivial); (case aO => first | with_reducible exact Kd.R_drew hOA | with_reducible exact hOA); (case aB => exact Below.mono (by first | with_reducible exact below_drew hBA | with_reducible exact hBA) hbw); (case aS => exact hsA); (case aL => omega); intro v1 w2 hO2 hb2 hg2 hat2; obtain ⟨A3, c3, rfl⟩ := Kd.R_slice hO2; have hB2 := Below.grown (below_drew hBA) hg2 hsB (fun k hk => hown.out k hk); have hown2 := Lib.hid (own_hop hown.out hat2 hsB))
      first
       | (go_region; go_wp2_with (at_builtin; (try rw [drew_alloc]); refine Kd.R_append k34 (w0 := w1) w.heap.size rfl (.tmp 16) (.tmp 18) 22 34 (.agg #[(.int .i64 0), (.int .i64 0), (.string ⟨#[]⟩), (.string ⟨#[]⟩), (.slice none 0 0)]) 72 rfl Tryz.underlying22 info34 rfl (by decide) (by omega) (.slice A2 outs.length c2) outs (⟨xd, xk, xn, xt, xa⟩ : Rw) [.int .i64 xd, .int .i64 xk, .string xn, .string xt, .slice A4 xa.length c4] (fun _ => True) (fun k => k < w1.heap.size) rfl ?aX ?aP ?aK ?aF ?aO ?aB ?aS ?aL ?_; (case aX => exact congrArg (fun n => Value.slice (some ⟨n, 0, none⟩) 1 1) hsz1.symm); (case aP => exact Kd.M_below hMp (by first | with_reducible exact below_drew hBA | with_reducible exact hBA)); (case aK => exact fun k hk => ⟨trivial, fun e => by have := hown.out k e.symm; omega⟩); (case aF => exact fun _ _ => trivial); (case aO => first | with_reducible exact Kd.R_drew hOA | with_reducible exact hOA); (case aB => exact Below.mono (by first | with_reducible exact below_drew hBA | with_reducible exact hBA) hbw); (case aS => exact hsA); (case aL => omega); intro v1 w2 hO2 hb2 hg2 hat2; obtain ⟨A3, c3, rfl⟩ := Kd.R_slice hO2; have hB2 := Below.grown (below_drew hBA) hg2 hsB (fun k hk => hown.out k hk); have hown2 := Lib.hid (own_hop hown.out hat2 hsB)))
       | skip
      rw [List.length_append, List.length_singleton] at hO2 hown2
      exact ⟨⟨i + 1, outs ++ [(⟨xd, xk, xn, xt, xa⟩ : Rw)], rfl, by omega, hrest3, hO2, hB2, hown2⟩, by simp [intOf]; omega⟩
     ·rw [if_neg hlen] at hst
      cases hst
  ·have hr0 : outs = res := by
    have h1 := hrest.out
    rw [List.drop_of_length_le (by omega)] at h1
    exact Option.some.inj h1
   subst hr0
   clear hrest h
   go_wp2
   go_ret
   exact ⟨_, rfl, hO, Go.Proofs.YtkcmghlhpbepcaaGreatDoor.below_then hb1 hbw hB⟩
end Go.Proofs.YtkcmghlhpbepcaaGreatDoorH.W7
