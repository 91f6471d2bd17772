/- Lemmas and walks, part 29: QKOp8, QPW8x37, QPW8x38, QPW8x16. -/
import Derived.Test.YtdnbaliibiginaaDoorU4
import Derived.Test.YtdnbaliibiginaaDoorU28
import Derived.Test.YtdnbaliibiginaaDoorU10
set_option linter.unusedVariables false
set_option linter.unusedSimpArgs false

/- What came in, struct by struct: openings of the types that the statements take (printed by gen_kopn.py). -/
namespace Go.Proofs.YtdnbaliibiginaaDoorH.W8
open Go.RowKit Go.Proofs Go.Proofs.YtdnbaliibiginaaDoorH Go.Proofs.YtdnbaliibiginaaDoorW.PrintWords
open Go.Proofs.YtdnbaliibiginaaDoor (Rows.uptoBulk Rows.uptoBulkAll)
theorem opn9 : Opn Tryd.prog 9 Kd.string (fun s => s.size + 1) (fun s => s.size ≤ maxLen) := opn_string Tryd.underlying9
def wt45 (x : S45) : Nat := (fun s => s.size + 1) x.f0 + (fun s => s.size + 1) x.f1 + 1
def wf45 (x : S45) : Prop := (fun s => s.size ≤ maxLen) x.f0 ∧ (fun s => s.size ≤ maxLen) x.f1
theorem opn45 : Opn Tryd.prog 45 k45 wt45 wf45 := by
 intro H enc w base spare held fuel cs x h
 obtain ⟨xs, n, _, rfl, hl, hlen, hf⟩ := DataW.trod_struct Tryd.underlying45 h
 rw [show Tryd.prog.cellsOf 45 = 2 from by kernel_rfl] at hl
 replace hlen : xs.length = 2 := hlen
 obtain ⟨y0, hy0⟩ := ex_of 0 hlen (by omega)
 have g0 : DataW.trod enc Tryd.prog w base spare held n 9 ((cs.drop 0).take (Tryd.prog.cellsOf 9)) = some y0 := (hf 0 _ rfl).trans hy0
 rw [show Tryd.prog.cellsOf 9 = 1 from by kernel_rfl] at g0
 obtain ⟨a0, k0, b0, p0⟩ := opn9 g0
 obtain ⟨y1, hy1⟩ := ex_of 1 hlen (by omega)
 have g1 : DataW.trod enc Tryd.prog w base spare held n 9 ((cs.drop 1).take (Tryd.prog.cellsOf 9)) = some y1 := (hf 1 _ rfl).trans hy1
 rw [show Tryd.prog.cellsOf 9 = 1 from by kernel_rfl] at g1
 obtain ⟨a1, k1, b1, p1⟩ := opn9 g1
 obtain rfl : xs = [y0, y1] := by
  apply List.ext_getElem?
  intro i
  match i with
  | 0 => exact hy0
  | 1 => exact hy1
  | k + 2 => rw [List.getElem?_eq_none (by omega), List.getElem?_eq_none (by simp)]
 refine ⟨⟨a0, a1⟩, (pair_at (o := 0) (s := 1) k0 (last_at (o := 1) (s := 1) hl k1)), ?_, ⟨p0, p1⟩⟩
 simp only [wt45, List.map_cons, List.map_nil, Rows.uptoBulk, Rows.uptoBulkAll]
 simp only at b0 b1
 omega
theorem opn3 : Opn Tryd.prog 3 (Kd.int .i64) (fun _ => 1) (fun n => (Lit.int .i64 n).wf = true) := opn_int Tryd.underlying3
theorem opn33 : Opn Tryd.prog 33 (Kd.slice 45 k45) (fun l => (l.map wt45).sum + 1) (fun l => ∀ x ∈ l, wf45 x) := opn_slice Tryd.underlying33 (by kernel_rfl) opn45
def wt35 (x : S35) : Nat := (fun _ => 1) x.f0 + (fun _ => 1) x.f1 + (fun s => s.size + 1) x.f2 + (fun s => s.size + 1) x.f3 + (fun l => (l.map wt45).sum + 1) x.f4 + 1
def wf35 (x : S35) : Prop := (fun n => (Lit.int .i64 n).wf = true) x.f0 ∧ (fun n => (Lit.int .i64 n).wf = true) x.f1 ∧ (fun s => s.size ≤ maxLen) x.f2 ∧ (fun s => s.size ≤ maxLen) x.f3 ∧ (fun l => ∀ x ∈ l, wf45 x) x.f4
theorem opn35 : Opn Tryd.prog 35 k35 wt35 wf35 := by
 intro H enc w base spare held fuel cs x h
 obtain ⟨xs, n, _, rfl, hl, hlen, hf⟩ := DataW.trod_struct Tryd.underlying35 h
 rw [show Tryd.prog.cellsOf 35 = 5 from by kernel_rfl] at hl
 replace hlen : xs.length = 5 := hlen
 obtain ⟨y0, hy0⟩ := ex_of 0 hlen (by omega)
 have g0 : DataW.trod enc Tryd.prog w base spare held n 3 ((cs.drop 0).take (Tryd.prog.cellsOf 3)) = some y0 := (hf 0 _ rfl).trans hy0
 rw [show Tryd.prog.cellsOf 3 = 1 from by kernel_rfl] at g0
 obtain ⟨a0, k0, b0, p0⟩ := opn3 g0
 obtain ⟨y1, hy1⟩ := ex_of 1 hlen (by omega)
 have g1 : DataW.trod enc Tryd.prog w base spare held n 3 ((cs.drop 1).take (Tryd.prog.cellsOf 3)) = some y1 := (hf 1 _ rfl).trans hy1
 rw [show Tryd.prog.cellsOf 3 = 1 from by kernel_rfl] at g1
 obtain ⟨a1, k1, b1, p1⟩ := opn3 g1
 obtain ⟨y2, hy2⟩ := ex_of 2 hlen (by omega)
 have g2 : DataW.trod enc Tryd.prog w base spare held n 9 ((cs.drop 2).take (Tryd.prog.cellsOf 9)) = some y2 := (hf 2 _ rfl).trans hy2
 rw [show Tryd.prog.cellsOf 9 = 1 from by kernel_rfl] at g2
 obtain ⟨a2, k2, b2, p2⟩ := opn9 g2
 obtain ⟨y3, hy3⟩ := ex_of 3 hlen (by omega)
 have g3 : DataW.trod enc Tryd.prog w base spare held n 9 ((cs.drop 3).take (Tryd.prog.cellsOf 9)) = some y3 := (hf 3 _ rfl).trans hy3
 rw [show Tryd.prog.cellsOf 9 = 1 from by kernel_rfl] at g3
 obtain ⟨a3, k3, b3, p3⟩ := opn9 g3
 obtain ⟨y4, hy4⟩ := ex_of 4 hlen (by omega)
 have g4 : DataW.trod enc Tryd.prog w base spare held n 33 ((cs.drop 4).take (Tryd.prog.cellsOf 33)) = some y4 := (hf 4 _ rfl).trans hy4
 rw [show Tryd.prog.cellsOf 33 = 1 from by kernel_rfl] at g4
 obtain ⟨a4, k4, b4, p4⟩ := opn33 g4
 obtain rfl : xs = [y0, y1, y2, y3, y4] := by
  apply List.ext_getElem?
  intro i
  match i with
  | 0 => exact hy0
  | 1 => exact hy1
  | 2 => exact hy2
  | 3 => exact hy3
  | 4 => exact hy4
  | k + 5 => rw [List.getElem?_eq_none (by omega), List.getElem?_eq_none (by simp)]
 refine ⟨⟨a0, a1, a2, a3, a4⟩, (pair_at (o := 0) (s := 1) k0 (pair_at (o := 1) (s := 1) k1 (pair_at (o := 2) (s := 1) k2 (pair_at (o := 3) (s := 1) k3 (last_at (o := 4) (s := 1) hl k4))))), ?_, ⟨p0, p1, p2, p3, p4⟩⟩
 simp only [wt35, List.map_cons, List.map_nil, Rows.uptoBulk, Rows.uptoBulkAll]
 simp only at b0 b1 b2 b3 b4
 omega
theorem opn22 : Opn Tryd.prog 22 (Kd.slice 35 k35) (fun l => (l.map wt35).sum + 1) (fun l => ∀ x ∈ l, wf35 x) := opn_slice Tryd.underlying22 (by kernel_rfl) opn35
end Go.Proofs.YtdnbaliibiginaaDoorH.W8

/- Words and walks used below. -/
namespace Go.Proofs.YtdnbaliibiginaaDoorH.W8
open Go.RowKit Go.Proofs.YtdnbaliibiginaaDoorW.PrintWords Go.Proofs.YtdnbaliibiginaaDoorW.PrintLast Go.Proofs.YtdnbaliibiginaaDoorW.PrintMore
attribute [local go_sem] max2_int min2_int max_two min_two max_three min_three max_four min_four   -- for this text's walks alone
def write_Rows.f (l0 : List (S35)) : Option (ByteArray) := (write_written.f l0 (-1)).bind fun t292 => (some t292)
set_option maxHeartbeats 8000000 in
set_option maxRecDepth 100000 in
theorem write_Rows.calls (A0 : Option Addr) (c0 : Nat) (l0 : List (S35)) (r : ByteArray) (w : World) (hr0 : Kd.C k35 w A0 l0.length l0) (hc0 : l0.length ≤ c0) (h : write_Rows.f l0 = some r) (hS_ : Go.Proofs.YtdnbaliibiginaaDoor.Std8 w) :
  Calls Tryd.prog 10 #[.slice A0 l0.length c0] w fun e w' => e = .returned (.string r) ∧ Below w.heap.size w w' := by
 have HS_ := Aside0.mk hS_
 clear hS_
 have HR0 := Aside0.mk hr0
 have HC0 := Aside0.mk hc0
 clear hr0 hc0
 have HB := Aside0.mk (Below.refl w.heap.size w)
 have H : ((write_written.f l0 (-1)).bind fun t292 => (some t292)) = some r := h
 clear h
 replace H := Option.bind_eq_some_iff.mp H
 obtain ⟨t292, A20, H⟩ := H
 replace H : (some t292) = some r := H
 have A2 := Aside0.mk A20
 clear A20
 obtain rfl := Option.some.inj H
 go_enter Tryd.func10, Tryd.ntmps10
 go_wp2_with (first | ((with_reducible refine gate_callee (f := 25) rfl ?_); refine goesL_ (some 4) rfl rfl Tryd.func25 (by kernel_rfl) rfl #[.slice A0 l0.length c0, .int .i64 (-1)] rfl (by (try simp only [List.map_toArray, List.map_cons, List.map_nil]); first | done | rfl | (simp only [List.length_drop, List.length_take]; rfl)) ?_; (with_reducible refine (write_written.calls _ _ l0 (-1) t292 _ ?side1 ?side2 A2.out (Go.Proofs.YtdnbaliibiginaaDoor.Std8.below HS_.out bz)).mono ?_); (case side1 => repeat (first | exact HR0.out | (with_reducible refine Kd.C_alloc ?_ _) | (with_reducible refine Kd.C_drewN ?_ _) | (with_reducible refine Kd.C_drew ?_))); (case side2 => exact HC0.out); rintro e w3 ⟨rfl, hb⟩; refine ⟨_, rfl, ?_⟩; have n0_ := Aside0.mk (below_step bz hb); clear HB; have HB := n0_; clear n0_; (try clear hb); (try clear hb2); (try clear hk); (try clear hi)))
 go_ret
 exact ⟨by first | rfl | (simp [errW_none, errW_some] <;> rfl) | (simp [*, errW_none, errW_some] <;> rfl), bz⟩
end Go.Proofs.YtdnbaliibiginaaDoorH.W8

/- Words and walks used below. -/
namespace Go.Proofs.YtdnbaliibiginaaDoorH.W8
open Go.RowKit Go.Proofs.YtdnbaliibiginaaDoorW.PrintWords Go.Proofs.YtdnbaliibiginaaDoorW.PrintLast Go.Proofs.YtdnbaliibiginaaDoorW.PrintMore
attribute [local go_sem] max2_int min2_int max_two min_two max_three min_three max_four min_four   -- for this text's walks alone
def boltinglaw08_bound.l0 : Nat → List (S35) → List (S35) → Int → Option ((List (S35)))
 | 0, _, _, _ => none
 | k + 1, x0, x3, x4 => if x4 < (x0.length : Int) then (if x4 < 40 then (if 0 ≤ x4 then (if 0 ≤ (mn (((rd_T35 x0 x4).f4).length : Int) 6) then (if (mn (((rd_T35 x0 x4).f4).length : Int) 6) ≤ (((rd_T35 x0 x4).f4).length : Int) then (if x3.length < 1954687338268 then (boltinglaw08_bound.l0 k x0 (x3 ++ [(⟨(rd_T35 x0 x4).f0, (rd_T35 x0 x4).f1, (rd_T35 x0 x4).f2, (rd_T35 x0 x4).f3, (((rd_T35 x0 x4).f4).take ((mn (((rd_T35 x0 x4).f4).length : Int) 6) : Int).toNat)⟩ : S35)]) (wrap64 (x4 + 1))) else (none)) else (none)) else (none)) else (none)) else (some x3)) else (some x3)
def boltinglaw08_bound.f (k : Nat) (l0 : List (S35)) : Option ((List (S35))) := boltinglaw08_bound.l0 k l0 (([] : List (S35))) 0
set_option maxHeartbeats 8000000 in
set_option maxRecDepth 100000 in
theorem boltinglaw08_bound.calls (k : Nat) (P0_ : Nat → Prop) (A0 : Option Addr) (c0 : Nat) (l0 : List (S35)) (r : List (S35)) (w : World) (hs0 : Kd.V k35 35 w w.heap.size (fun k_ => P0_ k_) (.slice A0 l0.length c0) l0) (h : boltinglaw08_bound.f k l0 = some r) :
  Calls Tryd.prog 7 #[.slice A0 l0.length c0] w fun e w' => ∃ v0_ : Value, e = .returned (v0_) ∧ Kd.N k35 35 w' w.heap.size (fun k_ => (P0_ k_ ∨ w.heap.size ≤ k_)) v0_ r ∧ Below w.heap.size w w' := by
 have hu35 := Tryd.underlying35
 have HO0 := Aside0.mk (show Kd.V k35 35 w w.heap.size (fun k_ => (P0_ k_ ∨ w.heap.size ≤ k_)) (.slice A0 l0.length c0) l0 from Kd.V_mono hs0 (fun k_ hk => .inl hk))
 have HB := Aside0.mk (Below.refl w.heap.size w)
 have H : (boltinglaw08_bound.l0 k l0 (([] : List (S35))) 0) = some r := h
 clear h
 obtain ⟨y293, hy293⟩ : ∃ y_ : List (S35), y_ = (([] : List (S35))) := ⟨_, rfl⟩
 replace H : (boltinglaw08_bound.l0 k l0 y293 0) = some r := by first | (rw [hy293]; with_reducible exact H) | (have H2_ := (Option.bind_some _ _).symm.trans H; rw [hy293]; with_reducible exact H2_) | (have H2_ := (Option.bind_some _ _).symm.trans H; with_reducible exact H2_) | with_reducible exact H | (rw [hy293]; exact H) | exact H
 have Ny293 := Aside0.mk hy293
 clear hy293
 have H' := Aside0.mk H
 clear H
 go_enter Tryd.func7, Tryd.ntmps7
 go_wp2_with (first | ((with_reducible refine gate_dst (N := 6) rfl ?_); refine Kd.N_lit k35 _ 35 ?hg (N' := 6) ?hd (xs := ([] : List (S35))) (inner := []) (ok := (fun k_ => (P0_ k_ ∨ w.heap.size ≤ k_))) (okp := (fun k_ => (P0_ k_ ∨ w.heap.size ≤ k_))) ?hr ?hp (fun _ hk => hk) ((show ∀ k_, w.heap.size ≤ k_ → (fun k_ => (P0_ k_ ∨ w.heap.size ≤ k_)) k_ from fun k_ hk => (.inr (Nat.le_trans (below_size bz) hk))) _ (Nat.le_refl _)) (Below.refl _ _) (Nat.le_refl _) (by simp) ?_; (case hd => rfl); (case hg => rfl); (case hr => first | (go_simp; done) | (go_simp; rfl)); (case hp => exact (Reps.none _ _)); intro v294 w2 ho3 hb hg_ hnew_; clear hg_ hnew_; (first | rw [← Ny293.out] at ho3 | (simp only [Int.reduceToNat] at ho3; rw [← Ny293.out] at ho3)); have n0_ := Aside0.mk (Kd.V_elder' (by (with_reducible repeat (first | apply Kd.V_alloc | apply Kd.V_drewN | apply Kd.V_drew)); exact HO0.out) (by first | exact Kd.N_base ho3 | exact Kd.R_base ho3) hb); have n1_ := Aside0.mk (Kd.N_lower ho3 (below_size bz)); have n2_ := Aside0.mk (below_step bz hb); clear HO0; clear HB; have HO0 := n0_; have HO295 := n1_; have HB := n2_; clear n0_ n1_ n2_; clear hb ho3))
 go_loopg [3, 4] k (fun kq v3 v4 w' => ∃ (x3_1 : List (S35)) (x4_1 : Int), v4 = .int .i64 x4_1 ∧ Aside0 (boltinglaw08_bound.l0 kq l0 x3_1 x4_1 = some r) ∧ Aside0 (kq ≤ k) ∧ Aside0 (Kd.V k35 35 w' w.heap.size (fun k_ => (P0_ k_ ∨ w.heap.size ≤ k_) ∧ some k_ ≠ (v3 : Value).ownBlock) (.slice A0 l0.length c0) l0) ∧ Aside0 (Kd.N k35 35 w' w.heap.size (fun k_ => (P0_ k_ ∨ w.heap.size ≤ k_)) v3 x3_1) ∧ Aside0 (Below w.heap.size w w'))
 case atStart => exact ⟨(y293), (0), (by first | rfl | (simp; done) | (simp [*]; done) | (simp; generalize ByteArray.toList _ = l_; cases l_ <;> rfl)), H', ⟨Nat.le_refl _⟩, ⟨by (with_reducible repeat (first | apply Kd.V_alloc | apply Kd.V_drewN | apply Kd.V_drew)); exact HO0.out⟩, ⟨by (with_reducible repeat (first | apply Kd.N_alloc | apply Kd.N_drewN | apply Kd.N_drew)); exact HO295.out⟩, ⟨bz⟩⟩
 case round =>
  clear H'
  try clear p2
  obtain ⟨x3_1, x4_1, rfl, HA, HK1, HO_0, HO_3, HB⟩ := hrel
  cases gk with
  | zero => exact absurd HA.out (by simp [boltinglaw08_bound.l0])
  | succ k1 =>
   have H := HA.out
   clear HA
   simp only [boltinglaw08_bound.l0] at H
   by_cases c4 : x4_1 < (l0.length : Int)
   ·rw [if_pos c4] at H
    have c4b0 : decide (x4_1 < (l0.length : Int)) = true := decide_eq_true c4
    clear c4
    by_cases c5 : x4_1 < 40
    ·rw [if_pos c5] at H
     have c5b0 : decide (x4_1 < 40) = true := decide_eq_true c5
     clear c5
     by_cases c6 : 0 ≤ x4_1
     ·rw [if_pos c6] at H
      have c6b0 : decide (0 ≤ x4_1) = true := decide_eq_true c6
      clear c6
      obtain ⟨ji7, hji7⟩ : ∃ j_ : Int, (mn (((rd_T35 l0 x4_1).f4).length : Int) 6) = j_ := ⟨_, rfl⟩
      replace H : (if 0 ≤ (ji7) then (if (ji7) ≤ (((rd_T35 l0 x4_1).f4).length : Int) then (if x3_1.length < 1954687338268 then (boltinglaw08_bound.l0 k1 l0 (x3_1 ++ [(⟨(rd_T35 l0 x4_1).f0, (rd_T35 l0 x4_1).f1, (rd_T35 l0 x4_1).f2, (rd_T35 l0 x4_1).f3, (((rd_T35 l0 x4_1).f4).take ((ji7) : Int).toNat)⟩ : S35)]) (wrap64 (x4_1 + 1))) else (none)) else (none)) else (none)) = some r := by first | (rw [hji7] at H; exact H) | (simp only [hji7] at H ⊢; exact H)
      have hji7_ : (if 6 < (((rd_T35 l0 x4_1).f4).length : Int) then 6 else (((rd_T35 l0 x4_1).f4).length : Int)) = ji7 := hji7
      by_cases c8 : 0 ≤ (ji7)
      ·rw [if_pos c8] at H
       have c8b0 := eq_true c8
       have c8b1 : decide (0 ≤ (ji7)) = true := decide_eq_true c8
       clear c8
       by_cases c9 : (ji7) ≤ (((rd_T35 l0 x4_1).f4).length : Int)
       ·rw [if_pos c9] at H
        have c9b0 := eq_true c9
        have c9b1 : decide ((ji7) ≤ (((rd_T35 l0 x4_1).f4).length : Int)) = true := decide_eq_true c9
        clear c9
        obtain ⟨y298, hy298⟩ : ∃ y_ : List (S45), y_ = (((rd_T35 l0 x4_1).f4).take ((ji7) : Int).toNat) := ⟨_, rfl⟩
        replace H : (if x3_1.length < 1954687338268 then (boltinglaw08_bound.l0 k1 l0 (x3_1 ++ [(⟨(rd_T35 l0 x4_1).f0, (rd_T35 l0 x4_1).f1, (rd_T35 l0 x4_1).f2, (rd_T35 l0 x4_1).f3, y298⟩ : S35)]) (wrap64 (x4_1 + 1))) else (none)) = some r := by first | (rw [hy298]; with_reducible exact H) | (have H2_ := (Option.bind_some _ _).symm.trans H; rw [hy298]; with_reducible exact H2_) | (have H2_ := (Option.bind_some _ _).symm.trans H; with_reducible exact H2_) | with_reducible exact H | (rw [hy298]; exact H) | exact H
        have Ny298 := Aside0.mk hy298
        clear hy298
        by_cases c10 : x3_1.length < 1954687338268
        ·rw [if_pos c10] at H
         have LMc10 := Aside0.mk c10
         clear c10
         obtain ⟨y303, hy303⟩ : ∃ y_ : List (S35), y_ = (x3_1 ++ [(⟨(rd_T35 l0 x4_1).f0, (rd_T35 l0 x4_1).f1, (rd_T35 l0 x4_1).f2, (rd_T35 l0 x4_1).f3, y298⟩ : S35)]) := ⟨_, rfl⟩
         replace H : (boltinglaw08_bound.l0 k1 l0 y303 (wrap64 (x4_1 + 1))) = some r := by first | (rw [hy303]; with_reducible exact H) | (have H2_ := (Option.bind_some _ _).symm.trans H; rw [hy303]; with_reducible exact H2_) | (have H2_ := (Option.bind_some _ _).symm.trans H; with_reducible exact H2_) | with_reducible exact H | (rw [hy303]; exact H) | exact H
         have Ny303 := Aside0.mk hy303
         clear hy303
         have H' := Aside0.mk H
         clear H
         have p296 : 0 ≤ (x4_1 : Int) := (by first | exact of_decide_eq_true (by first | (with_reducible assumption) | assumption) | assumption | omega)
         have q296 : x4_1 < (l0.length : Int) := (by first | exact of_decide_eq_true (by first | (with_reducible assumption) | assumption) | assumption | omega)
         obtain ⟨ad296, A296_4, c296_4, e296, hx296_0, hx296_1, hx296_2, hx296_3, hx296_4, hl296_4, hi296_4⟩ := at_T35 (Kd.V_reads' HO_0.out).2.2 x4_1 p296 q296
         cases e296
         obtain ⟨ce296, hce296, hMe296, hcc296⟩ := Kd.V_get HO_0.out z35 x4_1 p296 (by first | exact q296 | exact (by first | exact of_decide_eq_true (by first | (with_reducible assumption) | assumption) | assumption | omega) | (have e_ := (Kd.V_reads' HO_0.out).1; omega))
         obtain ⟨ua296_4, uc296_4, rfl, ul296_4, ge296_4⟩ := k35_openF hMe296
         have hv296_4 := hcc296 4 _ rfl
         rw [add_field _ _ 4 (by omega)] at hv296_4
         replace hv296_4 := Option.some.inj (hv296_4.symm.trans hx296_4)
         injection hv296_4 with hva_ hvn_ hvc_
         rw [hva_] at ge296_4
         rw [hvc_] at ul296_4
         have HL296_4 := Aside0.mk (show Kd.V k45 45 _ w.heap.size _ _ ((rd_T35 l0 x4_1).f4) from Kd.V_mk ul296_4 ge296_4)
         clear hva_ hvn_ hvc_ ge296_4 ul296_4
         clear hcc296 hce296
         have HR296_4 := Aside0.mk hi296_4
         have HC296_4 := Aside0.mk hl296_4
         clear hi296_4 hl296_4
         replace p296 := eq_true p296
         replace q296 := eq_true q296
         go_wp2_with (first | ((with_reducible refine gate_dst (N := 5) rfl ?_); refine box_event ?hg (N := 5) ?hd (cs := #[.int .i64 0, .int .i64 0, .string (⟨#[]⟩ : ByteArray), .string (⟨#[]⟩ : ByteArray), .slice none 0 0]) (t := 35) ?hr ?_; (case hd => rfl); (case hg => rfl); (case hr => first | (go_simp; done) | (go_simp; rfl)); intro gb297 hg w11 hbox hb; have n0_ := Aside0.mk (Kd.V_below (Kd.V_elderB (by (with_reducible repeat (first | apply Kd.V_alloc | apply Kd.V_drewN | apply Kd.V_drew)); exact HO_0.out) gb297 (Nat.le_of_eq hg.symm)) hb); have n1_ := Aside0.mk (Kd.N_below (Kd.N_elderB (nz HO_3.out) gb297 (Nat.le_of_eq hg.symm)) hb); have n2_ := Aside0.mk (Kd.V_below (Kd.V_elderB (by (with_reducible repeat (first | apply Kd.V_alloc | apply Kd.V_drewN | apply Kd.V_drew)); exact HL296_4.out) gb297 (Nat.le_of_eq hg.symm)) hb); have n3_ := Aside0.mk (Kd.C_below (by repeat (first | (with_reducible exact HR296_4.out) | (with_reducible refine Kd.C_alloc ?_ _) | (with_reducible refine Kd.C_drewN ?_ _) | (with_reducible refine Kd.C_drew ?_) | exact HR296_4.out)) hb); have n4_ := Aside0.mk (below_step bz hb); have n5_ := Aside0.mk (hbox); have n6_ := Aside0.mk ((by rw [hg]; exact (below_size bz) : w.heap.size ≤ gb297)); have n7_ := Aside0.mk ((by rw [hg]; exact (below_size bz) : w.heap.size ≤ gb297)); clear HO_0; clear HO_3; clear HL296_4; clear HR296_4; clear HB; have HO_0 := n0_; have HO_3 := n1_; have HL296_4 := n2_; have HR296_4 := n3_; have HB := n4_; have BK297 := n5_; have GW297 := n6_; have GE297 := n7_; clear n0_ n1_ n2_ n3_ n4_ n5_ n6_ n7_; clear hb hbox hg; have hcz12_0 : w11.cell? ⟨gb297, 0, none⟩ = some (.int .i64 0) := (blk_cell BK297.out 0).trans rfl; have hcz12_1 : w11.cell? ⟨gb297, 1, none⟩ = some (.int .i64 0) := (blk_cell BK297.out 1).trans rfl; have hcz12_2 : w11.cell? ⟨gb297, 2, none⟩ = some (.string (⟨#[]⟩ : ByteArray)) := (blk_cell BK297.out 2).trans rfl; have hcz12_3 : w11.cell? ⟨gb297, 3, none⟩ = some (.string (⟨#[]⟩ : ByteArray)) := (blk_cell BK297.out 3).trans rfl; have hcz12_4 : w11.cell? ⟨gb297, 4, none⟩ = some (.slice none 0 0) := (blk_cell BK297.out 4).trans rfl; have hfz12_0 := blk_frozen BK297.out 0; have hfz12_1 := blk_frozen BK297.out 1; have hfz12_2 := blk_frozen BK297.out 2; have hfz12_3 := blk_frozen BK297.out 3; have hfz12_4 := blk_frozen BK297.out 4) | ((with_reducible refine gate_store (t := 35) (p := 5) rfl ?_); refine store_event (t := 35) (p := 5) (v := ?vo_w13) (w1 := (((((w11.setCell ⟨gb297, 0, none⟩ (.int .i64 ((rd_T35 l0 x4_1).f0))).setCell ⟨gb297, 1, none⟩ (.int .i64 ((rd_T35 l0 x4_1).f1))).setCell ⟨gb297, 2, none⟩ (.string ((rd_T35 l0 x4_1).f2))).setCell ⟨gb297, 3, none⟩ (.string ((rd_T35 l0 x4_1).f3))).setCell ⟨gb297, 4, none⟩ (.slice A296_4 ((rd_T35 l0 x4_1).f4).length c296_4))) ?hg ?ho ?hn ?hr ?_; (case ho => rfl); (case hg => rfl); (case hn => rfl); (case hr => first | (go_simp; done) | (go_simp; rfl)); intro w13 hw; have n0_ : Aside0 (Kd.V k35 35 w13 w.heap.size (fun k_ => (P0_ k_ ∨ w.heap.size ≤ k_) ∧ some k_ ≠ (u3 : Value).ownBlock ∧ k_ ≠ gb297) (.slice (some ad296) l0.length c0) l0) := ⟨(by rw [hw]; exact (by (with_reducible repeat (first | apply Kd.V_alloc | apply Kd.V_drewN | apply Kd.V_drew)); exact Kd.V_mono (Kd.V_far (p := ⟨gb297, 4, none⟩) (Kd.V_far (p := ⟨gb297, 3, none⟩) (Kd.V_far (p := ⟨gb297, 2, none⟩) (Kd.V_far (p := ⟨gb297, 1, none⟩) (Kd.V_far (p := ⟨gb297, 0, none⟩) (Kd.V_mono HO_0.out (fun k_ hk => (⟨hk, hk.2⟩ : _ ∧ k_ ≠ gb297))) (fun _ hk => hk.2) (.int .i64 ((rd_T35 l0 x4_1).f0))) (fun _ hk => hk.2) (.int .i64 ((rd_T35 l0 x4_1).f1))) (fun _ hk => hk.2) (.string ((rd_T35 l0 x4_1).f2))) (fun _ hk => hk.2) (.string ((rd_T35 l0 x4_1).f3))) (fun _ hk => hk.2) (.slice A296_4 ((rd_T35 l0 x4_1).f4).length c296_4)) (fun _ hk => ⟨hk.1.1.1, ⟨hk.1.1.2, hk.1.2⟩⟩)))⟩; have n1_ : Aside0 (Kd.N k35 35 w13 w.heap.size (fun k_ => (P0_ k_ ∨ w.heap.size ≤ k_) ∧ k_ ≠ gb297) u3 x3_1) := ⟨(by rw [hw]; exact (by (with_reducible repeat (first | apply Kd.N_alloc | apply Kd.N_drewN | apply Kd.N_drew)); exact Kd.N_mono (Kd.N_far (p := ⟨gb297, 4, none⟩) (Kd.N_far (p := ⟨gb297, 3, none⟩) (Kd.N_far (p := ⟨gb297, 2, none⟩) (Kd.N_far (p := ⟨gb297, 1, none⟩) (Kd.N_far (p := ⟨gb297, 0, none⟩) (Kd.N_mono HO_3.out (fun k_ hk => (⟨hk, hk.2⟩ : _ ∧ k_ ≠ gb297))) (fun _ hk => hk.2) (.int .i64 ((rd_T35 l0 x4_1).f0))) (fun _ hk => hk.2) (.int .i64 ((rd_T35 l0 x4_1).f1))) (fun _ hk => hk.2) (.string ((rd_T35 l0 x4_1).f2))) (fun _ hk => hk.2) (.string ((rd_T35 l0 x4_1).f3))) (fun _ hk => hk.2) (.slice A296_4 ((rd_T35 l0 x4_1).f4).length c296_4)) (fun _ hk => ⟨hk.1.1, hk.1.2⟩)))⟩; have n2_ : Aside0 (Kd.V k45 45 w13 w.heap.size (fun k_ => (P0_ k_ ∨ w.heap.size ≤ k_) ∧ some k_ ≠ (u3 : Value).ownBlock ∧ k_ ≠ gb297) (.slice A296_4 ((rd_T35 l0 x4_1).f4).length c296_4) ((rd_T35 l0 x4_1).f4)) := ⟨(by rw [hw]; exact (by (with_reducible repeat (first | apply Kd.V_alloc | apply Kd.V_drewN | apply Kd.V_drew)); exact Kd.V_mono (Kd.V_far (p := ⟨gb297, 4, none⟩) (Kd.V_far (p := ⟨gb297, 3, none⟩) (Kd.V_far (p := ⟨gb297, 2, none⟩) (Kd.V_far (p := ⟨gb297, 1, none⟩) (Kd.V_far (p := ⟨gb297, 0, none⟩) (Kd.V_mono HL296_4.out (fun k_ hk => (⟨hk, hk.2⟩ : _ ∧ k_ ≠ gb297))) (fun _ hk => hk.2) (.int .i64 ((rd_T35 l0 x4_1).f0))) (fun _ hk => hk.2) (.int .i64 ((rd_T35 l0 x4_1).f1))) (fun _ hk => hk.2) (.string ((rd_T35 l0 x4_1).f2))) (fun _ hk => hk.2) (.string ((rd_T35 l0 x4_1).f3))) (fun _ hk => hk.2) (.slice A296_4 ((rd_T35 l0 x4_1).f4).length c296_4)) (fun _ hk => ⟨hk.1.1.1, ⟨hk.1.1.2, hk.1.2⟩⟩)))⟩; have n3_ : Aside0 (w13.heap[gb297]? = some (.cells #[.int .i64 ((rd_T35 l0 x4_1).f0), .int .i64 ((rd_T35 l0 x4_1).f1), .string ((rd_T35 l0 x4_1).f2), .string ((rd_T35 l0 x4_1).f3), .slice A296_4 ((rd_T35 l0 x4_1).f4).length c296_4] 35 (0, 0))) := ⟨(by rw [hw]; exact (by (with_reducible repeat (first | refine blk_drewN ?_ _ | refine blk_drew ?_ | refine blk_alloc ?_ _)); refine blk_put (cs := #[.int .i64 ((rd_T35 l0 x4_1).f0), .int .i64 ((rd_T35 l0 x4_1).f1), .string ((rd_T35 l0 x4_1).f2), .string ((rd_T35 l0 x4_1).f3), .slice none 0 0]) ?_ 4 _ rfl; (with_reducible repeat (first | refine blk_drewN ?_ _ | refine blk_drew ?_ | refine blk_alloc ?_ _)); refine blk_put (cs := #[.int .i64 ((rd_T35 l0 x4_1).f0), .int .i64 ((rd_T35 l0 x4_1).f1), .string ((rd_T35 l0 x4_1).f2), .string (⟨#[]⟩ : ByteArray), .slice none 0 0]) ?_ 3 _ rfl; (with_reducible repeat (first | refine blk_drewN ?_ _ | refine blk_drew ?_ | refine blk_alloc ?_ _)); refine blk_put (cs := #[.int .i64 ((rd_T35 l0 x4_1).f0), .int .i64 ((rd_T35 l0 x4_1).f1), .string (⟨#[]⟩ : ByteArray), .string (⟨#[]⟩ : ByteArray), .slice none 0 0]) ?_ 2 _ rfl; (with_reducible repeat (first | refine blk_drewN ?_ _ | refine blk_drew ?_ | refine blk_alloc ?_ _)); refine blk_put (cs := #[.int .i64 ((rd_T35 l0 x4_1).f0), .int .i64 0, .string (⟨#[]⟩ : ByteArray), .string (⟨#[]⟩ : ByteArray), .slice none 0 0]) ?_ 1 _ rfl; (with_reducible repeat (first | refine blk_drewN ?_ _ | refine blk_drew ?_ | refine blk_alloc ?_ _)); refine blk_put (cs := #[.int .i64 0, .int .i64 0, .string (⟨#[]⟩ : ByteArray), .string (⟨#[]⟩ : ByteArray), .slice none 0 0]) ?_ 0 _ rfl; (with_reducible repeat (first | refine blk_drewN ?_ _ | refine blk_drew ?_ | refine blk_alloc ?_ _)); exact BK297.out))⟩; have n4_ : Aside0 (Below w.heap.size w w13) := ⟨(by rw [hw]; exact (bs GE297.out))⟩; clear hw; clear HO_0; clear HO_3; clear HL296_4; clear BK297; clear HB; have HO_0 := n0_; have HO_3 := n1_; have HL296_4 := n2_; have BK297 := n3_; have HB := n4_; clear n0_ n1_ n2_ n3_ n4_; have hcz14_0 : w13.cell? ⟨gb297, 0, none⟩ = some (.int .i64 ((rd_T35 l0 x4_1).f0)) := (blk_cell BK297.out 0).trans rfl; have hcz14_1 : w13.cell? ⟨gb297, 1, none⟩ = some (.int .i64 ((rd_T35 l0 x4_1).f1)) := (blk_cell BK297.out 1).trans rfl; have hcz14_2 : w13.cell? ⟨gb297, 2, none⟩ = some (.string ((rd_T35 l0 x4_1).f2)) := (blk_cell BK297.out 2).trans rfl; have hcz14_3 : w13.cell? ⟨gb297, 3, none⟩ = some (.string ((rd_T35 l0 x4_1).f3)) := (blk_cell BK297.out 3).trans rfl; have hcz14_4 : w13.cell? ⟨gb297, 4, none⟩ = some (.slice A296_4 ((rd_T35 l0 x4_1).f4).length c296_4) := (blk_cell BK297.out 4).trans rfl; have hfz14_0 := blk_frozen BK297.out 0; have hfz14_1 := blk_frozen BK297.out 1; have hfz14_2 := blk_frozen BK297.out 2; have hfz14_3 := blk_frozen BK297.out 3; have hfz14_4 := blk_frozen BK297.out 4; have q15 : ((ji7) : Int) ≤ ((((rd_T35 l0 x4_1).f4).length : Int) : Int) := (by first | exact of_decide_eq_true (by first | (with_reducible assumption) | assumption) | assumption | omega); obtain ⟨i015, hi015, _, hsz15, _⟩ := info_parts info45; have hroom15 : ((rd_T35 l0 x4_1).f4).length ≤ c296_4 := HC296_4.out; have hC15 : Kd.F k45 _ _ A296_4 ((rd_T35 l0 x4_1).f4).length ((rd_T35 l0 x4_1).f4) := (Kd.V_at (base := w.heap.size) HL296_4.out).2.2; have hcut15 := cut_to (P := Tryd.prog) 33 45 .i64 Tryd.underlying33 hi015 A296_4 ((rd_T35 l0 x4_1).f4).length c296_4 (ji7) ((by first | exact of_decide_eq_true (by first | (with_reducible assumption) | assumption) | assumption | omega)) q15 hroom15; have hr15 := Kd.F_take (m := ((ji7) : Int).toNat) hC15 (by omega); have hy15 : y298.length = ((ji7) : Int).toNat := (by rw [Ny298.out, List.length_take]; omega); rw [← Ny298.out] at hr15; rw [← hy15] at hcut15; have HO302 := Aside0.mk (show Kd.V k45 45 _ w.heap.size _ (.slice A296_4 y298.length c296_4) y298 from Kd.V_mk (by omega) hr15); have HC302 := Aside0.mk (show y298.length ≤ c296_4 from by omega); clear hr15 hC15 hroom15 hi015 hsz15; have KY15 := Aside0.mk hy15; clear hy15; replace q15 := eq_true q15) | ((with_reducible refine gate_store (t := 33) (p := 28) rfl ?_); refine store_event (t := 33) (p := 28) (v := ?vo_w16) (w1 := (w13.setCell ⟨gb297, 4, none⟩ (.slice A296_4 y298.length c296_4))) ?hg ?ho ?hn ?hr ?_; (case ho => rfl); (case hg => rfl); (case hn => rfl); (case hr => first | (go_simp; done) | (go_simp; rfl)); intro w16 hw; have n0_ : Aside0 (Kd.V k35 35 w16 w.heap.size (fun k_ => (P0_ k_ ∨ w.heap.size ≤ k_) ∧ some k_ ≠ (u3 : Value).ownBlock ∧ k_ ≠ gb297) (.slice (some ad296) l0.length c0) l0) := ⟨(by rw [hw]; exact (by (with_reducible repeat (first | apply Kd.V_alloc | apply Kd.V_drewN | apply Kd.V_drew)); exact Kd.V_mono (Kd.V_far (p := ⟨gb297, 4, none⟩) (Kd.V_mono HO_0.out (fun k_ hk => (⟨hk, hk.2.2⟩ : _ ∧ k_ ≠ gb297))) (fun _ hk => hk.2) (.slice A296_4 y298.length c296_4)) (fun _ hk => ⟨hk.1.1, ⟨hk.1.2.1, hk.1.2.2⟩⟩)))⟩; have n1_ : Aside0 (Kd.N k35 35 w16 w.heap.size (fun k_ => (P0_ k_ ∨ w.heap.size ≤ k_) ∧ k_ ≠ gb297) u3 x3_1) := ⟨(by rw [hw]; exact (by (with_reducible repeat (first | apply Kd.N_alloc | apply Kd.N_drewN | apply Kd.N_drew)); exact Kd.N_mono (Kd.N_far (p := ⟨gb297, 4, none⟩) (Kd.N_mono HO_3.out (fun k_ hk => (⟨hk, hk.2⟩ : _ ∧ k_ ≠ gb297))) (fun _ hk => hk.2) (.slice A296_4 y298.length c296_4)) (fun _ hk => ⟨hk.1.1, hk.1.2⟩)))⟩; have n2_ : Aside0 (Kd.V k45 45 w16 w.heap.size (fun k_ => (P0_ k_ ∨ w.heap.size ≤ k_) ∧ some k_ ≠ (u3 : Value).ownBlock ∧ k_ ≠ gb297) (.slice A296_4 ((rd_T35 l0 x4_1).f4).length c296_4) ((rd_T35 l0 x4_1).f4)) := ⟨(by rw [hw]; exact (by (with_reducible repeat (first | apply Kd.V_alloc | apply Kd.V_drewN | apply Kd.V_drew)); exact Kd.V_mono (Kd.V_far (p := ⟨gb297, 4, none⟩) (Kd.V_mono HL296_4.out (fun k_ hk => (⟨hk, hk.2.2⟩ : _ ∧ k_ ≠ gb297))) (fun _ hk => hk.2) (.slice A296_4 y298.length c296_4)) (fun _ hk => ⟨hk.1.1, ⟨hk.1.2.1, hk.1.2.2⟩⟩)))⟩; have n3_ : Aside0 (Kd.V k45 45 w16 w.heap.size (fun k_ => (P0_ k_ ∨ w.heap.size ≤ k_) ∧ some k_ ≠ (u3 : Value).ownBlock ∧ k_ ≠ gb297) (.slice A296_4 y298.length c296_4) y298) := ⟨(by rw [hw]; exact (by (with_reducible repeat (first | apply Kd.V_alloc | apply Kd.V_drewN | apply Kd.V_drew)); exact Kd.V_mono (Kd.V_far (p := ⟨gb297, 4, none⟩) (Kd.V_mono HO302.out (fun k_ hk => (⟨hk, hk.2.2⟩ : _ ∧ k_ ≠ gb297))) (fun _ hk => hk.2) (.slice A296_4 y298.length c296_4)) (fun _ hk => ⟨hk.1.1, ⟨hk.1.2.1, hk.1.2.2⟩⟩)))⟩; have n4_ : Aside0 (w16.heap[gb297]? = some (.cells #[.int .i64 ((rd_T35 l0 x4_1).f0), .int .i64 ((rd_T35 l0 x4_1).f1), .string ((rd_T35 l0 x4_1).f2), .string ((rd_T35 l0 x4_1).f3), .slice A296_4 y298.length c296_4] 35 (0, 0))) := ⟨(by rw [hw]; exact (by (with_reducible repeat (first | refine blk_drewN ?_ _ | refine blk_drew ?_ | refine blk_alloc ?_ _)); refine blk_put (cs := #[.int .i64 ((rd_T35 l0 x4_1).f0), .int .i64 ((rd_T35 l0 x4_1).f1), .string ((rd_T35 l0 x4_1).f2), .string ((rd_T35 l0 x4_1).f3), .slice A296_4 ((rd_T35 l0 x4_1).f4).length c296_4]) ?_ 4 _ rfl; (with_reducible repeat (first | refine blk_drewN ?_ _ | refine blk_drew ?_ | refine blk_alloc ?_ _)); exact BK297.out))⟩; have n5_ : Aside0 (Below w.heap.size w w16) := ⟨(by rw [hw]; exact (bs GE297.out))⟩; clear hw; clear HO_0; clear HO_3; clear HL296_4; clear HO302; clear BK297; clear HB; have HO_0 := n0_; have HO_3 := n1_; have HL296_4 := n2_; have HO302 := n3_; have BK297 := n4_; have HB := n5_; clear n0_ n1_ n2_ n3_ n4_ n5_; have hcz17_0 : w16.cell? ⟨gb297, 0, none⟩ = some (.int .i64 ((rd_T35 l0 x4_1).f0)) := (blk_cell BK297.out 0).trans rfl; have hcz17_1 : w16.cell? ⟨gb297, 1, none⟩ = some (.int .i64 ((rd_T35 l0 x4_1).f1)) := (blk_cell BK297.out 1).trans rfl; have hcz17_2 : w16.cell? ⟨gb297, 2, none⟩ = some (.string ((rd_T35 l0 x4_1).f2)) := (blk_cell BK297.out 2).trans rfl; have hcz17_3 : w16.cell? ⟨gb297, 3, none⟩ = some (.string ((rd_T35 l0 x4_1).f3)) := (blk_cell BK297.out 3).trans rfl; have hcz17_4 : w16.cell? ⟨gb297, 4, none⟩ = some (.slice A296_4 y298.length c296_4) := (blk_cell BK297.out 4).trans rfl; have hfz17_0 := blk_frozen BK297.out 0; have hfz17_1 := blk_frozen BK297.out 1; have hfz17_2 := blk_frozen BK297.out 2; have hfz17_3 := blk_frozen BK297.out 3; have hfz17_4 := blk_frozen BK297.out 4) | ((with_reducible refine gate_builtin (b := .append) (xs := #[.tmp 29, .tmp 31]) rfl ?_); at_builtin; refine Kd.N_append k35 (w0 := w) w.heap.size rfl (.tmp 29) (.tmp 31) 22 35 (.agg #[(.int .i64 0), (.int .i64 0), (.string ⟨#[]⟩), (.string ⟨#[]⟩), (.slice none 0 0)]) 72 rfl Tryd.underlying22 info35 rfl (by decide) (by omega) u3 x3_1 (⟨(rd_T35 l0 x4_1).f0, (rd_T35 l0 x4_1).f1, (rd_T35 l0 x4_1).f2, (rd_T35 l0 x4_1).f3, y298⟩ : S35) [.int .i64 ((rd_T35 l0 x4_1).f0), .int .i64 ((rd_T35 l0 x4_1).f1), .string ((rd_T35 l0 x4_1).f2), .string ((rd_T35 l0 x4_1).f3), .slice A296_4 y298.length c296_4] (fun k_ => (P0_ k_ ∨ w.heap.size ≤ k_) ∧ k_ ≠ gb297) (fun k_ => ((fun k_ => (P0_ k_ ∨ w.heap.size ≤ k_) ∧ k_ ≠ gb297)) k_ ∧ some k_ ≠ (u3 : Value).ownBlock) rfl rfl ?aP (fun _ hk => hk) ?aF ?aO ?aB ?aS ?aL ?_; (case aP => exact (k35_mkF _ _ (⟨(rd_T35 l0 x4_1).f0, (rd_T35 l0 x4_1).f1, (rd_T35 l0 x4_1).f2, (rd_T35 l0 x4_1).f3, y298⟩ : S35) (Kd.V_reads' (Kd.V_mono (ok' := (fun k_ => ((fun k_ => (P0_ k_ ∨ w.heap.size ≤ k_) ∧ k_ ≠ gb297)) k_ ∧ some k_ ≠ (u3 : Value).ownBlock)) (HO302.out) (fun k_ hk => ⟨⟨hk.1, hk.2.2⟩, hk.2.1⟩))).2.1 (Kd.V_F (Kd.V_mono (ok' := (fun k_ => ((fun k_ => (P0_ k_ ∨ w.heap.size ≤ k_) ∧ k_ ≠ gb297)) k_ ∧ some k_ ≠ (u3 : Value).ownBlock)) (HO302.out) (fun k_ hk => ⟨⟨hk.1, hk.2.2⟩, hk.2.1⟩))))); (case aB => exact (bs GE297.out)); (case aF => exact (fun k_ hk => ⟨(.inr (Nat.le_trans (below_size (bs GE297.out)) hk)), Kd.freshB (g := gb297) (o := .cells #[.int .i64 ((rd_T35 l0 x4_1).f0), .int .i64 ((rd_T35 l0 x4_1).f1), .string ((rd_T35 l0 x4_1).f2), .string ((rd_T35 l0 x4_1).f3), .slice A296_4 y298.length c296_4] 35 (0, 0)) (kz BK297.out) k_ hk⟩)); (case aO => exact (nz HO_3.out)); (case aS => exact (below_size (bs GE297.out))); (case aL => have := LMc10.out; omega); intro v304 w18 ho hb hg hat; rw [← Ny303.out] at ho; have n0_ := Aside0.mk (Kd.V_afterv (ok := (fun k_ => (P0_ k_ ∨ w.heap.size ≤ k_) ∧ k_ ≠ gb297)) (by (with_reducible repeat (first | apply Kd.V_alloc | apply Kd.V_drewN | apply Kd.V_drew)); exact Kd.V_mono HO_0.out (fun _ hk => ⟨⟨hk.1, hk.2.2⟩, hk.2.1⟩)) hg hat); have n1_ := Aside0.mk (Kd.V_afterv (ok := (fun k_ => (P0_ k_ ∨ w.heap.size ≤ k_) ∧ k_ ≠ gb297)) (by (with_reducible repeat (first | apply Kd.V_alloc | apply Kd.V_drewN | apply Kd.V_drew)); exact Kd.V_mono HL296_4.out (fun _ hk => ⟨⟨hk.1, hk.2.2⟩, hk.2.1⟩)) hg hat); have n2_ := Aside0.mk (blk_grown (g := gb297) (o := .cells #[.int .i64 ((rd_T35 l0 x4_1).f0), .int .i64 ((rd_T35 l0 x4_1).f1), .string ((rd_T35 l0 x4_1).f2), .string ((rd_T35 l0 x4_1).f3), .slice A296_4 y298.length c296_4] 35 (0, 0)) (kz BK297.out) hg (Kd.N_away HO_3.out (fun _ hk => hk.2))); have n3_ := Aside0.mk (Kd.V_afterv (ok := (fun k_ => (P0_ k_ ∨ w.heap.size ≤ k_) ∧ k_ ≠ gb297)) (by (with_reducible repeat (first | apply Kd.V_alloc | apply Kd.V_drewN | apply Kd.V_drew)); exact Kd.V_mono HO302.out (fun _ hk => ⟨⟨hk.1, hk.2.2⟩, hk.2.1⟩)) hg hat); have n4_ := Aside0.mk (hb); have n5_ := Aside0.mk (ho); clear HO_0; clear HL296_4; clear BK297; clear HO302; clear HB; clear HO_3; have HO_0 := n0_; have HL296_4 := n1_; have BK297 := n2_; have HO302 := n3_; have HB := n4_; have HO305 := n5_; clear n0_ n1_ n2_ n3_ n4_ n5_; clear ho hb hg hat))
         go_roundg k1
         case measure => have := HK1.out; omega
         case rel => exact ⟨(y303), (wrap64 (x4_1 + 1)), (by first | rfl | (simp; done) | (simp [*]; done) | (simp; generalize ByteArray.toList _ = l_; cases l_ <;> rfl)), H', ⟨by have := HK1.out; omega⟩, ⟨by (with_reducible repeat (first | apply Kd.V_alloc | apply Kd.V_drewN | apply Kd.V_drew)); exact Kd.V_mono HO_0.out (fun _ hk => ⟨hk.1.1, hk.2⟩)⟩, ⟨by (with_reducible repeat (first | apply Kd.N_alloc | apply Kd.N_drewN | apply Kd.N_drew)); exact Kd.N_mono HO305.out (fun _ hk => hk.1)⟩, ⟨bs GE297.out⟩⟩
        ·rw [if_neg c10] at H
         exact absurd H (by simp)
       ·rw [if_neg c9] at H
        exact absurd H (by simp)
      ·rw [if_neg c8] at H
       exact absurd H (by simp)
     ·rw [if_neg c6] at H
      exact absurd H (by simp)
    ·rw [if_neg c5] at H
     have c5b0 : decide (x4_1 < 40) = false := decide_eq_false c5
     clear c5
     obtain rfl := Option.some.inj H
     go_wp2
     go_ret
     exact ⟨_, by first | rfl | (simp [errW_none, errW_some] <;> rfl) | (simp [*, errW_none, errW_some] <;> rfl), by (with_reducible repeat (first | apply Kd.N_alloc | apply Kd.N_drewN | apply Kd.N_drew)); exact HO_3.out, bz⟩
   ·rw [if_neg c4] at H
    have c4b0 : decide (x4_1 < (l0.length : Int)) = false := decide_eq_false c4
    clear c4
    obtain rfl := Option.some.inj H
    go_wp2
    go_ret
    exact ⟨_, by first | rfl | (simp [errW_none, errW_some] <;> rfl) | (simp [*, errW_none, errW_some] <;> rfl), by (with_reducible repeat (first | apply Kd.N_alloc | apply Kd.N_drewN | apply Kd.N_drew)); exact HO_3.out, bz⟩
end Go.Proofs.YtdnbaliibiginaaDoorH.W8

/- Words and walks used below. -/
namespace Go.Proofs.YtdnbaliibiginaaDoorH.W8
open Go.RowKit Go.Proofs.YtdnbaliibiginaaDoorW.PrintWords Go.Proofs.YtdnbaliibiginaaDoorW.PrintLast Go.Proofs.YtdnbaliibiginaaDoorW.PrintMore
attribute [local go_sem] max2_int min2_int max_two min_two max_three min_three max_four min_four   -- for this text's walks alone
def boltinglaw08_one.f (a0 : ByteArray) (a1 : ByteArray) : Option ((List (S35))) := some (([(⟨0, 0, a0, (⟨#[]⟩ : ByteArray), ([] : List (S45))⟩ : S35), (⟨1, 1, (⟨#[]⟩ : ByteArray), a1, ([] : List (S45))⟩ : S35)] : List (S35)))
set_option maxHeartbeats 8000000 in
set_option maxRecDepth 100000 in
theorem boltinglaw08_one.calls (a0 : ByteArray) (a1 : ByteArray) (r : List (S35)) (w : World) (h : boltinglaw08_one.f a0 a1 = some r) :
  Calls Tryd.prog 24 #[.string a0, .string a1] w fun e w' => ∃ v0_ : Value, e = .returned (v0_) ∧ Kd.R k35 35 w' w.heap.size (fun _ => True) v0_ r ∧ Below w.heap.size w w' := by
 have hu35 := Tryd.underlying35
 have HB := Aside0.mk (Below.refl w.heap.size w)
 have H : (some (([(⟨0, 0, a0, (⟨#[]⟩ : ByteArray), ([] : List (S45))⟩ : S35), (⟨1, 1, (⟨#[]⟩ : ByteArray), a1, ([] : List (S45))⟩ : S35)] : List (S35)))) = some r := h
 clear h
 obtain ⟨y145, hy145⟩ : ∃ y_ : List (S35), y_ = (([(⟨0, 0, a0, (⟨#[]⟩ : ByteArray), ([] : List (S45))⟩ : S35), (⟨1, 1, (⟨#[]⟩ : ByteArray), a1, ([] : List (S45))⟩ : S35)] : List (S35))) := ⟨_, rfl⟩
 replace H : (some y145) = some r := by first | (rw [hy145]; with_reducible exact H) | (have H2_ := (Option.bind_some _ _).symm.trans H; rw [hy145]; with_reducible exact H2_) | (have H2_ := (Option.bind_some _ _).symm.trans H; with_reducible exact H2_) | with_reducible exact H | (rw [hy145]; exact H) | exact H
 have Ny145 := Aside0.mk hy145
 clear hy145
 obtain rfl := Option.some.inj H
 go_enter Tryd.func24, Tryd.ntmps24
 go_wp2_with (first | ((with_reducible refine gate_dst (N := 9) rfl ?_); refine Kd.R_lit k35 _ 35 ?hg (N := 9) ?hd (xs := ([(⟨0, 0, a0, (⟨#[]⟩ : ByteArray), ([] : List (S45))⟩ : S35), (⟨1, 1, (⟨#[]⟩ : ByteArray), a1, ([] : List (S45))⟩ : S35)] : List (S35))) (inner := [.int .i64 0, .int .i64 0, .string a0, .string (⟨#[]⟩ : ByteArray), .slice none 0 0, .int .i64 1, .int .i64 1, .string (⟨#[]⟩ : ByteArray), .string a1, .slice none 0 0]) (ok := fun _ => True) (okp := fun _ => True) ?hr ?hp (fun _ hk => hk) trivial (Below.refl _ _) (Nat.le_refl _) (by simp) ?_; (case hd => rfl); (case hg => rfl); (case hr => first | (go_simp; done) | (go_simp; rfl)); (case hp => exact (Reps.c5 (show Kd.M k35 _ _ _ (⟨0, 0, a0, (⟨#[]⟩ : ByteArray), ([] : List (S45))⟩ : S35) [.int .i64 0, .int .i64 0, .string a0, .string (⟨#[]⟩ : ByteArray), .slice none 0 0] from (k35_mkM _ _ _ (⟨0, 0, a0, (⟨#[]⟩ : ByteArray), ([] : List (S45))⟩ : S35) (Kd.R_nil _ _ _ _ _))) (Reps.c5 (show Kd.M k35 _ _ _ (⟨1, 1, (⟨#[]⟩ : ByteArray), a1, ([] : List (S45))⟩ : S35) [.int .i64 1, .int .i64 1, .string (⟨#[]⟩ : ByteArray), .string a1, .slice none 0 0] from (k35_mkM _ _ _ (⟨1, 1, (⟨#[]⟩ : ByteArray), a1, ([] : List (S45))⟩ : S35) (Kd.R_nil _ _ _ _ _))) (Reps.none _ _)))); intro v146 w3 ho4 hb hg_ hnew_; clear hg_ hnew_; (first | rw [← Ny145.out] at ho4 | (simp only [Int.reduceToNat] at ho4; rw [← Ny145.out] at ho4)); have n0_ := Aside0.mk (Kd.R_lower ho4 (below_size bz)); have n1_ := Aside0.mk (below_step bz hb); clear HB; have HO147 := n0_; have HB := n1_; clear n0_ n1_; clear hb ho4))
 go_ret
 exact ⟨_, by first | rfl | (simp [errW_none, errW_some] <;> rfl) | (simp [*, errW_none, errW_some] <;> rfl), by (with_reducible repeat (first | apply Kd.R_alloc | apply Kd.R_drewN | apply Kd.R_drew)); exact HO147.out, bz⟩
end Go.Proofs.YtdnbaliibiginaaDoorH.W8
