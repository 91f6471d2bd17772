/- Lemmas and walks, part 18: QPW7x26, QPW7x27, QW7A, QKOpn, QKOp7, QR8A. -/
import Derived.Test.YtkcmghlhpbepcaaGreatDoorN73
import Derived.Test.YtkcmghlhpbepcaaGreatDoorN714
import Derived.Test.YtkcmghlhpbepcaaGreatDoorN716
import Derived.Test.YtkcmghlhpbepcaaGreatDoorN717
import Derived.Test.YtkcmghlhpbepcaaGreatDoorN710
import Derived.Test.YtkcmghlhpbepcaaGreatDoorRows
import Derived.Test.YtkcmghlhpbepcaaGreatDoorN71
import Derived.WalkKit
import Derived.ProofKit
import Derived.OpenShut
import Derived.ChangeArms
import Derived.Test.YtkcmghlhpbepcaaGreatDoorN79
set_option linter.unusedVariables false
set_option linter.unusedSimpArgs false

/- Words and walks used below. -/
namespace Go.Proofs.YtkcmghlhpbepcaaGreatDoorH.W7
open Go.RowKit Go.Proofs.YtkcmghlhpbepcaaGreatDoorW.PrintWords Go.Proofs.YtkcmghlhpbepcaaGreatDoorW.PrintLast Go.Proofs.YtkcmghlhpbepcaaGreatDoorW.PrintMore
attribute [local go_sem] max2_int min2_int max_two min_two max_three min_three max_four min_four   -- for this text's walks alone
def boltingref07_opened.f (k : Nat) (l0 : List ByteArray) (a1 : ByteArray) : Option (List ByteArray) := (boltingref05_Closes.f k a1).bind fun t288 => ((boltingref05_Walls.f k a1).bind fun t291 => ((boltingref07_closed.f k l0 t288 t291).bind fun t294 => ((boltingref07_para.f a1).bind fun t297 => (if t297 = true then ((boltingref05_Walls.f k (⟨#[112]⟩ : ByteArray)).bind fun t301 => ((boltingref07_closed.f k t294 (([(⟨#[112]⟩ : ByteArray)] : List ByteArray)) t301).bind fun t304 => (some t304))) else (some t294)))))
set_option maxHeartbeats 8000000 in
set_option maxRecDepth 100000 in
theorem boltingref07_opened.calls (k : Nat) (A0 : Option Addr) (c0 : Nat) (l0 : List ByteArray) (a1 : ByteArray) (r : List ByteArray) (w : World) (hr0 : Kd.C Kd.string w A0 l0.length l0) (hc0 : l0.length ≤ c0) (h : boltingref07_opened.f k l0 a1 = some r) :
 Calls Tryz.prog 63 #[.slice A0 l0.length c0, .string a1] w fun e w' => ∃ v0_ : Value, e = .returned (v0_) ∧ Kd.R Kd.string 9 w' w.heap.size (fun _ => True) v0_ r ∧ Below w.heap.size w w' := by
 have HR0 := Aside0.mk hr0
 have HC0 := Aside0.mk hc0
 clear hr0 hc0
 have HB := Aside0.mk (Below.refl w.heap.size w)
 have H : ((boltingref05_Closes.f k a1).bind fun t288 => ((boltingref05_Walls.f k a1).bind fun t291 => ((boltingref07_closed.f k l0 t288 t291).bind fun t294 => ((boltingref07_para.f a1).bind fun t297 => (if t297 = true then ((boltingref05_Walls.f k (⟨#[112]⟩ : ByteArray)).bind fun t301 => ((boltingref07_closed.f k t294 (([(⟨#[112]⟩ : ByteArray)] : List ByteArray)) t301).bind fun t304 => (some t304))) else (some t294)))))) = some r := h
 clear h
 replace H := Option.bind_eq_some_iff.mp H
 obtain ⟨t288, A30, H⟩ := H
 replace H : ((boltingref05_Walls.f k a1).bind fun t291 => ((boltingref07_closed.f k l0 t288 t291).bind fun t294 => ((boltingref07_para.f a1).bind fun t297 => (if t297 = true then ((boltingref05_Walls.f k (⟨#[112]⟩ : ByteArray)).bind fun t301 => ((boltingref07_closed.f k t294 (([(⟨#[112]⟩ : ByteArray)] : List ByteArray)) t301).bind fun t304 => (some t304))) else (some t294))))) = some r := H
 have A3 := Aside0.mk A30
 clear A30
 replace H := Option.bind_eq_some_iff.mp H
 obtain ⟨t291, A40, H⟩ := H
 replace H : ((boltingref07_closed.f k l0 t288 t291).bind fun t294 => ((boltingref07_para.f a1).bind fun t297 => (if t297 = true then ((boltingref05_Walls.f k (⟨#[112]⟩ : ByteArray)).bind fun t301 => ((boltingref07_closed.f k t294 (([(⟨#[112]⟩ : ByteArray)] : List ByteArray)) t301).bind fun t304 => (some t304))) else (some t294)))) = some r := H
 have A4 := Aside0.mk A40
 clear A40
 replace H := Option.bind_eq_some_iff.mp H
 obtain ⟨t294, A50, H⟩ := H
 replace H : ((boltingref07_para.f a1).bind fun t297 => (if t297 = true then ((boltingref05_Walls.f k (⟨#[112]⟩ : ByteArray)).bind fun t301 => ((boltingref07_closed.f k t294 (([(⟨#[112]⟩ : ByteArray)] : List ByteArray)) t301).bind fun t304 => (some t304))) else (some t294))) = some r := H
 have A5 := Aside0.mk A50
 clear A50
 replace H := Option.bind_eq_some_iff.mp H
 obtain ⟨t297, A60, H⟩ := H
 replace H : (if t297 = true then ((boltingref05_Walls.f k (⟨#[112]⟩ : ByteArray)).bind fun t301 => ((boltingref07_closed.f k t294 (([(⟨#[112]⟩ : ByteArray)] : List ByteArray)) t301).bind fun t304 => (some t304))) else (some t294)) = some r := H
 have A6 := Aside0.mk A60
 clear A60
 by_cases c7 : t297 = true
 ·subst c7
  have H1 : ((boltingref05_Walls.f k (⟨#[112]⟩ : ByteArray)).bind fun t301 => ((boltingref07_closed.f k t294 (([(⟨#[112]⟩ : ByteArray)] : List ByteArray)) t301).bind fun t304 => (some t304))) = some r := by rw [if_pos rfl] at H; exact H
  clear H
  have H := H1
  clear H1
  obtain ⟨y298, hy298⟩ : ∃ y_ : List ByteArray, y_ = (([(⟨#[112]⟩ : ByteArray)] : List ByteArray)) := ⟨_, rfl⟩
  replace H : ((boltingref05_Walls.f k (⟨#[112]⟩ : ByteArray)).bind fun t301 => ((boltingref07_closed.f k t294 y298 t301).bind fun t304 => (some t304))) = some r := by first | (rw [hy298]; with_reducible exact H) | (have H2_ := (Option.bind_some _ _).symm.trans H; rw [hy298]; with_reducible exact H2_) | (have H2_ := (Option.bind_some _ _).symm.trans H; with_reducible exact H2_) | with_reducible exact H | (rw [hy298]; exact H) | exact H
  have Ny298 := Aside0.mk hy298
  clear hy298
  replace H := Option.bind_eq_some_iff.mp H
  obtain ⟨t301, A80, H⟩ := H
  replace H : ((boltingref07_closed.f k t294 y298 t301).bind fun t304 => (some t304)) = some r := H
  have A8 := Aside0.mk A80
  clear A80
  replace H := Option.bind_eq_some_iff.mp H
  obtain ⟨t304, A90, H⟩ := H
  replace H : (some t304) = some r := H
  have A9 := Aside0.mk A90
  clear A90
  obtain rfl := Option.some.inj H
  go_enter Tryz.func63, Tryz.ntmps63
  go_wp2_with (first | ((with_reducible refine gate_callee (f := 107) rfl ?_); refine goesL_ (some 7) rfl rfl Tryz.func107 (by kernel_rfl) rfl #[.string a1] rfl (by (try simp only [List.map_toArray, List.map_cons, List.map_nil]); first | done | rfl | (simp only [List.length_drop, List.length_take]; rfl)) ?_; (with_reducible refine (boltingref05_Closes.calls k a1 t288 _ A3.out).mono ?_); rintro e w10 ⟨v289, rfl, ho0, hb⟩; refine ⟨_, rfl, ?_⟩; have n0_ := Aside0.mk (Kd.R_lower ho0 (below_size bz)); have n1_ := Aside0.mk (below_step bz hb); clear HB; have HO290 := n0_; have HB := n1_; clear n0_ n1_; (try clear hb); (try clear hb2); (try clear hk); (try clear hi); (try clear ho0)) | ((with_reducible refine gate_callee (f := 108) rfl ?_); refine goesL_ (some 9) rfl rfl Tryz.func108 (by kernel_rfl) rfl #[.string a1] rfl (by (try simp only [List.map_toArray, List.map_cons, List.map_nil]); first | done | rfl | (simp only [List.length_drop, List.length_take]; rfl)) ?_; (with_reducible refine (boltingref05_Walls.calls k a1 t291 _ A4.out).mono ?_); rintro e w11 ⟨v292, rfl, ho0, hb⟩; refine ⟨_, rfl, ?_⟩; have n0_ := Aside0.mk (Kd.R_elder' (rz HO290.out) (Kd.R_base ho0) hb); have n1_ := Aside0.mk (Kd.R_lower (Kd.R_new' ho0 (Kd.R_lt (rz HO290.out))) (below_size bz)); have n2_ := Aside0.mk (below_step bz hb); clear HO290; clear HB; have HO290 := n0_; have HO293 := n1_; have HB := n2_; clear n0_ n1_ n2_; (try clear hb); (try clear hb2); (try clear hk); (try clear hi); (try clear ho0); obtain ⟨Ao12, co12, eo12⟩ := Kd.R_slice HO290.out; subst eo12; obtain ⟨Ao13, co13, eo13⟩ := Kd.R_slice HO293.out; subst eo13) | ((with_reducible refine gate_callee (f := 106) rfl ?_); refine goesL_ (some 10) rfl rfl Tryz.func106 (by kernel_rfl) rfl #[.slice A0 l0.length c0, .slice Ao12 t288.length co12, .slice Ao13 t291.length co13] rfl (by (try simp only [List.map_toArray, List.map_cons, List.map_nil]); first | done | rfl | (simp only [List.length_drop, List.length_take]; rfl)) ?_; (with_reducible refine (boltingref07_closed.calls k (fun k_ => k_ < w.heap.size) _ _ l0 _ _ t288 _ _ t291 t294 _ ?side1 ?side2 ?side3 ?side4 ?side5 A5.out).mono ?_); (case side1 => exact Kd.V_mk HC0.out (Kd.F_below (Kd.C_F Kd.heap_string HR0.out) bz)); (case side2 => exact cz (Kd.R_reads' HO290.out).2.2); (case side3 => exact (Kd.R_reads' HO290.out).2.1); (case side4 => exact cz (Kd.R_reads' HO293.out).2.2); (case side5 => exact (Kd.R_reads' HO293.out).2.1); rintro e w14 ⟨v295, rfl, ho0, hb⟩; refine ⟨_, rfl, ?_⟩; have n0_ := Aside0.mk (Kd.R_elder' (rz HO290.out) (Kd.R_base ho0) hb); have n1_ := Aside0.mk (Kd.R_elder' (rz HO293.out) (Kd.R_base ho0) hb); have n2_ := Aside0.mk (Kd.R_lower (Kd.R_new' (Kd.R_new' (Kd.R_mono (ok' := fun k_ => True) ho0 (fun _ hk_ => trivial)) (Kd.R_lt (rz HO290.out))) (Kd.R_lt (rz HO293.out))) (below_size bz)); have n3_ := Aside0.mk (below_step bz hb); clear HO290; clear HO293; clear HB; have HO290 := n0_; have HO293 := n1_; have HO296 := n2_; have HB := n3_; clear n0_ n1_ n2_ n3_; (try clear hb); (try clear hb2); (try clear hk); (try clear hi); (try clear ho0)) | ((with_reducible refine gate_callee (f := 109) rfl ?_); refine goesL_ (some 12) rfl rfl Tryz.func109 (by kernel_rfl) rfl #[.string a1] rfl (by (try simp only [List.map_toArray, List.map_cons, List.map_nil]); first | done | rfl | (simp only [List.length_drop, List.length_take]; rfl)) ?_; (with_reducible refine (boltingref07_para.calls a1 true _ A6.out).mono ?_); rintro e w' ⟨rfl, ⟨nd, rfl⟩⟩; refine ⟨_, rfl, ?_⟩) | ((with_reducible refine gate_dst (N := 14) rfl ?_); refine Kd.R_lit Kd.string _ 9 ?hg (N := 14) ?hd (xs := ([(⟨#[112]⟩ : ByteArray)] : List ByteArray)) (inner := [.string (⟨#[112]⟩ : ByteArray)]) (ok := fun _ => True) (okp := fun _ => True) ?hr ?hp (fun _ hk => hk) trivial (Below.refl _ _) (Nat.le_refl _) (by simp) ?_; (case hd => rfl); (case hg => rfl); (case hr => first | (go_simp; done) | (go_simp; rfl)); (case hp => exact (Reps.one (show Kd.M Kd.string _ _ _ (⟨#[112]⟩ : ByteArray) [.string (⟨#[112]⟩ : ByteArray)] from rfl) (Reps.none _ _))); intro v299 w15 ho16 hb hg_ hnew_; clear hg_ hnew_; (first | rw [← Ny298.out] at ho16 | (simp only [Int.reduceToNat] at ho16; rw [← Ny298.out] at ho16)); have n0_ := Aside0.mk (Kd.R_elder' (rz HO290.out) (Kd.R_base ho16) hb); have n1_ := Aside0.mk (Kd.R_elder' (rz HO293.out) (Kd.R_base ho16) hb); have n2_ := Aside0.mk (Kd.R_elder' (rz HO296.out) (Kd.R_base ho16) hb); have n3_ := Aside0.mk (Kd.R_lower (Kd.R_new' (Kd.R_new' (Kd.R_new' ho16 (Kd.R_lt (rz HO290.out))) (Kd.R_lt (rz HO293.out))) (Kd.R_lt (rz HO296.out))) (below_size bz)); have n4_ := Aside0.mk (below_step bz hb); clear HO290; clear HO293; clear HO296; clear HB; have HO290 := n0_; have HO293 := n1_; have HO296 := n2_; have HO300 := n3_; have HB := n4_; clear n0_ n1_ n2_ n3_ n4_; clear hb ho16) | ((with_reducible refine gate_callee (f := 108) rfl ?_); refine goesL_ (some 15) rfl rfl Tryz.func108 (by kernel_rfl) rfl #[.string (⟨#[112]⟩ : ByteArray)] rfl (by (try simp only [List.map_toArray, List.map_cons, List.map_nil]); first | done | rfl | (simp only [List.length_drop, List.length_take]; rfl)) ?_; (with_reducible refine (boltingref05_Walls.calls k (⟨#[112]⟩ : ByteArray) t301 _ A8.out).mono ?_); rintro e w17 ⟨v302, rfl, ho0, hb⟩; refine ⟨_, rfl, ?_⟩; have n0_ := Aside0.mk (Kd.R_elder' (rz HO290.out) (Kd.R_base ho0) hb); have n1_ := Aside0.mk (Kd.R_elder' (rz HO293.out) (Kd.R_base ho0) hb); have n2_ := Aside0.mk (Kd.R_elder' (rz HO296.out) (Kd.R_base ho0) hb); have n3_ := Aside0.mk (Kd.R_elder' (rz HO300.out) (Kd.R_base ho0) hb); have n4_ := Aside0.mk (Kd.R_lower (Kd.R_new' (Kd.R_new' (Kd.R_new' (Kd.R_new' ho0 (Kd.R_lt (rz HO290.out))) (Kd.R_lt (rz HO293.out))) (Kd.R_lt (rz HO296.out))) (Kd.R_lt (rz HO300.out))) (below_size bz)); have n5_ := Aside0.mk (below_step bz hb); clear HO290; clear HO293; clear HO296; clear HO300; clear HB; have HO290 := n0_; have HO293 := n1_; have HO296 := n2_; have HO300 := n3_; have HO303 := n4_; have HB := n5_; clear n0_ n1_ n2_ n3_ n4_ n5_; (try clear hb); (try clear hb2); (try clear hk); (try clear hi); (try clear ho0); obtain ⟨Ao18, co18, eo18⟩ := Kd.R_slice HO296.out; subst eo18; obtain ⟨Ao19, co19, eo19⟩ := Kd.R_slice HO300.out; subst eo19; obtain ⟨Ao20, co20, eo20⟩ := Kd.R_slice HO303.out; subst eo20) | ((with_reducible refine gate_callee (f := 106) rfl ?_); refine goesL_ (some 16) rfl rfl Tryz.func106 (by kernel_rfl) rfl #[.slice Ao18 t294.length co18, .slice Ao19 y298.length co19, .slice Ao20 t301.length co20] rfl (by (try simp only [List.map_toArray, List.map_cons, List.map_nil]); first | done | rfl | (simp only [List.length_drop, List.length_take]; rfl)) ?_; (with_reducible refine (boltingref07_closed.calls k (fun k_ => some k_ = (.slice Ao18 t294.length co18 : Value).ownBlock) _ _ t294 _ _ y298 _ _ t301 t304 _ ?side1 ?side2 ?side3 ?side4 ?side5 A9.out).mono ?_); (case side1 => exact Kd.R_V (Kd.R_tight rfl (HO296.out))); (case side2 => exact cz (Kd.R_reads' HO300.out).2.2); (case side3 => exact (Kd.R_reads' HO300.out).2.1); (case side4 => exact cz (Kd.R_reads' HO303.out).2.2); (case side5 => exact (Kd.R_reads' HO303.out).2.1); rintro e w21 ⟨v305, rfl, ho0, hb⟩; refine ⟨_, rfl, ?_⟩; have n0_ := Aside0.mk (Kd.R_elder' (rz HO290.out) (Kd.R_base ho0) hb); have n1_ := Aside0.mk (Kd.R_elder' (rz HO293.out) (Kd.R_base ho0) hb); have n2_ := Aside0.mk (Kd.R_elder' (rz HO296.out) (Kd.R_base ho0) hb); have n3_ := Aside0.mk (Kd.R_elder' (rz HO300.out) (Kd.R_base ho0) hb); have n4_ := Aside0.mk (Kd.R_elder' (rz HO303.out) (Kd.R_base ho0) hb); have n5_ := Aside0.mk (Kd.R_lower (Kd.R_new' (Kd.R_new' (Kd.R_new' (Kd.R_new' (Kd.R_new' (Kd.R_mono (ok' := fun k_ => True) ho0 (fun _ hk_ => trivial)) (Kd.R_lt (rz HO290.out))) (Kd.R_lt (rz HO293.out))) (Kd.R_lt (rz HO296.out))) (Kd.R_lt (rz HO300.out))) (Kd.R_lt (rz HO303.out))) (below_size bz)); have n6_ := Aside0.mk (below_step bz hb); clear HO290; clear HO293; clear HO296; clear HO300; clear HO303; clear HB; have HO290 := n0_; have HO293 := n1_; have HO296 := n2_; have HO300 := n3_; have HO303 := n4_; have HO306 := n5_; have HB := n6_; clear n0_ n1_ n2_ n3_ n4_ n5_ n6_; (try clear hb); (try clear hb2); (try clear hk); (try clear hi); (try clear ho0)))
  go_ret
  exact ⟨_, by first | rfl | (simp [errW_none, errW_some] <;> rfl) | (simp [*, errW_none, errW_some] <;> rfl), by (with_reducible repeat (first | apply Kd.R_alloc | apply Kd.R_drewN | apply Kd.R_drew)); exact Kd.R_mono HO306.out (fun _ hk => trivial), bz⟩
 ·replace c7 := Bool.eq_false_iff.mpr c7
  subst c7
  have H1 : (some t294) = some r := by rw [if_neg (show ¬ (false = true) by decide)] at H; first | exact H | (simp only [eq_self] at H ⊢; exact H) | (simp only [eq_self, if_true] at H ⊢; exact H)
  clear H
  have H := H1
  clear H1
  obtain rfl := Option.some.inj H
  go_enter Tryz.func63, Tryz.ntmps63
  go_wp2_with (first | ((with_reducible refine gate_callee (f := 107) rfl ?_); refine goesL_ (some 7) rfl rfl Tryz.func107 (by kernel_rfl) rfl #[.string a1] rfl (by (try simp only [List.map_toArray, List.map_cons, List.map_nil]); first | done | rfl | (simp only [List.length_drop, List.length_take]; rfl)) ?_; (with_reducible refine (boltingref05_Closes.calls k a1 t288 _ A3.out).mono ?_); rintro e w22 ⟨v289, rfl, ho0, hb⟩; refine ⟨_, rfl, ?_⟩; have n0_ := Aside0.mk (Kd.R_lower ho0 (below_size bz)); have n1_ := Aside0.mk (below_step bz hb); clear HB; have HO290 := n0_; have HB := n1_; clear n0_ n1_; (try clear hb); (try clear hb2); (try clear hk); (try clear hi); (try clear ho0)) | ((with_reducible refine gate_callee (f := 108) rfl ?_); refine goesL_ (some 9) rfl rfl Tryz.func108 (by kernel_rfl) rfl #[.string a1] rfl (by (try simp only [List.map_toArray, List.map_cons, List.map_nil]); first | done | rfl | (simp only [List.length_drop, List.length_take]; rfl)) ?_; (with_reducible refine (boltingref05_Walls.calls k a1 t291 _ A4.out).mono ?_); rintro e w23 ⟨v292, rfl, ho0, hb⟩; refine ⟨_, rfl, ?_⟩; have n0_ := Aside0.mk (Kd.R_elder' (rz HO290.out) (Kd.R_base ho0) hb); have n1_ := Aside0.mk (Kd.R_lower (Kd.R_new' ho0 (Kd.R_lt (rz HO290.out))) (below_size bz)); have n2_ := Aside0.mk (below_step bz hb); clear HO290; clear HB; have HO290 := n0_; have HO293 := n1_; have HB := n2_; clear n0_ n1_ n2_; (try clear hb); (try clear hb2); (try clear hk); (try clear hi); (try clear ho0); obtain ⟨Ao24, co24, eo24⟩ := Kd.R_slice HO290.out; subst eo24; obtain ⟨Ao25, co25, eo25⟩ := Kd.R_slice HO293.out; subst eo25) | ((with_reducible refine gate_callee (f := 106) rfl ?_); refine goesL_ (some 10) rfl rfl Tryz.func106 (by kernel_rfl) rfl #[.slice A0 l0.length c0, .slice Ao24 t288.length co24, .slice Ao25 t291.length co25] rfl (by (try simp only [List.map_toArray, List.map_cons, List.map_nil]); first | done | rfl | (simp only [List.length_drop, List.length_take]; rfl)) ?_; (with_reducible refine (boltingref07_closed.calls k (fun k_ => k_ < w.heap.size) _ _ l0 _ _ t288 _ _ t291 t294 _ ?side1 ?side2 ?side3 ?side4 ?side5 A5.out).mono ?_); (case side1 => exact Kd.V_mk HC0.out (Kd.F_below (Kd.C_F Kd.heap_string HR0.out) bz)); (case side2 => exact cz (Kd.R_reads' HO290.out).2.2); (case side3 => exact (Kd.R_reads' HO290.out).2.1); (case side4 => exact cz (Kd.R_reads' HO293.out).2.2); (case side5 => exact (Kd.R_reads' HO293.out).2.1); rintro e w26 ⟨v295, rfl, ho0, hb⟩; refine ⟨_, rfl, ?_⟩; have n0_ := Aside0.mk (Kd.R_elder' (rz HO290.out) (Kd.R_base ho0) hb); have n1_ := Aside0.mk (Kd.R_elder' (rz HO293.out) (Kd.R_base ho0) hb); have n2_ := Aside0.mk (Kd.R_lower (Kd.R_new' (Kd.R_new' (Kd.R_mono (ok' := fun k_ => True) ho0 (fun _ hk_ => trivial)) (Kd.R_lt (rz HO290.out))) (Kd.R_lt (rz HO293.out))) (below_size bz)); have n3_ := Aside0.mk (below_step bz hb); clear HO290; clear HO293; clear HB; have HO290 := n0_; have HO293 := n1_; have HO296 := n2_; have HB := n3_; clear n0_ n1_ n2_ n3_; (try clear hb); (try clear hb2); (try clear hk); (try clear hi); (try clear ho0)) | ((with_reducible refine gate_callee (f := 109) rfl ?_); refine goesL_ (some 12) rfl rfl Tryz.func109 (by kernel_rfl) rfl #[.string a1] rfl (by (try simp only [List.map_toArray, List.map_cons, List.map_nil]); first | done | rfl | (simp only [List.length_drop, List.length_take]; rfl)) ?_; (with_reducible refine (boltingref07_para.calls a1 false _ A6.out).mono ?_); rintro e w' ⟨rfl, ⟨nd, rfl⟩⟩; refine ⟨_, rfl, ?_⟩))
  go_ret
  exact ⟨_, by first | rfl | (simp [errW_none, errW_some] <;> rfl) | (simp [*, errW_none, errW_some] <;> rfl), by (with_reducible repeat (first | apply Kd.R_alloc | apply Kd.R_drewN | apply Kd.R_drew)); exact Kd.R_mono HO296.out (fun _ hk => trivial), bz⟩
end Go.Proofs.YtkcmghlhpbepcaaGreatDoorH.W7

/- Words and walks used below. -/
namespace Go.Proofs.YtkcmghlhpbepcaaGreatDoorH.W7
open Go.RowKit Go.Proofs.YtkcmghlhpbepcaaGreatDoorW.PrintWords Go.Proofs.YtkcmghlhpbepcaaGreatDoorW.PrintLast Go.Proofs.YtkcmghlhpbepcaaGreatDoorW.PrintMore
attribute [local go_sem] max2_int min2_int max_two min_two max_three min_three max_four min_four   -- for this text's walks alone
def boltingref07_Nested.f (k : Nat) (a0 : ByteArray) (l1 : List ByteArray) : Option (Bool) := (boltingref07_opened.f k l1 a0).bind fun t307 => (some ((t307.length : Int) == (l1.length : Int)))
set_option maxHeartbeats 8000000 in
set_option maxRecDepth 100000 in
theorem boltingref07_Nested.calls (k : Nat) (a0 : ByteArray) (A1 : Option Addr) (c1 : Nat) (l1 : List ByteArray) (r : Bool) (w : World) (hr1 : Kd.C Kd.string w A1 l1.length l1) (hc1 : l1.length ≤ c1) (h : boltingref07_Nested.f k a0 l1 = some r) :
 Calls Tryz.prog 28 #[.string a0, .slice A1 l1.length c1] w fun e w' => e = .returned (.bool r) ∧ Below w.heap.size w w' := by
 have HR1 := Aside0.mk hr1
 have HC1 := Aside0.mk hc1
 clear hr1 hc1
 have HB := Aside0.mk (Below.refl w.heap.size w)
 have H : ((boltingref07_opened.f k l1 a0).bind fun t307 => (some ((t307.length : Int) == (l1.length : Int)))) = some r := h
 clear h
 replace H := Option.bind_eq_some_iff.mp H
 obtain ⟨t307, A30, H⟩ := H
 replace H : (some ((t307.length : Int) == (l1.length : Int))) = some r := H
 have A3 := Aside0.mk A30
 clear A30
 obtain rfl := Option.some.inj H
 go_enter Tryz.func28, Tryz.ntmps28
 go_wp2_with (first | ((with_reducible refine gate_callee (f := 63) rfl ?_); refine goesL_ (some 7) rfl rfl Tryz.func63 (by kernel_rfl) rfl #[.slice A1 l1.length c1, .string a0] rfl (by (try simp only [List.map_toArray, List.map_cons, List.map_nil]); first | done | rfl | (simp only [List.length_drop, List.length_take]; rfl)) ?_; (with_reducible refine (boltingref07_opened.calls k _ _ l1 a0 t307 _ ?side1 ?side2 A3.out).mono ?_); (case side1 => repeat (first | exact HR1.out | (with_reducible refine Kd.C_alloc ?_ _) | (with_reducible refine Kd.C_drewN ?_ _) | (with_reducible refine Kd.C_drew ?_))); (case side2 => exact HC1.out); rintro e w4 ⟨v308, rfl, ho0, hb⟩; refine ⟨_, rfl, ?_⟩; have n0_ := Aside0.mk (Kd.R_lower ho0 (below_size bz)); have n1_ := Aside0.mk (below_step bz hb); clear HB; have HO309 := n0_; have HB := n1_; clear n0_ n1_; (try clear hb); (try clear hb2); (try clear hk); (try clear hi); (try clear ho0); obtain ⟨Ao5, co5, eo5⟩ := Kd.R_slice HO309.out; subst eo5))
 go_ret
 exact ⟨by first | rfl | (simp [errW_none, errW_some] <;> rfl) | (simp [*, errW_none, errW_some] <;> rfl), bz⟩
end Go.Proofs.YtkcmghlhpbepcaaGreatDoorH.W7

/- Names and nesting, in lists alone: the printed questions about names of both sides are the same. -/
namespace Go.Proofs.YtkcmghlhpbepcaaGreatDoorH.W7
open Go.RowKit Go.Proofs Go.Proofs.YtkcmghlhpbepcaaGreatDoorH Go.Proofs.YtkcmghlhpbepcaaGreatDoor Go.Proofs.YtkcmghlhpbepcaaGreatDoorW.PrintWords
def tabR : List ByteArray := (boltingref05_Table.f).getD []
theorem table_f (s : ByteArray) (k : Nat) (hk : 20 ≤ k) : names_table.f k s = some (memS tabR s) := by
 unfold names_table.f
 rw [among_f _ _ _ (by simp) (by simp; omega), Option.bind_some]
 congr 1
 show memS _ s = memS ((boltingref05_Table.f).getD []) s
 simp only [boltingref05_Table.f, Option.getD_some, memS, List.any_cons, List.any_nil, Bool.or_false]
 ac_rfl
theorem tableR_f (s : ByteArray) (k : Nat) (hk : 20 ≤ k) : boltingref02_Has.f k tabR s = some (memS tabR s) := has_f s tabR k (by simp [tabR, boltingref05_Table.f]) (by simp [tabR, boltingref05_Table.f]; omega)
theorem two_mem (a b s : ByteArray) : memS [a, b] s = ((a.data.toList == s.data.toList) || (b.data.toList == s.data.toList)) := by simp [memS]
theorem beq_sym {l m : List UInt8} (h : l ≠ m) : (m == l) = false := beq_eq_false_iff_ne.2 (Ne.symm h)
theorem walls_eq (s : ByteArray) (k : Nat) (hk : 101 ≤ k) : boltingref05_Walls.f k s = names_Walls.f k s := by
 obtain ⟨k, rfl⟩ : ∃ m, k = m + 2 := ⟨k - 2, by omega⟩
 unfold boltingref05_Walls.f names_Walls.f
 by_cases h1 : s.toList = [108, 105]
 ·rw [if_pos h1, if_pos h1]
 rw [if_neg h1, if_neg h1, among_f _ _ _ (by simp) (by simp; omega), Option.bind_some, two_mem]
 by_cases h2 : s.toList = [100, 100]
 ·rw [if_pos h2, ← Lib.toList_data s, h2]
  simp only [boltingref05_Walls.j0]
  rfl
 rw [if_neg h2]
 by_cases h3 : s.toList = [100, 116]
 ·rw [← Lib.toList_data s, h3]
  simp only [boltingref05_Walls.j0]
  rfl
 have e2 : ((⟨#[100, 100]⟩ : ByteArray).data.toList == s.data.toList) = false := by rw [← Lib.toList_data s]; exact beq_sym h2
 have e3 : ((⟨#[100, 116]⟩ : ByteArray).data.toList == s.data.toList) = false := by rw [← Lib.toList_data s]; exact beq_sym h3
 rw [e2, e3, if_neg (by decide), among_f _ _ _ (by simp) (by simp; omega), Option.bind_some, two_mem, beq_eq_false_iff_ne.2 h3]
 simp only [boltingref05_Walls.j0]
 rw [if_neg (by decide)]
 by_cases h4 : s.toList = [111, 112, 116, 105, 111, 110]
 ·rw [if_pos h4, ← Lib.toList_data s, h4]
  simp only [boltingref05_Walls.j1]
  rfl
 rw [if_neg h4]
 by_cases h5 : s.toList = [111, 112, 116, 103, 114, 111, 117, 112]
 ·rw [← Lib.toList_data s, h5]
  simp only [boltingref05_Walls.j1]
  rfl
 have e4 : ((⟨#[111, 112, 116, 105, 111, 110]⟩ : ByteArray).data.toList == s.data.toList) = false := by rw [← Lib.toList_data s]; exact beq_sym h4
 have e5 : ((⟨#[111, 112, 116, 103, 114, 111, 117, 112]⟩ : ByteArray).data.toList == s.data.toList) = false := by rw [← Lib.toList_data s]; exact beq_sym h5
 rw [e4, e5, if_neg (by decide), table_f _ _ (by omega), Option.bind_some, beq_eq_false_iff_ne.2 h5]
 simp only [boltingref05_Walls.j1]
 rw [if_neg (by decide), show boltingref05_Table.f = some tabR from rfl, Option.bind_some, tableR_f _ _ (by omega), Option.bind_some]
def blkR : List ByteArray := (boltingref05_Block.f).getD []
theorem block_f (s : ByteArray) (k : Nat) (hk : 90 ≤ k) : names_Block.f k s = some (memS blkR s) := by
 unfold names_Block.f
 rw [among_f _ _ _ (by simp) (by simp; omega), Option.bind_some]
 rfl
theorem blockR_f (s : ByteArray) (k : Nat) (hk : 90 ≤ k) : boltingref02_Has.f k blkR s = some (memS blkR s) := has_f s blkR k (by simp [blkR, boltingref05_Block.f]) (by simp [blkR, boltingref05_Block.f]; omega)
theorem closes_eq (s : ByteArray) (k : Nat) (hk : 101 ≤ k) : boltingref05_Closes.f k s = names_Closes.f k s := by
 obtain ⟨k, rfl⟩ : ∃ m, k = m + 3 := ⟨k - 3, by omega⟩
 unfold boltingref05_Closes.f names_Closes.f
 by_cases h1 : s.toList = [108, 105]
 ·rw [if_pos h1, if_pos h1, beq_iff_eq.2 h1]
  simp only [boltingref05_Closes.j0, names_Closes.j0]
  rfl
 rw [if_neg h1, if_neg h1]
 by_cases h2 : s.toList = [111, 112, 116, 105, 111, 110]
 ·rw [beq_iff_eq.2 h2]
  simp only [boltingref05_Closes.j0, names_Closes.j0]
  rfl
 rw [beq_eq_false_iff_ne.2 h2]
 simp only [boltingref05_Closes.j0, names_Closes.j0]
 rw [if_neg (show ¬ (false = true) by decide), if_neg (show ¬ (false = true) by decide)]
 by_cases h3 : s.toList = [100, 100]
 ·rw [if_pos h3, if_pos h3]
  simp only [boltingref05_Closes.j1]
  rfl
 rw [if_neg h3, if_neg h3]
 simp only [boltingref05_Closes.j1]
 by_cases h4 : s.toList = [100, 116]
 ·rw [if_pos h4, if_pos (beq_iff_eq.2 h4)]
 rw [if_neg h4, if_neg (by rw [beq_eq_false_iff_ne.2 h4]; decide)]
 by_cases h5 : s.toList = [111, 112, 116, 103, 114, 111, 117, 112]
 ·rw [if_pos h5, if_pos h5]
 rw [if_neg h5, if_neg h5]
 by_cases h6 : s.toList = [116, 114]
 ·rw [if_pos h6, if_pos h6]
 rw [if_neg h6, if_neg h6]
 simp only [boltingref05_Closes.j2]
 by_cases h7 : s.toList = [116, 100]
 ·rw [if_pos h7, if_pos h7]
  rfl
 rw [if_neg h7, if_neg h7]
 by_cases h8 : s.toList = [116, 104]
 ·rw [if_pos h8, if_pos (beq_iff_eq.2 h8)]
 rw [if_neg h8, if_neg (by rw [beq_eq_false_iff_ne.2 h8]; decide)]
 rw [show boltingref05_Table.f = some tabR from rfl, Option.bind_some, tableR_f _ _ (by omega), Option.bind_some, table_f _ _ (by omega), Option.bind_some, Option.bind_some]
 rw [show boltingref05_Block.f = some blkR from rfl, Option.bind_some, blockR_f _ _ (by omega), Option.bind_some, block_f _ _ (by omega), Option.bind_some]
 rfl
theorem memS_containsS (l : List ByteArray) (s : ByteArray) : memS l s = Lib.containsS l s := by
 rw [Bool.eq_iff_iff, Lib.containsS_iff]
 simp only [memS, List.any_eq_true, beq_iff_eq]
 constructor
 ·rintro ⟨x, hx, e⟩
  obtain ⟨⟨a⟩⟩ := x
  obtain ⟨⟨b⟩⟩ := s
  simp only at e
  subst e
  exact hx
 ·intro h
  exact ⟨s, h, rfl⟩
theorem wD {i : Nat} (h : i < 1000000000) : wrap64 ((i : Int) - 1) = (i : Int) - 1 := by unfold wrap64; omega
theorem found_l (xs a b : List ByteArray) (hx : xs.length < 100000) (ha : a.length < 1000) (hb : b.length < 1000) : ∀ (n k : Nat), n ≤ xs.length → 1001 + n ≤ k → boltingref07_Found.l0 k xs a b ((n : Int) - 1) = some (foundK xs a b n)
 | 0, k, _, hk => by
   obtain ⟨k, rfl⟩ : ∃ m, k = m + 1 := ⟨k - 1, by omega⟩
   simp only [boltingref07_Found.l0, foundK]
   rw [if_neg (by omega)]
 | n + 1, k, hn, hk => by
   obtain ⟨k, rfl⟩ : ∃ m, k = m + 1 := ⟨k - 1, by omega⟩
   have ih := found_l xs a b hx ha hb n k (by omega) (by omega)
   rw [show (((n + 1 : Nat) : Int) - 1) = (n : Int) from by omega]
   simp only [boltingref07_Found.l0, foundK]
   have hr : rdOf ByteArray.empty xs (n : Int) = xs.getD n ⟨#[]⟩ := by
    rw [rdOf_at xs n (by omega)]
    simp [show n < xs.length by omega]
   rw [if_pos (by omega), if_pos (by omega), if_pos (by omega), hr, has_f _ _ _ (by omega) (by omega), Option.bind_some, has_f _ _ _ (by omega) (by omega), memS_containsS, memS_containsS]
   cases Lib.containsS a (xs.getD n ⟨#[]⟩) with
   | true => rw [if_pos rfl, if_pos rfl]
   | false =>
     rw [if_neg (show ¬ (false = true) by decide), if_neg (show ¬ (false = true) by decide)]
     cases Lib.containsS b (xs.getD n ⟨#[]⟩) with
     | true => rw [Option.bind_some, if_pos rfl, if_pos rfl]
     | false => rw [Option.bind_some, if_neg (show ¬ (false = true) by decide), if_neg (show ¬ (false = true) by decide), wD (by omega), ih]
theorem found_f (xs a b : List ByteArray) (hx : xs.length < 100000) (ha : a.length < 1000) (hb : b.length < 1000) (k : Nat) (hk : 1001 + xs.length ≤ k) : boltingref07_Found.f k xs a b = some (foundK xs a b xs.length) := by
 unfold boltingref07_Found.f
 rw [wD (by omega)]
 exact found_l xs a b hx ha hb xs.length k (Nat.le_refl _) hk
theorem foundK_le (xs some_ walls : List ByteArray) : ∀ k, -1 ≤ foundK xs some_ walls k ∧ foundK xs some_ walls k < k
 | 0 => by simp [foundK]
 | k + 1 => by
   have := foundK_le xs some_ walls k
   simp only [foundK]
   split
   ·omega
   ·split <;> omega
def closeR (a b : List ByteArray) : Nat → List ByteArray → List ByteArray
 | 0, op => op
 | n + 1, op => if foundK op a b op.length < 0 then op else closeR a b n (op.take (foundK op a b op.length).toNat)
theorem closeR_len (a b : List ByteArray) : ∀ (n : Nat) (op : List ByteArray), (closeR a b n op).length ≤ op.length
 | 0, op => Nat.le_refl _
 | n + 1, op => by
   simp only [closeR]
   split
   ·exact Nat.le_refl _
   ·have := closeR_len a b n (op.take (foundK op a b op.length).toNat)
    rw [List.length_take] at this
    omega
theorem closed_l (a b : List ByteArray) (ha : a.length < 1000) (hb : b.length < 1000) : ∀ (n : Nat) (xs : List ByteArray) (k : Nat), xs.length < n → xs.length < 10000 → 20000 + n ≤ k →
 boltingref07_closed.l0 k xs a b (foundK xs a b xs.length) = some (closeR a b n xs)
 | 0, xs, k, h, _, _ => absurd h (by omega)
 | n + 1, xs, k, h, hx, hk => by
   obtain ⟨m, rfl⟩ : ∃ m, k = m + 1 := ⟨k - 1, by omega⟩
   have hl := foundK_le xs a b xs.length
   simp only [boltingref07_closed.l0, closeR]
   by_cases hneg : foundK xs a b xs.length < 0
   ·rw [if_neg (by omega), if_pos hneg, Option.bind_some, if_pos (by simp; omega), List.nil_append]
   ·rw [if_pos (by omega), if_pos (by omega), if_pos (by omega), if_neg hneg, Option.bind_some]
    generalize hj : foundK xs a b xs.length = j at *
    have hlt : (xs.take j.toNat).length < n := by rw [List.length_take]; omega
    have hlt2 : (xs.take j.toNat).length < 10000 := by rw [List.length_take]; omega
    rw [found_f _ _ _ (by omega) ha hb _ (by omega), Option.bind_some]
    exact closed_l a b ha hb n (xs.take j.toNat) m hlt hlt2 (by omega)
theorem closed_f (xs a b : List ByteArray) (hx : xs.length < 10000) (ha : a.length < 1000) (hb : b.length < 1000) (k : Nat) (hk : 40000 ≤ k) : boltingref07_closed.f k xs a b = some (closeR a b (xs.length + 1) xs) := by
 unfold boltingref07_closed.f
 rw [found_f _ _ _ (by omega) ha hb _ (by omega), Option.bind_some]
 exact closed_l a b ha hb (xs.length + 1) xs k (by omega) hx (by omega)
theorem par_eq (s : ByteArray) : boltingref07_para.f s = build_paragraph.f s := rfl
theorem closeR_same (a b op : List ByteArray) : ((closeR a b (op.length + 1) op).length = op.length) ↔ foundK op a b op.length < 0 := by
 simp only [closeR]
 have hl := foundK_le op a b op.length
 split
 ·rename_i h
  exact ⟨fun _ => h, fun _ => rfl⟩
 ·rename_i h
  have := closeR_len a b op.length (op.take (foundK op a b op.length).toNat)
  rw [List.length_take] at this
  constructor
  ·intro e; omega
  ·intro e; omega
theorem closeR_id (a b op : List ByteArray) (h : foundK op a b op.length < 0) : closeR a b (op.length + 1) op = op := by
 simp only [closeR]
 rw [if_pos h]
theorem closes_some (s : ByteArray) (k : Nat) (hk : 101 ≤ k) : ∃ c, names_Closes.f k s = some c ∧ c.length < 1000 := by
 obtain ⟨k, rfl⟩ : ∃ m, k = m + 1 := ⟨k - 1, by omega⟩
 have h : ∀ b, ∃ c, names_Closes.j0 (k + 1) s s b = some c ∧ c.length < 1000 := by
  intro b
  simp only [names_Closes.j0]
  rw [table_f _ _ (by omega), Option.bind_some, block_f _ _ (by omega), Option.bind_some]
  repeat' split
  all_goals exact ⟨_, rfl, by simp⟩
 unfold names_Closes.f
 split
 ·exact h _
 ·exact h _
theorem walls_some (s : ByteArray) (k : Nat) (hk : 101 ≤ k) : ∃ c, names_Walls.f k s = some c ∧ c.length < 1000 := by
 unfold names_Walls.f
 rw [among_f _ _ _ (by simp) (by simp; omega), Option.bind_some, among_f _ _ _ (by simp) (by simp; omega), Option.bind_some, table_f _ _ (by omega), Option.bind_some]
 repeat' split
 all_goals exact ⟨_, rfl, by simp⟩
theorem par_some (s : ByteArray) : ∃ p, build_paragraph.f s = some p := by
 unfold build_paragraph.f
 repeat' split
 all_goals exact ⟨_, rfl⟩
theorem nested_eq (s : ByteArray) (l : List ByteArray) (k : Nat) (hl : l.length ≤ 100) (hk : 40000 ≤ k) : ∃ b, build_Nested.f k s l = some b ∧ boltingref07_Nested.f k s l = some b := by
 obtain ⟨c, hc, hcl⟩ := closes_some s k (by omega)
 obtain ⟨w, hw, hwl⟩ := walls_some s k (by omega)
 obtain ⟨wp, hwp, hwpl⟩ := walls_some ⟨#[112]⟩ k (by omega)
 obtain ⟨p, hp⟩ := par_some s
 have hcr := closeR_len c w (l.length + 1) l
 have r1 : boltingref07_opened.f k l s = some (if p = true then closeR [⟨#[112]⟩] wp ((closeR c w (l.length + 1) l).length + 1) (closeR c w (l.length + 1) l) else closeR c w (l.length + 1) l) := by
  unfold boltingref07_opened.f
  rw [closes_eq s k (by omega), hc, Option.bind_some, walls_eq s k (by omega), hw, Option.bind_some, closed_f l c w (by omega) hcl hwl _ hk, Option.bind_some, par_eq, hp, Option.bind_some]
  cases p with
  | true => rw [if_pos rfl, if_pos rfl, walls_eq ⟨#[112]⟩ k (by omega), hwp, Option.bind_some, closed_f _ _ _ (by omega) (by decide) hwpl _ hk, Option.bind_some]
  | false => rw [if_neg (show ¬ (false = true) by decide), if_neg (show ¬ (false = true) by decide)]
 unfold boltingref07_Nested.f build_Nested.f
 rw [r1, Option.bind_some, hp, Option.bind_some, hc, Option.bind_some, hw, Option.bind_some, hwp, Option.bind_some]
 unfold build_found.f
 rw [Option.bind_some, Option.bind_some]
 have hs := closeR_same c w l
 cases p with
 | false =>
   rw [if_neg (show ¬ (false = true) by decide), if_neg (show ¬ (false = true) by decide)]
   refine ⟨_, rfl, ?_⟩
   congr 1
   rw [Bool.eq_iff_iff, beq_iff_eq, decide_eq_true_eq, ← hs]
   omega
 | true =>
   rw [if_pos rfl, if_pos rfl]
   by_cases h1 : foundK l c w l.length < 0
   ·rw [closeR_id c w l h1]
    have hs2 := closeR_same [⟨#[112]⟩] wp l
    by_cases h2 : foundK l [⟨#[112]⟩] wp l.length < 0
    ·rw [if_neg (by omega)]
     refine ⟨_, rfl, ?_⟩
     congr 1
     rw [Bool.eq_iff_iff, beq_iff_eq, decide_eq_true_eq]
     have := hs2.2 h2
     omega
    ·rw [if_pos (by omega)]
     refine ⟨_, rfl, ?_⟩
     congr 1
     rw [beq_eq_false_iff_ne]
     intro e
     exact h2 (hs2.1 (by omega))
   ·have h3 : (closeR c w (l.length + 1) l).length ≠ l.length := fun e => h1 (hs.1 e)
    have h4 := closeR_len [⟨#[112]⟩] wp ((closeR c w (l.length + 1) l).length + 1) (closeR c w (l.length + 1) l)
    have e5 : (((closeR [⟨#[112]⟩] wp ((closeR c w (l.length + 1) l).length + 1) (closeR c w (l.length + 1) l)).length : Int) == (l.length : Int)) = false := by
     rw [beq_eq_false_iff_ne]
     omega
    rw [e5, decide_eq_false h1]
    split
    ·exact ⟨_, rfl, rfl⟩
    ·exact ⟨_, rfl, rfl⟩
end Go.Proofs.YtkcmghlhpbepcaaGreatDoorH.W7

/- What came in, in the words of the printed walks: kind by kind, what a datum's cells say, how much it is at the least, and that its numbers fit. -/
namespace Go.Proofs.YtkcmghlhpbepcaaGreatDoorH
open Go.RowKit Go.Proofs Go.Proofs.YtkcmghlhpbepcaaGreatDoorW.PrintWords
open Go.ChangeShapes Go.WideShapes Go.ChangeAt
open Go.Proofs.YtkcmghlhpbepcaaGreatDoor (Rows.uptoBulk Rows.uptoBulkAll)
theorem cells_at {w : World} {base n : Nat} {a : Addr} {cs : List Value} (h : w.cells? base a n = some cs) : cs.length = n ∧ ∀ j, j < n → w.cell? (a.add j) = cs[j]? := by
 unfold World.cells? at h
 split at h
 ·have hl := mapM_some_length h
  refine ⟨by simpa using hl, fun j hj => ?_⟩
  have := mapM_some_get h j j (by simp [hj])
  exact this
 ·cases h
theorem add_add (a : Addr) (n m : Nat) : (a.add n).add m = a.add (n + m) := by
 unfold Addr.add
 by_cases hm : m = 0
 ·subst hm; simp
 ·by_cases hn : n = 0
  ·subst hn; simp
  ·simp [hm, hn, Nat.add_assoc]
theorem list_of {α : Type} (P : Nat → α → Prop) : ∀ (n : Nat), (∀ i, i < n → ∃ x, P i x) → ∃ L : List α, L.length = n ∧ ∀ i (h : i < L.length), P i L[i]
 | 0, _ => ⟨[], rfl, fun i h => by simp at h⟩
 | n + 1, h => by
   obtain ⟨L, hl, hp⟩ := list_of P n (fun i hi => h i (by omega))
   obtain ⟨x, hx⟩ := h n (by omega)
   refine ⟨L ++ [x], by simp [hl], fun i hi => ?_⟩
   rcases Nat.lt_or_ge i L.length with e | e
   ·rw [List.getElem_append_left e]
    exact hp i e
   ·have e2 : i = L.length := by simp at hi; omega
    subst e2
    rw [List.getElem_append_right (by omega)]
    simp only [Nat.sub_self, List.getElem_cons_zero]
    rw [hl]
    exact hx
def Opn {α : Type} (P : Program) (t : TypeId) (d : Kd α) (wt : α → Nat) (Wf : α → Prop) : Prop :=
 ∀ {H : Type} {enc : TypeId × Value → H} {w : World} {base : Nat} {spare : Nat → Bool} {held : Bool} {fuel : Nat} {cs : List Value} {x : DataW H × List MemPlace},
  DataW.trod enc P w base spare held fuel t cs = some x → ∃ a : α, d.K w a cs ∧ wt a ≤ Rows.uptoBulk x.1 ∧ Wf a
section
variable {P : Program} {t e : TypeId}
theorem opn_string (hu : P.underlying t = some .string) : Opn P t Kd.string (fun s => s.size + 1) (fun s => s.size ≤ maxLen) := by
 intro H enc w base spare held fuel cs x h
 obtain ⟨s, rfl, rfl, hs⟩ := DataW.trod_string hu h
 refine ⟨s, rfl, ?_, hs⟩
 simp only [Rows.uptoBulk, Array.length_toList]
 exact Nat.le_refl _
theorem bulk_all {H : Type} {α : Type} (wt : α → Nat) : ∀ (l : List α) (es : List (DataW H × List MemPlace)), l.length = es.length → (∀ i (h : i < l.length) (h' : i < es.length), wt l[i] ≤ Rows.uptoBulk es[i].1) → (l.map wt).sum ≤ Rows.uptoBulkAll (es.map (·.1))
 | [], _, _, _ => by simp
 | _ :: _, [], h, _ => by simp at h
 | a :: l, y :: es, h, hp => by
   have h0 := hp 0 (by simp) (by simp)
   have ih := bulk_all wt l es (by simpa using h) (fun i h1 h2 => by
    have := hp (i + 1) (by simp; omega) (by simp; omega)
    simpa using this)
   simp only [List.map_cons, List.sum_cons, Rows.uptoBulkAll]
   simp only [List.getElem_cons_zero] at h0
   omega
theorem opn_slice {α : Type} {d : Kd α} {wt : α → Nat} {Wf : α → Prop} (hu : P.underlying t = some (.slice e)) (hsz : P.cellsOf e = d.sz) (ho : Opn P e d wt Wf) :
 Opn P t (Kd.slice e d) (fun l => (l.map wt).sum + 1) (fun l => ∀ x ∈ l, Wf x) := by
 intro H enc w base spare held fuel cs x h
 rcases DataW.trod_slice hu h with ⟨rfl, rfl⟩ | ⟨a, len, cap, elems, rest, n, _, rfl, rfl, hb, hle, hc, hlen, hel, _, _⟩
 ·exact ⟨[], ⟨none, 0, rfl, Nat.le_refl _, ⟨rfl, by simp, fun h => by simp at h⟩⟩, by simp [Rows.uptoBulk], by simp⟩
 ·obtain ⟨L, hL, hp⟩ := list_of (fun i (y : α) => ∃ c : List Value, c.length = d.sz ∧ d.K w y c ∧ (∀ j u, c[j]? = some u → w.cell? (a.add (i * d.sz + j)) = some u) ∧ (∀ (h' : i < elems.length), wt y ≤ Rows.uptoBulk elems[i].1) ∧ Wf y) len (by
   intro i hi
   have h1 := hel i hi
   have hi2 : i < elems.length := by omega
   rw [List.getElem?_eq_getElem hi2, Option.bind_eq_some_iff] at h1
   obtain ⟨c, h2, h3⟩ := h1
   obtain ⟨y, hK, hw, hf⟩ := ho h3
   obtain ⟨hcl, h6⟩ := cells_at h2
   rw [hsz] at h2 hcl h6
   refine ⟨y, c, hcl, hK, fun j u hj => ?_, fun _ => hw, hf⟩
   have hjl : j < c.length := by
    rcases Nat.lt_or_ge j c.length with h7 | h7
    ·exact h7
    ·rw [List.getElem?_eq_none h7] at hj; cases hj
   have := h6 j (by omega)
   rw [add_add] at this
   exact this.trans hj)
  refine ⟨L, ⟨some a, cap, by rw [hL], by rw [hL]; exact hle, ⟨rfl, ?_, fun _ => ⟨a, rfl, fun j p hj => ?_⟩⟩⟩, ?_, fun y hy => ?_⟩
  ·unfold maxLen at hc; omega
  ·obtain ⟨hj1, rfl⟩ := List.getElem?_eq_some_iff.1 hj
   obtain ⟨c, g1, g2, g3, _⟩ := hp j hj1
   exact ⟨c, g1, g2, g3⟩
  ·have := bulk_all wt L elems (by omega) (fun i h1 h2 => by obtain ⟨_, _, _, _, g4, _⟩ := hp i h1; exact g4 h2)
   simp only [Rows.uptoBulk]
   omega
  ·obtain ⟨i, hi, rfl⟩ := List.getElem_of_mem hy
   obtain ⟨_, _, _, _, _, g⟩ := hp i hi
   exact g
end
end Go.Proofs.YtkcmghlhpbepcaaGreatDoorH

/- What came in: openings of the types that the statements of layer 7 take. -/
namespace Go.Proofs.YtkcmghlhpbepcaaGreatDoorH.W7
open Go.RowKit Go.Proofs Go.Proofs.YtkcmghlhpbepcaaGreatDoorH Go.Proofs.YtkcmghlhpbepcaaGreatDoorW.PrintWords
open Go.Proofs.YtkcmghlhpbepcaaGreatDoor (Rows.uptoBulk Rows.uptoBulkAll)
theorem opn9 : Opn Tryz.prog 9 Kd.string (fun s => s.size + 1) (fun s => s.size ≤ maxLen) := opn_string Tryz.underlying9
theorem opn41 : Opn Tryz.prog 41 (Kd.slice 9 Kd.string) (fun l => (l.map (fun s => s.size + 1)).sum + 1) (fun l => ∀ x ∈ l, x.size ≤ maxLen) := opn_slice Tryz.underlying41 (by kernel_rfl) opn9
end Go.Proofs.YtkcmghlhpbepcaaGreatDoorH.W7

/- Contract of rows.big: too many rows, or too deep ones. Nothing that lay in memory turns. -/
namespace Go.Proofs.YtkcmghlhpbepcaaGreatDoorH.W7
open Go.RowKit Go.Proofs Go.Proofs.YtkcmghlhpbepcaaGreatDoor
abbrev Rw := S34
theorem spot_of {w : World} {a : Addr} {v : Value} (h : w.cell? a = some v) : a = ⟨a.block, a.off, none⟩ := by
 obtain ⟨b, o, s⟩ := a
 cases s with
 | none => rfl
 | some s =>
   unfold World.cell? at h
   split at h <;> simp at h
theorem addr_at (b o n : Nat) : Addr.add ⟨b, o, none⟩ n = ⟨b, o + n, none⟩ := by
 unfold Addr.add
 split <;> simp_all
theorem row_at {w : World} {A : Option Addr} {xs : List Rw} (h : k34.C w A xs.length xs) (i : Nat) (hi : i < xs.length) :
 ∃ g o A4 c4, A = some ⟨g, o, none⟩ ∧ w.cell? ⟨g, o + i * 5, none⟩ = some (.int .i64 xs[i].f0) ∧ w.cell? ⟨g, o + i * 5 + 1, none⟩ = some (.int .i64 xs[i].f1) ∧ w.cell? ⟨g, o + i * 5 + 2, none⟩ = some (.string xs[i].f2) ∧ w.cell? ⟨g, o + i * 5 + 3, none⟩ = some (.string xs[i].f3) ∧ w.cell? ⟨g, o + i * 5 + 4, none⟩ = some (.slice A4 xs[i].f4.length c4) ∧ xs[i].f4.length ≤ c4 ∧ k36.C w A4 xs[i].f4.length xs[i].f4 := by
 obtain ⟨ad0, _, _, e0, z0, _⟩ := at_T34 h 0 (by omega) (by omega)
 have hs := spot_of (a := ad0) (by simpa [Addr.add] using z0)
 obtain ⟨ad, A4, c4, e, c0, c1, c2, c3, c4', l4, g4⟩ := at_T34 h i (by omega) (by omega)
 obtain rfl : ad0 = ad := Option.some.inj (e0.symm.trans e)
 simp only [Int.toNat_natCast] at c0 c1 c2 c3 c4'
 rw [hs, addr_at] at c0 c1 c2 c3 c4'
 have er : rd_T34 xs i = xs[i] := by simp [rd_T34, hi]
 rw [er] at c0 c1 c2 c3 c4' l4 g4
 exact ⟨ad0.block, ad0.off, A4, c4, by rw [e0, ← hs], c0, c1, c2, c3, c4', l4, g4⟩
def deepB (x : Rw) : Bool := decide (60 ≤ x.f0)
def rows_big.f (l0 : List Rw) : Option Bool := some (decide (4096 < l0.length) || l0.any deepB)
end Go.Proofs.YtkcmghlhpbepcaaGreatDoorH.W7
