/- boltinglaw08.WriteRows returns true and leaves its arguments as they were, where what it reads is of bulk at most 1048576: the row and its card. Conditions: the row's own (that bulk; the form's reach; the listed variables as the program's text lays them). -/
import Derived.Test.YtdnbaliibiginaaDoorV4
import Derived.Test.YtdnbaliibiginaaDoorV10
import Derived.Test.YtdnbaliibiginaaDoorV19
import Derived.Test.YtdnbaliibiginaaDoorV20
import Derived.Test.YtdnbaliibiginaaDoorV16
import Derived.Test.YtdnbaliibiginaaDoorV36
import Derived.Test.YtdnbaliibiginaaDoorV37
import Derived.Test.YtdnbaliibiginaaDoorV18
import Derived.Test.YtdnbaliibiginaaDoorRows
import Derived.Test.YtdnbaliibiginaaDoorV8
import Derived.Lib.LaidU8T
import Derived.WalkKit
import Derived.ProofKit
import Derived.OpenShut
import Derived.SizedLaws
import Derived.Deep.DeepHandedRow
import Derived.Deep.DeepWitnessRowRef
import Derived.Lib.LaidIn
import Derived.Shelf.Vars
import Derived.Test.YtdnbaliibiginaaDoorCards
import Derived.Test.YtdnbaliibiginaaDoorTie
import Derived.Carry
import Derived.ShutString
set_option linter.unusedVariables false
set_option linter.unusedSimpArgs false

/- Words and walks used below. -/
namespace Go.Proofs.YtdnbaliibiginaaDoorH.W8
open Go.RowKit Go.Proofs.YtdnbaliibiginaaDoorW.PrintWords Go.Proofs.YtdnbaliibiginaaDoorW.PrintLast Go.Proofs.YtdnbaliibiginaaDoorW.PrintMore
attribute [local go_sem] max2_int min2_int max_two min_two max_three min_three max_four min_four   -- for this text's walks alone
def boltinglaw08_WriteRows.f (k : Nat) (l0 : List (S35)) (a1 : Int) : Option (Bool) := (boltinglaw08_bound.f k l0).bind fun t315 => ((boltingref04_Right.f k t315).bind fun t318 => (if t318 = true then ((write_Rows.f t315).bind fun t320 => ((boltingref08_Within.f t315 (-1)).bind fun t321 => (if t320.toList = t321.toList then ((write_Inside.f k t315 a1).bind fun t322 => ((boltingref08_Inside.f t315 a1).bind fun t323 => (if t322.toList = t323.toList then ((boltinglaw08_fixed.f).bind fun t324 => (some t324)) else (some false)))) else (some false)))) else ((boltinglaw08_fixed.f).bind fun t319 => (some t319))))
set_option maxHeartbeats 8000000 in
set_option maxRecDepth 100000 in
theorem boltinglaw08_WriteRows.calls (k : Nat) (A0 : Option Addr) (c0 : Nat) (l0 : List (S35)) (a1 : Int) (r : Bool) (w : World) (hr0 : Kd.C k35 w A0 l0.length l0) (hc0 : l0.length ≤ c0) (h : boltinglaw08_WriteRows.f k l0 a1 = some r) (hS_ : Go.Proofs.YtdnbaliibiginaaDoor.Std8 w) :
  Calls Tryd.prog 3 #[.slice A0 l0.length c0, .int .i64 a1] w fun e w' => e = .returned (.bool r) ∧ Below w.heap.size w w' := by
 have HS_ := Aside0.mk hS_
 clear hS_
 have HR0 := Aside0.mk hr0
 have HC0 := Aside0.mk hc0
 clear hr0 hc0
 have HB := Aside0.mk (Below.refl w.heap.size w)
 have H : ((boltinglaw08_bound.f k l0).bind fun t315 => ((boltingref04_Right.f k t315).bind fun t318 => (if t318 = true then ((write_Rows.f t315).bind fun t320 => ((boltingref08_Within.f t315 (-1)).bind fun t321 => (if t320.toList = t321.toList then ((write_Inside.f k t315 a1).bind fun t322 => ((boltingref08_Inside.f t315 a1).bind fun t323 => (if t322.toList = t323.toList then ((boltinglaw08_fixed.f).bind fun t324 => (some t324)) else (some false)))) else (some false)))) else ((boltinglaw08_fixed.f).bind fun t319 => (some t319))))) = some r := h
 clear h
 replace H := Option.bind_eq_some_iff.mp H
 obtain ⟨t315, A30, H⟩ := H
 replace H : ((boltingref04_Right.f k t315).bind fun t318 => (if t318 = true then ((write_Rows.f t315).bind fun t320 => ((boltingref08_Within.f t315 (-1)).bind fun t321 => (if t320.toList = t321.toList then ((write_Inside.f k t315 a1).bind fun t322 => ((boltingref08_Inside.f t315 a1).bind fun t323 => (if t322.toList = t323.toList then ((boltinglaw08_fixed.f).bind fun t324 => (some t324)) else (some false)))) else (some false)))) else ((boltinglaw08_fixed.f).bind fun t319 => (some t319)))) = some r := H
 have A3 := Aside0.mk A30
 clear A30
 replace H := Option.bind_eq_some_iff.mp H
 obtain ⟨t318, A40, H⟩ := H
 replace H : (if t318 = true then ((write_Rows.f t315).bind fun t320 => ((boltingref08_Within.f t315 (-1)).bind fun t321 => (if t320.toList = t321.toList then ((write_Inside.f k t315 a1).bind fun t322 => ((boltingref08_Inside.f t315 a1).bind fun t323 => (if t322.toList = t323.toList then ((boltinglaw08_fixed.f).bind fun t324 => (some t324)) else (some false)))) else (some false)))) else ((boltinglaw08_fixed.f).bind fun t319 => (some t319))) = some r := H
 have A4 := Aside0.mk A40
 clear A40
 by_cases c5 : t318 = true
 ·subst c5
  have H1 : ((write_Rows.f t315).bind fun t320 => ((boltingref08_Within.f t315 (-1)).bind fun t321 => (if t320.toList = t321.toList then ((write_Inside.f k t315 a1).bind fun t322 => ((boltingref08_Inside.f t315 a1).bind fun t323 => (if t322.toList = t323.toList then ((boltinglaw08_fixed.f).bind fun t324 => (some t324)) else (some false)))) else (some false)))) = some r := by rw [if_pos rfl] at H; exact H
  clear H
  have H := H1
  clear H1
  replace H := Option.bind_eq_some_iff.mp H
  obtain ⟨t320, A60, H⟩ := H
  replace H : ((boltingref08_Within.f t315 (-1)).bind fun t321 => (if t320.toList = t321.toList then ((write_Inside.f k t315 a1).bind fun t322 => ((boltingref08_Inside.f t315 a1).bind fun t323 => (if t322.toList = t323.toList then ((boltinglaw08_fixed.f).bind fun t324 => (some t324)) else (some false)))) else (some false))) = some r := H
  have A6 := Aside0.mk A60
  clear A60
  replace H := Option.bind_eq_some_iff.mp H
  obtain ⟨t321, A70, H⟩ := H
  replace H : (if t320.toList = t321.toList then ((write_Inside.f k t315 a1).bind fun t322 => ((boltingref08_Inside.f t315 a1).bind fun t323 => (if t322.toList = t323.toList then ((boltinglaw08_fixed.f).bind fun t324 => (some t324)) else (some false)))) else (some false)) = some r := H
  have A7 := Aside0.mk A70
  clear A70
  by_cases c8 : t320.toList = t321.toList
  ·rw [if_pos c8] at H
   have c8b0 : (t320.toList == t321.toList) = true := beq_iff_eq.mpr c8
   have c8b1 : (t320.toList != t321.toList) = false := bne_eq_false_iff_eq.mpr c8
   clear c8
   replace H := Option.bind_eq_some_iff.mp H
   obtain ⟨t322, A90, H⟩ := H
   replace H : ((boltingref08_Inside.f t315 a1).bind fun t323 => (if t322.toList = t323.toList then ((boltinglaw08_fixed.f).bind fun t324 => (some t324)) else (some false))) = some r := H
   have A9 := Aside0.mk A90
   clear A90
   replace H := Option.bind_eq_some_iff.mp H
   obtain ⟨t323, A100, H⟩ := H
   replace H : (if t322.toList = t323.toList then ((boltinglaw08_fixed.f).bind fun t324 => (some t324)) else (some false)) = some r := H
   have A10 := Aside0.mk A100
   clear A100
   by_cases c11 : t322.toList = t323.toList
   ·rw [if_pos c11] at H
    have c11b0 : (t322.toList == t323.toList) = true := beq_iff_eq.mpr c11
    have c11b1 : (t322.toList != t323.toList) = false := bne_eq_false_iff_eq.mpr c11
    clear c11
    replace H := Option.bind_eq_some_iff.mp H
    obtain ⟨t324, A120, H⟩ := H
    replace H : (some t324) = some r := H
    have A12 := Aside0.mk A120
    clear A120
    obtain rfl := Option.some.inj H
    go_enter Tryd.func3, Tryd.ntmps3
    go_wp2_with (first | ((with_reducible refine gate_callee (f := 7) rfl ?_); refine goesL_ (some 6) rfl rfl Tryd.func7 (by kernel_rfl) rfl #[.slice A0 l0.length c0] rfl (by (try simp only [List.map_toArray, List.map_cons, List.map_nil]); first | done | rfl | (simp only [List.length_drop, List.length_take]; rfl)) ?_; (with_reducible refine (boltinglaw08_bound.calls k (fun k_ => k_ < w.heap.size) _ _ l0 t315 _ ?side1 A3.out).mono ?_); (case side1 => exact Kd.V_mk HC0.out (Kd.F_below (Kd.C_F k35_heap HR0.out) bz)); rintro e w13 ⟨v316, rfl, ho0, hb⟩; refine ⟨_, rfl, ?_⟩; have n0_ := Aside0.mk (Kd.N_lower (Kd.N_mono (ok' := fun k_ => True) ho0 (fun k_ hk_ => trivial)) (below_size bz)); have n1_ := Aside0.mk (below_step bz hb); clear HB; have HO317 := n0_; have HB := n1_; clear n0_ n1_; (try clear hb); (try clear hb2); (try clear hk); (try clear hi); (try clear ho0); obtain ⟨Ao14, co14, eo14⟩ := Kd.N_slice HO317.out; subst eo14) | ((with_reducible refine gate_callee (f := 8) rfl ?_); refine goesL_ (some 8) rfl rfl Tryd.func8 (by kernel_rfl) rfl #[.slice Ao14 t315.length co14] rfl (by (try simp only [List.map_toArray, List.map_cons, List.map_nil]); first | done | rfl | (simp only [List.length_drop, List.length_take]; rfl)) ?_; (with_reducible refine (boltingref04_Right.calls k _ _ t315 true _ ?side1 ?side2 A4.out).mono ?_); (case side1 => exact cz (Kd.N_reads' HO317.out).2.2); (case side2 => exact (Kd.N_reads' HO317.out).2.1); rintro e w15 ⟨rfl, hb⟩; refine ⟨_, rfl, ?_⟩; have n0_ := Aside0.mk (Kd.N_below (nz HO317.out) hb); have n1_ := Aside0.mk (below_step bz hb); clear HO317; clear HB; have HO317 := n0_; have HB := n1_; clear n0_ n1_; (try clear hb); (try clear hb2); (try clear hk); (try clear hi)) | ((with_reducible refine gate_callee (f := 10) rfl ?_); refine goesL_ (some 12) rfl rfl Tryd.func10 (by kernel_rfl) rfl #[.slice Ao14 t315.length co14] rfl (by (try simp only [List.map_toArray, List.map_cons, List.map_nil]); first | done | rfl | (simp only [List.length_drop, List.length_take]; rfl)) ?_; (with_reducible refine (write_Rows.calls _ _ t315 t320 _ ?side1 ?side2 A6.out (Go.Proofs.YtdnbaliibiginaaDoor.Std8.below HS_.out bz)).mono ?_); (case side1 => exact cz (Kd.N_reads' HO317.out).2.2); (case side2 => exact (Kd.N_reads' HO317.out).2.1); rintro e w16 ⟨rfl, hb⟩; refine ⟨_, rfl, ?_⟩; have n0_ := Aside0.mk (Kd.N_below (nz HO317.out) hb); have n1_ := Aside0.mk (below_step bz hb); clear HO317; clear HB; have HO317 := n0_; have HB := n1_; clear n0_ n1_; (try clear hb); (try clear hb2); (try clear hk); (try clear hi)) | ((with_reducible refine gate_callee (f := 11) rfl ?_); refine goesL_ (some 14) rfl rfl Tryd.func11 (by kernel_rfl) rfl #[.slice Ao14 t315.length co14, .int .i64 (-1)] rfl (by (try simp only [List.map_toArray, List.map_cons, List.map_nil]); first | done | rfl | (simp only [List.length_drop, List.length_take]; rfl)) ?_; (with_reducible refine (boltingref08_Within.calls _ _ t315 (-1) t321 _ ?side1 ?side2 A7.out).mono ?_); (case side1 => exact cz (Kd.N_reads' HO317.out).2.2); (case side2 => exact (Kd.N_reads' HO317.out).2.1); rintro e w17 ⟨rfl, hb⟩; refine ⟨_, rfl, ?_⟩; have n0_ := Aside0.mk (Kd.N_below (nz HO317.out) hb); have n1_ := Aside0.mk (below_step bz hb); clear HO317; clear HB; have HO317 := n0_; have HB := n1_; clear n0_ n1_; (try clear hb); (try clear hb2); (try clear hk); (try clear hi)) | (go_at_call 12; (with_reducible refine (write_Inside.calls k _ _ t315 a1 t322 _ ?side1 ?side2 A9.out (Go.Proofs.YtdnbaliibiginaaDoor.Std8.below HS_.out bz)).mono ?_); (case side1 => exact cz (Kd.N_reads' HO317.out).2.2); (case side2 => exact (Kd.N_reads' HO317.out).2.1); rintro e w18 ⟨rfl, hb⟩; have n0_ := Aside0.mk (Kd.N_below (nz HO317.out) hb); have n1_ := Aside0.mk (below_step bz hb); clear HO317; clear HB; have HO317 := n0_; have HB := n1_; clear n0_ n1_; (try clear hb); (try clear hb2); (try clear hk); (try clear hi)) | (go_at_call 13; (with_reducible refine (boltingref08_Inside.calls _ _ t315 a1 t323 _ ?side1 ?side2 A10.out).mono ?_); (case side1 => exact cz (Kd.N_reads' HO317.out).2.2); (case side2 => exact (Kd.N_reads' HO317.out).2.1); rintro e w19 ⟨rfl, hb⟩; have n0_ := Aside0.mk (Kd.N_below (nz HO317.out) hb); have n1_ := Aside0.mk (below_step bz hb); clear HO317; clear HB; have HO317 := n0_; have HB := n1_; clear n0_ n1_; (try clear hb); (try clear hb2); (try clear hk); (try clear hi)) | (go_at_call 9; (with_reducible refine (boltinglaw08_fixed.calls  t324 _ A12.out (Go.Proofs.YtdnbaliibiginaaDoor.Std8.below HS_.out bz)).mono ?_); rintro e w20 ⟨rfl, hb⟩; have n0_ := Aside0.mk (Kd.N_below (nz HO317.out) hb); have n1_ := Aside0.mk (below_step bz hb); clear HO317; clear HB; have HO317 := n0_; have HB := n1_; clear n0_ n1_; (try clear hb); (try clear hb2); (try clear hk); (try clear hi)))
    go_ret
    exact ⟨by first | rfl | (simp [errW_none, errW_some] <;> rfl) | (simp [*, errW_none, errW_some] <;> rfl), bz⟩
   ·rw [if_neg c11] at H
    have c11b0 : (t322.toList == t323.toList) = false := beq_eq_false_iff_ne.mpr c11
    have c11b1 : (t322.toList != t323.toList) = true := bne_iff_ne.mpr c11
    obtain rfl := Option.some.inj H
    go_enter Tryd.func3, Tryd.ntmps3
    go_wp2_with (first | ((with_reducible refine gate_callee (f := 7) rfl ?_); refine goesL_ (some 6) rfl rfl Tryd.func7 (by kernel_rfl) rfl #[.slice A0 l0.length c0] rfl (by (try simp only [List.map_toArray, List.map_cons, List.map_nil]); first | done | rfl | (simp only [List.length_drop, List.length_take]; rfl)) ?_; (with_reducible refine (boltinglaw08_bound.calls k (fun k_ => k_ < w.heap.size) _ _ l0 t315 _ ?side1 A3.out).mono ?_); (case side1 => exact Kd.V_mk HC0.out (Kd.F_below (Kd.C_F k35_heap HR0.out) bz)); rintro e w21 ⟨v316, rfl, ho0, hb⟩; refine ⟨_, rfl, ?_⟩; have n0_ := Aside0.mk (Kd.N_lower (Kd.N_mono (ok' := fun k_ => True) ho0 (fun k_ hk_ => trivial)) (below_size bz)); have n1_ := Aside0.mk (below_step bz hb); clear HB; have HO317 := n0_; have HB := n1_; clear n0_ n1_; (try clear hb); (try clear hb2); (try clear hk); (try clear hi); (try clear ho0); obtain ⟨Ao22, co22, eo22⟩ := Kd.N_slice HO317.out; subst eo22) | ((with_reducible refine gate_callee (f := 8) rfl ?_); refine goesL_ (some 8) rfl rfl Tryd.func8 (by kernel_rfl) rfl #[.slice Ao22 t315.length co22] rfl (by (try simp only [List.map_toArray, List.map_cons, List.map_nil]); first | done | rfl | (simp only [List.length_drop, List.length_take]; rfl)) ?_; (with_reducible refine (boltingref04_Right.calls k _ _ t315 true _ ?side1 ?side2 A4.out).mono ?_); (case side1 => exact cz (Kd.N_reads' HO317.out).2.2); (case side2 => exact (Kd.N_reads' HO317.out).2.1); rintro e w23 ⟨rfl, hb⟩; refine ⟨_, rfl, ?_⟩; have n0_ := Aside0.mk (Kd.N_below (nz HO317.out) hb); have n1_ := Aside0.mk (below_step bz hb); clear HO317; clear HB; have HO317 := n0_; have HB := n1_; clear n0_ n1_; (try clear hb); (try clear hb2); (try clear hk); (try clear hi)) | ((with_reducible refine gate_callee (f := 10) rfl ?_); refine goesL_ (some 12) rfl rfl Tryd.func10 (by kernel_rfl) rfl #[.slice Ao22 t315.length co22] rfl (by (try simp only [List.map_toArray, List.map_cons, List.map_nil]); first | done | rfl | (simp only [List.length_drop, List.length_take]; rfl)) ?_; (with_reducible refine (write_Rows.calls _ _ t315 t320 _ ?side1 ?side2 A6.out (Go.Proofs.YtdnbaliibiginaaDoor.Std8.below HS_.out bz)).mono ?_); (case side1 => exact cz (Kd.N_reads' HO317.out).2.2); (case side2 => exact (Kd.N_reads' HO317.out).2.1); rintro e w24 ⟨rfl, hb⟩; refine ⟨_, rfl, ?_⟩; have n0_ := Aside0.mk (Kd.N_below (nz HO317.out) hb); have n1_ := Aside0.mk (below_step bz hb); clear HO317; clear HB; have HO317 := n0_; have HB := n1_; clear n0_ n1_; (try clear hb); (try clear hb2); (try clear hk); (try clear hi)) | ((with_reducible refine gate_callee (f := 11) rfl ?_); refine goesL_ (some 14) rfl rfl Tryd.func11 (by kernel_rfl) rfl #[.slice Ao22 t315.length co22, .int .i64 (-1)] rfl (by (try simp only [List.map_toArray, List.map_cons, List.map_nil]); first | done | rfl | (simp only [List.length_drop, List.length_take]; rfl)) ?_; (with_reducible refine (boltingref08_Within.calls _ _ t315 (-1) t321 _ ?side1 ?side2 A7.out).mono ?_); (case side1 => exact cz (Kd.N_reads' HO317.out).2.2); (case side2 => exact (Kd.N_reads' HO317.out).2.1); rintro e w25 ⟨rfl, hb⟩; refine ⟨_, rfl, ?_⟩; have n0_ := Aside0.mk (Kd.N_below (nz HO317.out) hb); have n1_ := Aside0.mk (below_step bz hb); clear HO317; clear HB; have HO317 := n0_; have HB := n1_; clear n0_ n1_; (try clear hb); (try clear hb2); (try clear hk); (try clear hi)) | (go_at_call 12; (with_reducible refine (write_Inside.calls k _ _ t315 a1 t322 _ ?side1 ?side2 A9.out (Go.Proofs.YtdnbaliibiginaaDoor.Std8.below HS_.out bz)).mono ?_); (case side1 => exact cz (Kd.N_reads' HO317.out).2.2); (case side2 => exact (Kd.N_reads' HO317.out).2.1); rintro e w26 ⟨rfl, hb⟩; have n0_ := Aside0.mk (Kd.N_below (nz HO317.out) hb); have n1_ := Aside0.mk (below_step bz hb); clear HO317; clear HB; have HO317 := n0_; have HB := n1_; clear n0_ n1_; (try clear hb); (try clear hb2); (try clear hk); (try clear hi)) | (go_at_call 13; (with_reducible refine (boltingref08_Inside.calls _ _ t315 a1 t323 _ ?side1 ?side2 A10.out).mono ?_); (case side1 => exact cz (Kd.N_reads' HO317.out).2.2); (case side2 => exact (Kd.N_reads' HO317.out).2.1); rintro e w27 ⟨rfl, hb⟩; have n0_ := Aside0.mk (Kd.N_below (nz HO317.out) hb); have n1_ := Aside0.mk (below_step bz hb); clear HO317; clear HB; have HO317 := n0_; have HB := n1_; clear n0_ n1_; (try clear hb); (try clear hb2); (try clear hk); (try clear hi)))
    go_ret
    exact ⟨by first | rfl | (simp [errW_none, errW_some] <;> rfl) | (simp [*, errW_none, errW_some] <;> rfl), bz⟩
  ·rw [if_neg c8] at H
   have c8b0 : (t320.toList == t321.toList) = false := beq_eq_false_iff_ne.mpr c8
   have c8b1 : (t320.toList != t321.toList) = true := bne_iff_ne.mpr c8
   obtain rfl := Option.some.inj H
   go_enter Tryd.func3, Tryd.ntmps3
   go_wp2_with (first | ((with_reducible refine gate_callee (f := 7) rfl ?_); refine goesL_ (some 6) rfl rfl Tryd.func7 (by kernel_rfl) rfl #[.slice A0 l0.length c0] rfl (by (try simp only [List.map_toArray, List.map_cons, List.map_nil]); first | done | rfl | (simp only [List.length_drop, List.length_take]; rfl)) ?_; (with_reducible refine (boltinglaw08_bound.calls k (fun k_ => k_ < w.heap.size) _ _ l0 t315 _ ?side1 A3.out).mono ?_); (case side1 => exact Kd.V_mk HC0.out (Kd.F_below (Kd.C_F k35_heap HR0.out) bz)); rintro e w28 ⟨v316, rfl, ho0, hb⟩; refine ⟨_, rfl, ?_⟩; have n0_ := Aside0.mk (Kd.N_lower (Kd.N_mono (ok' := fun k_ => True) ho0 (fun k_ hk_ => trivial)) (below_size bz)); have n1_ := Aside0.mk (below_step bz hb); clear HB; have HO317 := n0_; have HB := n1_; clear n0_ n1_; (try clear hb); (try clear hb2); (try clear hk); (try clear hi); (try clear ho0); obtain ⟨Ao29, co29, eo29⟩ := Kd.N_slice HO317.out; subst eo29) | ((with_reducible refine gate_callee (f := 8) rfl ?_); refine goesL_ (some 8) rfl rfl Tryd.func8 (by kernel_rfl) rfl #[.slice Ao29 t315.length co29] rfl (by (try simp only [List.map_toArray, List.map_cons, List.map_nil]); first | done | rfl | (simp only [List.length_drop, List.length_take]; rfl)) ?_; (with_reducible refine (boltingref04_Right.calls k _ _ t315 true _ ?side1 ?side2 A4.out).mono ?_); (case side1 => exact cz (Kd.N_reads' HO317.out).2.2); (case side2 => exact (Kd.N_reads' HO317.out).2.1); rintro e w30 ⟨rfl, hb⟩; refine ⟨_, rfl, ?_⟩; have n0_ := Aside0.mk (Kd.N_below (nz HO317.out) hb); have n1_ := Aside0.mk (below_step bz hb); clear HO317; clear HB; have HO317 := n0_; have HB := n1_; clear n0_ n1_; (try clear hb); (try clear hb2); (try clear hk); (try clear hi)) | ((with_reducible refine gate_callee (f := 10) rfl ?_); refine goesL_ (some 12) rfl rfl Tryd.func10 (by kernel_rfl) rfl #[.slice Ao29 t315.length co29] rfl (by (try simp only [List.map_toArray, List.map_cons, List.map_nil]); first | done | rfl | (simp only [List.length_drop, List.length_take]; rfl)) ?_; (with_reducible refine (write_Rows.calls _ _ t315 t320 _ ?side1 ?side2 A6.out (Go.Proofs.YtdnbaliibiginaaDoor.Std8.below HS_.out bz)).mono ?_); (case side1 => exact cz (Kd.N_reads' HO317.out).2.2); (case side2 => exact (Kd.N_reads' HO317.out).2.1); rintro e w31 ⟨rfl, hb⟩; refine ⟨_, rfl, ?_⟩; have n0_ := Aside0.mk (Kd.N_below (nz HO317.out) hb); have n1_ := Aside0.mk (below_step bz hb); clear HO317; clear HB; have HO317 := n0_; have HB := n1_; clear n0_ n1_; (try clear hb); (try clear hb2); (try clear hk); (try clear hi)) | ((with_reducible refine gate_callee (f := 11) rfl ?_); refine goesL_ (some 14) rfl rfl Tryd.func11 (by kernel_rfl) rfl #[.slice Ao29 t315.length co29, .int .i64 (-1)] rfl (by (try simp only [List.map_toArray, List.map_cons, List.map_nil]); first | done | rfl | (simp only [List.length_drop, List.length_take]; rfl)) ?_; (with_reducible refine (boltingref08_Within.calls _ _ t315 (-1) t321 _ ?side1 ?side2 A7.out).mono ?_); (case side1 => exact cz (Kd.N_reads' HO317.out).2.2); (case side2 => exact (Kd.N_reads' HO317.out).2.1); rintro e w32 ⟨rfl, hb⟩; refine ⟨_, rfl, ?_⟩; have n0_ := Aside0.mk (Kd.N_below (nz HO317.out) hb); have n1_ := Aside0.mk (below_step bz hb); clear HO317; clear HB; have HO317 := n0_; have HB := n1_; clear n0_ n1_; (try clear hb); (try clear hb2); (try clear hk); (try clear hi)))
   go_ret
   exact ⟨by first | rfl | (simp [errW_none, errW_some] <;> rfl) | (simp [*, errW_none, errW_some] <;> rfl), bz⟩
 ·replace c5 := Bool.eq_false_iff.mpr c5
  subst c5
  have H1 : ((boltinglaw08_fixed.f).bind fun t319 => (some t319)) = some r := by rw [if_neg (show ¬ (false = true) by decide)] at H; first | exact H | (simp only [eq_self] at H ⊢; exact H) | (simp only [eq_self, if_true] at H ⊢; exact H)
  clear H
  have H := H1
  clear H1
  replace H := Option.bind_eq_some_iff.mp H
  obtain ⟨t319, A330, H⟩ := H
  replace H : (some t319) = some r := H
  have A33 := Aside0.mk A330
  clear A330
  obtain rfl := Option.some.inj H
  go_enter Tryd.func3, Tryd.ntmps3
  go_wp2_with (first | ((with_reducible refine gate_callee (f := 7) rfl ?_); refine goesL_ (some 6) rfl rfl Tryd.func7 (by kernel_rfl) rfl #[.slice A0 l0.length c0] rfl (by (try simp only [List.map_toArray, List.map_cons, List.map_nil]); first | done | rfl | (simp only [List.length_drop, List.length_take]; rfl)) ?_; (with_reducible refine (boltinglaw08_bound.calls k (fun k_ => k_ < w.heap.size) _ _ l0 t315 _ ?side1 A3.out).mono ?_); (case side1 => exact Kd.V_mk HC0.out (Kd.F_below (Kd.C_F k35_heap HR0.out) bz)); rintro e w34 ⟨v316, rfl, ho0, hb⟩; refine ⟨_, rfl, ?_⟩; have n0_ := Aside0.mk (Kd.N_lower (Kd.N_mono (ok' := fun k_ => True) ho0 (fun k_ hk_ => trivial)) (below_size bz)); have n1_ := Aside0.mk (below_step bz hb); clear HB; have HO317 := n0_; have HB := n1_; clear n0_ n1_; (try clear hb); (try clear hb2); (try clear hk); (try clear hi); (try clear ho0); obtain ⟨Ao35, co35, eo35⟩ := Kd.N_slice HO317.out; subst eo35) | ((with_reducible refine gate_callee (f := 8) rfl ?_); refine goesL_ (some 8) rfl rfl Tryd.func8 (by kernel_rfl) rfl #[.slice Ao35 t315.length co35] rfl (by (try simp only [List.map_toArray, List.map_cons, List.map_nil]); first | done | rfl | (simp only [List.length_drop, List.length_take]; rfl)) ?_; (with_reducible refine (boltingref04_Right.calls k _ _ t315 false _ ?side1 ?side2 A4.out).mono ?_); (case side1 => exact cz (Kd.N_reads' HO317.out).2.2); (case side2 => exact (Kd.N_reads' HO317.out).2.1); rintro e w36 ⟨rfl, hb⟩; refine ⟨_, rfl, ?_⟩; have n0_ := Aside0.mk (Kd.N_below (nz HO317.out) hb); have n1_ := Aside0.mk (below_step bz hb); clear HO317; clear HB; have HO317 := n0_; have HB := n1_; clear n0_ n1_; (try clear hb); (try clear hb2); (try clear hk); (try clear hi)) | ((with_reducible refine gate_callee (f := 9) rfl ?_); refine goesL_ (some 10) rfl rfl Tryd.func9 (by kernel_rfl) rfl #[] rfl (by (try simp only [List.map_toArray, List.map_cons, List.map_nil]); first | done | rfl | (simp only [List.length_drop, List.length_take]; rfl)) ?_; (with_reducible refine (boltinglaw08_fixed.calls  t319 _ A33.out (Go.Proofs.YtdnbaliibiginaaDoor.Std8.below HS_.out bz)).mono ?_); rintro e w37 ⟨rfl, hb⟩; refine ⟨_, rfl, ?_⟩; have n0_ := Aside0.mk (Kd.N_below (nz HO317.out) hb); have n1_ := Aside0.mk (below_step bz hb); clear HO317; clear HB; have HO317 := n0_; have HB := n1_; clear n0_ n1_; (try clear hb); (try clear hb2); (try clear hk); (try clear hi)))
  go_ret
  exact ⟨by first | rfl | (simp [errW_none, errW_some] <;> rfl) | (simp [*, errW_none, errW_some] <;> rfl), bz⟩
end Go.Proofs.YtdnbaliibiginaaDoorH.W8

/- WriteRows, in numbers and lists alone: what is bounded is written alike by both. -/
namespace Go.Proofs.YtdnbaliibiginaaDoorH.W8
open Go.RowKit Go.Proofs Go.Proofs.YtdnbaliibiginaaDoorH Go.Proofs.YtdnbaliibiginaaDoor Go.Proofs.YtdnbaliibiginaaDoorW.PrintWords
def cutR (x : Rw) : Rw := ⟨x.f0, x.f1, x.f2, x.f3, x.f4.take ((mn (x.f4.length : Int) 6) : Int).toNat⟩
theorem mn6' (n : Nat) : 0 ≤ mn (n : Int) 6 ∧ mn (n : Int) 6 ≤ n ∧ mn (n : Int) 6 ≤ 6 := by unfold mn; split <;> omega
theorem bound_l0 (l : List Rw) (hl : l.length ≤ 1000000000) : ∀ (d i k : Nat) (acc : List Rw), 40 - i ≤ d → acc.length = i → d < k →
  boltinglaw08_bound.l0 k l acc i = some (acc ++ ((l.drop i).take (40 - i)).map cutR) := by
 intro d
 induction d with
 | zero =>
  intro i k acc hd ha hk
  obtain ⟨k, rfl⟩ : ∃ m, k = m + 1 := ⟨k - 1, by omega⟩
  rw [show 40 - i = 0 from by omega]
  simp only [boltinglaw08_bound.l0]
  by_cases h1 : (i : Int) < (l.length : Int)
  ·rw [if_pos h1, if_neg (by omega)]; simp
  ·rw [if_neg h1]; simp
 | succ d ih =>
  intro i k acc hd ha hk
  obtain ⟨k, rfl⟩ : ∃ m, k = m + 1 := ⟨k - 1, by omega⟩
  by_cases h1 : (i : Int) < (l.length : Int)
  ·by_cases h2 : (i : Int) < 40
   ·have hi : i < l.length := by omega
    have hm := mn6' l[i].f4.length
    have := ih (i + 1) k (acc ++ [cutR l[i]]) (by omega) (by simp [ha]) (by omega)
    simp only [boltinglaw08_bound.l0]
    rw [if_pos h1, if_pos h2, if_pos (by omega), rd35_at l i hi, if_pos hm.1, if_pos hm.2.1, if_pos (by omega), wN (by omega)]
    refine this.trans ?_
    rw [List.append_assoc]
    congr 2
    rw [show 40 - i = (40 - (i + 1)) + 1 from by omega, List.drop_eq_getElem_cons hi, List.take_succ_cons]
    rfl
   ·simp only [boltinglaw08_bound.l0]
    rw [if_pos h1, if_neg h2, show 40 - i = 0 from by omega]; simp
  ·simp only [boltinglaw08_bound.l0]
   rw [if_neg h1, List.drop_of_length_le (by omega)]; simp
theorem bound_f (l : List Rw) (hl : l.length ≤ 1000000000) (k : Nat) (hk : 100 ≤ k) : boltinglaw08_bound.f k l = some ((l.take 40).map cutR) := by
 have := bound_l0 l hl 40 0 k [] (by omega) rfl (by omega)
 simpa [boltinglaw08_bound.f] using this
theorem atts_wt : ∀ (l : List S45), (l.flatMap atT).length ≤ 6 * (l.map wt45).sum
 | [] => by simp
 | a :: l => by
  have ih := atts_wt l
  have h1 := wr_len true a.f1.data.toList
  have e0 := ba_size a.f0
  have e1 := ba_size a.f1
  simp only [List.flatMap_cons, List.length_append, List.map_cons, List.sum_cons, wt45, atT, List.length_cons, List.length_nil] at *
  omega
theorem own_wt (x : Rw) : own x ≤ 30 * wt35 x := by
 have h1 := atts_wt x.f4
 have e0 := ba_size x.f2
 have e1 := ba_size x.f3
 have e2 : (x.f4.map (fun x => wt45 x)).sum = (x.f4.map wt45).sum := rfl
 unfold own tagT
 simp only [List.length_append, List.length_cons, List.length_nil, wt35] at *
 omega
theorem owns_wt : ∀ (l : List Rw), (l.map own).sum ≤ 30 * (l.map wt35).sum
 | [] => by simp
 | x :: l => by have := owns_wt l; have := own_wt x; simp only [List.map_cons, List.sum_cons]; omega
theorem sum_take' {α : Type} (f : α → Nat) : ∀ (l : List α) (n : Nat), ((l.take n).map f).sum ≤ (l.map f).sum
 | [], n => by simp
 | a :: l, 0 => by simp
 | a :: l, n + 1 => by have := sum_take' f l n; simp only [List.take_succ_cons, List.map_cons, List.sum_cons]; omega
theorem cutR_wt (x : Rw) : wt35 (cutR x) ≤ wt35 x := by
 have := sum_take' wt45 x.f4 (mn (x.f4.length : Int) 6).toNat
 simp only [wt35, cutR]
 omega
theorem cutRs_wt : ∀ (l : List Rw), ((l.map cutR).map wt35).sum ≤ (l.map wt35).sum
 | [] => by simp
 | x :: l => by have := cutRs_wt l; have := cutR_wt x; simp only [List.map_cons, List.sum_cons]; omega
theorem lenR_wt : ∀ (l : List Rw), l.length ≤ (l.map wt35).sum
 | [] => by simp
 | x :: l => by have := lenR_wt l; simp only [List.map_cons, List.sum_cons, List.length_cons, wt35]; omega
theorem size_of (l : List Rw) (h : (l.map wt35).sum ≤ 2000000) : SizeP ((l.take 40).map cutR) := by
 refine ⟨by rw [List.length_map, List.length_take]; omega, ?_, ?_⟩
 ·have h1 := owns_wt ((l.take 40).map cutR)
  have h2 := cutRs_wt (l.take 40)
  have h3 := sum_take' wt35 l 40
  unfold sufS
  rw [List.drop_zero]
  omega
 ·intro x hx
  obtain ⟨y, _, rfl⟩ := List.mem_map.1 hx
  have := mn6' y.f4.length
  simp only [cutR, List.length_take]
  omega
theorem fixed_k : boltinglaw08_fixed.f = some true := rfl
theorem same_list {a b : ByteArray} (h : a.data.toList = b.data.toList) : a.toList = b.toList := (bIff a b).2 h
theorem writeRows (l : List Rw) (i : Int) (h : (l.map wt35).sum ≤ 2000000) : boltinglaw08_WriteRows.f 1000 l i = some true := by
 have hl := lenR_wt l
 have hz := size_of l h
 unfold boltinglaw08_WriteRows.f
 rw [bound_f l (by omega) _ (by omega), Option.bind_some]
 generalize (l.take 40).map cutR = xs at *
 have hlen := hz.len
 obtain ⟨b, hb, hr⟩ := right_f xs (by omega) hz.atts 1000 (by omega)
 rw [hb, Option.bind_some]
 cases b with
 | false => rw [if_neg (by decide), fixed_k, Option.bind_some]
 | true =>
  have hp := hr rfl
  rw [if_pos rfl]
  have hw := written_f xs hz hp
  obtain ⟨r1, e1, d1⟩ := within_f xs hz hp (-1) (.inl rfl)
  unfold write_Rows.f
  rw [hw (-1) (.inl rfl), Option.bind_some, Option.bind_some, e1, Option.bind_some, if_pos (same_list (by rw [d1]))]
  -- what any node has
  have hin : ∃ a b, write_Inside.f 1000 xs i = some a ∧ boltingref08_Inside.f xs i = some b ∧ a.data.toList = b.data.toList := by
   unfold write_Inside.f boltingref08_Inside.f
   by_cases h1 : i = -1
   ·subst h1
    rw [if_pos rfl, hw (-1) (.inl rfl), Option.bind_some, if_neg (by omega), if_pos rfl, e1]
    exact ⟨_, _, rfl, rfl, by rw [d1]⟩
   ·rw [if_neg h1]
    by_cases h2 : i < 0
    ·rw [if_pos h2, if_pos (show i < -1 ∨ (xs.length : Int) ≤ i by omega)]
     exact ⟨_, _, rfl, rfl, rfl⟩
    ·rw [if_neg h2]
     by_cases h3 : i ≥ (xs.length : Int)
     ·rw [if_pos h3, if_pos (show i < -1 ∨ (xs.length : Int) ≤ i by omega)]
      exact ⟨_, _, rfl, rfl, rfl⟩
     ·have p1 : 0 ≤ i := by omega
      have p2 : i < (xs.length : Int) := by omega
      rw [if_neg h3, if_pos p1, if_pos p2, if_neg (show ¬ (i < -1 ∨ (xs.length : Int) ≤ i) by omega), if_neg h1]
      by_cases h4 : (rd_T35 xs i).f1 = 0
      ·obtain ⟨r2, e2, d2⟩ := within_f xs hz hp i (.inr ⟨by omega, by omega⟩)
       rw [if_pos h4, if_pos h4, void_f _ _ (by omega), Option.bind_some, show boltingref05_Void.f = some voids from rfl, Option.bind_some, voidR_f _ _ (by omega), Option.bind_some, e2, Option.bind_some]
       cases memS voids (rd_T35 xs i).f2
       ·rw [if_neg (by decide), if_neg (by decide), hw i (.inr ⟨by omega, by omega⟩), Option.bind_some]
        exact ⟨_, _, rfl, rfl, by rw [d2]⟩
       ·rw [if_pos rfl, if_pos rfl]
        exact ⟨_, _, rfl, rfl, rfl⟩
      ·rw [if_neg h4, if_neg h4]
       exact ⟨_, _, rfl, rfl, rfl⟩
  obtain ⟨a, b, ha, hb2, hab⟩ := hin
  rw [ha, Option.bind_some, hb2, Option.bind_some, if_pos (same_list hab), fixed_k, Option.bind_some]
end Go.Proofs.YtdnbaliibiginaaDoorH.W8

/- boltinglaw08.WriteRows is true of any rows of bulk at most 1048576 and any number: its walk (printed) over the plain law. -/
namespace Go.Proofs.YtdnbaliibiginaaDoor
open Go.RowKit Go.Proofs Go.Proofs.YtdnbaliibiginaaDoorH Go.Proofs.YtdnbaliibiginaaDoorH.W8 Go.Proofs.YtdnbaliibiginaaDoorW.PrintWords
theorem writeRows_w (A : Option Addr) (c : Nat) (l : List S35) {W : World} (hr : k35.C W A l.length l) (hc : l.length ≤ c) (wf : ∀ x ∈ l, wf35 x) (i : Int) (ws : (Lit.int .i64 i).wf = true) (hb : (l.map wt35).sum ≤ 1048576) (hS : Std8 W) :
  Calls Tryd.prog 3 #[.slice A l.length c, .int .i64 i] W fun e w' => e = .returned (.bool true) ∧ Below W.heap.size W w' :=
 boltinglaw08_WriteRows.calls 1000 A c l i true W hr hc (writeRows l i (by omega)) hS
end Go.Proofs.YtdnbaliibiginaaDoor

/- A world that fits the rows of layer 8: the settled one, the listed variables holding what the program's text lays; and what a row's premises give the walks. -/
namespace Go.Proofs.YtdnbaliibiginaaDoor
open Go.ChangeShapes Go.WideShapes Go.ChangeAt Go.RowKit
theorem own : ownKnob Tryd.prog.godebug = none := by kernel_rfl
def litCell : DataW Unit → Value
 | .lit (.int k n) => .int k n
 | _ => .bool false
def litCells : DataW Unit → List Value
 | .agg l => l.map litCell
 | d => [litCell d]
def dataCells : DataW Unit → Array Value
 | .agg l => (l.flatMap litCells).toArray
 | _ => #[]
noncomputable def laidWorld (os : Os) : World :=
 let w0 := World.holding Tryd.prog os ⟨#[], #[], []⟩
 let put (h : Array Obj) (g : Nat) (cs : Array Value) : Array Obj := h.modify g fun
  | .cells _ t frozen => .cells cs t frozen
  | o => o
 let h1 := put w0.heap 1 (dataCells Rows.laid_unicode_utf8_acceptRanges)
 let h2 := put h1 0 (dataCells Rows.laid_unicode_utf8_first)
 { w0 with heap := h2 }
def listed : List (String × DataW Unit) := [("unicode/utf8.acceptRanges", Rows.laid_unicode_utf8_acceptRanges), ("unicode/utf8.first", Rows.laid_unicode_utf8_first)]
set_option maxRecDepth 100000 in
theorem laid_met (os : Os) (args : Array Value) : laidMet Tryd.prog listed ((laidWorld os).forCall (fun _ _ => 0) ⟨#[], args, []⟩).memory :=
 (LaidIn.of_run [1, 0] 8 (by kernel_rfl) (by kernel_rfl) (by kernel_rfl) (by kernel_rfl)).met
theorem acc_eq : (Rows.laid_unicode_utf8_acceptRanges : DataW Unit) = Lib.acceptData := by kernel_rfl
theorem fst_eq : (Rows.laid_unicode_utf8_first : DataW Unit) = Lib.firstData := by kernel_rfl
theorem std_of {W : World} (hL : laidMetH Tryd.prog listed W) (hsh : W.ShapedOpen Tryd.prog) : Std8 W := by
 have h0 : laidMet Tryd.prog listed W := hL
 unfold listed at h0
 rw [acc_eq, fst_eq] at h0
 refine ⟨Go.Proofs.cell_of_shapedOpen_int (zero := #[.int .i64 0]) (t := 3) hsh (of_decide_eq_true (by kernel_rfl)) (by kernel_rfl) rfl (by kernel_rfl) (by kernel_rfl) Tryd.underlying3, ?_⟩
 exact utf8Tabs_of_readsT (U8Types.of196 valid_lays) ⟨by kernel_rfl, by kernel_rfl, by kernel_rfl, by kernel_rfl, by kernel_rfl, by kernel_rfl, by kernel_rfl⟩ (Lib.laidMet.reads h0 (.tail _ (.head _))) (Lib.laidMet.reads h0 (.head _))
end Go.Proofs.YtdnbaliibiginaaDoor

/- boltinglaw08.WriteRows returns true and leaves its arguments as they were, where what it reads is of bulk at most 1048576: the row and its card. Conditions: the row's own (that bulk; the form's reach; the listed variables as the program's text lays them). -/
namespace Go.Proofs.YtdnbaliibiginaaDoor.fnWriteRows
open Go.ChangeShapes Go.WideShapes Go.ChangeAt Go.RowKit Go.Proofs.YtdnbaliibiginaaDoorH.W8
open Go.ChangeMaps (open_string shut_string)
theorem laidOut : laidOutB Tryd.prog = true := by kernel_rfl
set_option maxRecDepth 100000 in
theorem contract (H : Type) (enc : TypeId × Value → H) (W : World) (base : Nat) (args : Array Value) (ds gs : List (DataW H)) (before : List MemPlace)
  (hval : ∀ (j : Nat) t v, Tryd.f3.params[j]? = some t → args[j]? = some v → Value.okWide Tryd.prog W .any base t v)
  (hW : DataW.Whole enc Tryd.prog Tryd.f3.params.toList Rows.writeRowsSpec.vars false W args.toList ds gs before)
  (hk : Rows.uptoSmall H (ds ++ gs) = true)
  (hS : Std8 W) :
  Calls Tryd.prog 3 args W fun e W' => ∃ v, e = .returned v ∧ Rows.writeRowsSpec.post enc Tryd.prog Tryd.f3 false true false false W args v W' := by
 have hW' := hW
 obtain ⟨p, q, hA0, hV, rfl, hfz, hnd⟩ := hW
 have hA : DataW.TrodAll enc Tryd.prog W 0 (fun _ => true) true Tryd.f3.params.toList args.toList ds p := hA0
 rw [Tryd.params3] at hA hval
 obtain ⟨v0, vs0, d0, ds0, p0, q0, hargs, rfl, rfl, h0, r0⟩ := trodAll_cons hA
 obtain ⟨v1, vs1, d1, ds1, p1, q1, rfl, rfl, rfl, h1, r1⟩ := trodAll_cons r0
 obtain ⟨rfl, rfl, rfl⟩ := trodAll_nil r1
 obtain rfl : args = #[v0, v1] := by cases args; simp_all
 obtain ⟨rfl, rfl⟩ := trodVars_none hV
 have hlt : ∀ x ∈ p0 ++ p1, x.block < W.heap.size := fun x hx => hW'.lt x (by simpa using hx)
 have hbulk := of_decide_eq_true hk
 simp only [List.append_nil, List.cons_append, List.nil_append, Rows.uptoBulkAll] at hbulk
 obtain ⟨fuel0, hf0⟩ := id h0
 obtain ⟨a0, n0, m0, rfl⟩ := okWide_slice Tryd.underlying22 (hval 0 22 v0 rfl rfl)
 obtain ⟨l0, ⟨A0, c0, e0, hc0, hr0⟩, b0, w0⟩ := opn22 hf0
 obtain ⟨rfl, rfl, rfl⟩ : a0 = A0 ∧ n0 = l0.length ∧ m0 = c0 := by
  simp only [Value.cells] at e0
  simpa using e0
 obtain ⟨s1, rfl, rfl, rfl, ws1⟩ := open_int Tryd.underlying3 (hval 1 3 v1 rfl rfl) h1
 clear hA0
 simp only [List.append_nil] at hW'
 simp only at b0
 have walk := writeRows_w a0 m0 l0 hr0 hc0 w0 s1 ws1 (by omega) hS
 refine walk.mono fun e W' ⟨he, hb⟩ => ?_
 subst he
 have e1 : Rows.writeRowsSpec.fn H ([d0, .lit (.int .i64 s1)] ++ []) = { results := [.lit (.bool true)], args := [d0, .lit (.int .i64 s1)] } := rfl
 refine ⟨_, rfl, _, _, _, [], (p0 ++ ([] ++ [])), [], hW', ?_, ?_, ?_, hb.frame _, fun h => by cases h⟩
 ·rw [e1]; exact trodAll_cons_mk (shut_bool Tryd.underlying4 _) trodAll_mk0
 ·rw [e1]; exact (trodAll_cons_mk (Below.trod laidOut (by kernel_rfl) (of_decide_eq_true (by kernel_rfl)) h0 hb (fun x hx => hlt x (List.mem_append.2 (.inl hx)))) (trodAll_cons_mk (shut_int Tryd.underlying3 ws1) trodAll_mk0))
 ·rw [e1]; rfl
theorem reads (os : Os) {H : Type} (enc : TypeId × Value → H) : ∃ places, DataW.whole enc Tryd.prog ((laidWorld os).forCall (fun _ _ => 0) ⟨#[], #[.slice none 0 0, .int .i64 0], []⟩).memory Tryd.f3.params.toList Rows.writeRowsSpec.vars false #[Value.slice none 0 0, Value.int .i64 0].toList 8 = some ([.nil, .lit (.int .i64 0)], [], places) :=
 ⟨[], by kernel_rfl⟩
set_option maxRecDepth 100000 in
theorem lifted (os : Os) (started : os.Started) (H : Type) (enc : TypeId × Value → H) (F : Stop.Interp) :
  ReturnsInHanded {} Tryd.checked os 3 .any ((Rows.OpenSpec.upto Rows.writeRowsSpec).preRow enc Tryd.prog Tryd.f3 Rows.writeRowsUptoRow.domain false Rows.writeRowsUptoRow.laid) (((Rows.OpenSpec.upto Rows.writeRowsSpec).at F).post enc Tryd.prog Tryd.f3 false true false false) := by
 obtain ⟨places, hx⟩ := reads os enc
 refine returnsInHanded_of_row (C := Tryd.checked) (s := Rows.OpenSpec.upto Rows.writeRowsSpec) own started (by kernel_rfl) Tryd.func3
  (witness_row_atRef (enc := enc) (C := Tryd.checked) false (laidWorld os) #[.slice none 0 0, .int .i64 0] rfl (by kernel_rfl) (by kernel_rfl) (by kernel_rfl)
   (OpenSpec.preRow_of_cond 8 hx (by kernel_rfl) (fun k hk => by cases hk; kernel_rfl) (by kernel_rfl) (laid_met os #[.slice none 0 0, .int .i64 0]))) ?_
 intro W base args ds gs before hval hW _ hcond hsz hL hsh _
 exact contract H enc W base args ds gs before hval hW (hcond _ rfl) (std_of hL hsh)
theorem said : Rows.WriteRowsUptoSaid :=
 OpenClaim.holds_of_cond 3 Tryd.f3 rfl rfl rfl rfl rfl rfl rfl ⟨rfl, rfl, rfl, rfl, rfl⟩ rfl rfl rfl rfl rfl (by kernel_rfl) Tryd.func3 (by kernel_rfl)
  (of_decide_eq_true (by kernel_rfl)) (by unfold Func.isWrapper; rw [if_neg (of_decide_eq_false (by kernel_rfl))]; exact ⟨rfl, rfl⟩)
  (fun os started H enc _ F => by rw [OpenClaim.pre_eq_preRow]; exact lifted os started H enc F)
theorem plain (f : FuncId) (fn : Func) (hf : Tryd.pinned.checked.prog.funcNamed "bolting/boltinglaw08.WriteRows" = some f) (hfn : Tryd.pinned.checked.prog.funcs[f]? = some fn) :
  true = Tryd.pinned.checked.prog.looks [] ∧ ∀ (j : Nat) t, fn.params[j]? = some t → Tryd.pinned.checked.prog.wantsStandIn t = false := by
 obtain rfl : f = 3 := Option.some.inj ((show Tryd.prog.funcNamed "bolting/boltinglaw08.WriteRows" = some 3 by kernel_rfl).symm.trans hf) |>.symm
 obtain rfl : fn = Tryd.f3 := (Option.some.inj (Tryd.func3.symm.trans hfn)).symm
 refine ⟨by kernel_rfl, fun j t ht => ?_⟩
 rw [Tryd.params3] at ht
 have hm := Array.mem_of_getElem? ht
 simp only [List.mem_toArray, List.mem_cons, List.mem_nil_iff, or_false] at hm
 rcases hm with rfl | rfl
 ·exact (show Tryd.prog.wantsStandIn 22 = false by kernel_rfl)
 ·exact (show Tryd.prog.wantsStandIn 3 = false by kernel_rfl)
theorem writeRows_card : Rows.WriteRowsUptoCardSaid :=
 Claim7.holds_tied_plain_at .later [] _ _ _ _ said (fun _ h => by cases h) (by kernel_rfl) (fun _ h => by cases h) writeRowsUpto_row_tie rfl ⟨rfl, rfl⟩ (by kernel_rfl) rfl plain (by kernel_rfl)
end Go.Proofs.YtdnbaliibiginaaDoor.fnWriteRows
namespace Go.Proofs.YtdnbaliibiginaaDoor
theorem writeRows_holds : Rows.WriteRowsUptoCardSaid := fnWriteRows.writeRows_card
end Go.Proofs.YtdnbaliibiginaaDoor
