/- Lemmas and walks, part 14: QPW7x17, QPW7x19, QPW7x20, QPW7x21, QPW7x22, QPW7x23, QPW7x24, QPW7x25, QPW7x26, QPW7x27, QW7A, QR8A. -/
import Derived.Test.YtkcmghlhpbepcaaGreatDoorN83
import Derived.Test.YtkcmghlhpbepcaaGreatDoorN810
import Derived.Test.YtkcmghlhpbepcaaGreatDoorN812
import Derived.Test.YtkcmghlhpbepcaaGreatDoorN813
import Derived.Test.YtkcmghlhpbepcaaGreatDoorN89
set_option linter.unusedVariables false
set_option linter.unusedSimpArgs false

/- Words and walks used below. -/
namespace Go.Proofs.YtkcmghlhpbepcaaGreatDoorH.W7
open Go.RowKit Go.Proofs.YtkcmghlhpbepcaaGreatDoorW.PrintWords Go.Proofs.YtkcmghlhpbepcaaGreatDoorW.PrintLast Go.Proofs.YtkcmghlhpbepcaaGreatDoorW.PrintMore
attribute [local go_sem] max2_int min2_int max_two min_two max_three min_three max_four min_four   -- for this text's walks alone
def build_Nested.f (k : Nat) (a0 : ByteArray) (l1 : List ByteArray) : Option (Bool) := (build_paragraph.f a0).bind fun t191 => (if t191 = true then ((names_Walls.f k (⟨#[112]⟩ : ByteArray)).bind fun t195 => ((build_found.f l1 (([(⟨#[112]⟩ : ByteArray)] : List ByteArray)) t195).bind fun t198 => (if t198 ≥ 0 then (some false) else ((names_Closes.f k a0).bind fun t199 => ((names_Walls.f k a0).bind fun t202 => ((build_found.f l1 t199 t202).bind fun t205 => (some (decide (t205 < 0))))))))) else ((names_Closes.f k a0).bind fun t206 => ((names_Walls.f k a0).bind fun t209 => ((build_found.f l1 t206 t209).bind fun t212 => (some (decide (t212 < 0)))))))
set_option maxHeartbeats 8000000 in
set_option maxRecDepth 100000 in
theorem build_Nested.calls (k : Nat) (a0 : ByteArray) (A1 : Option Addr) (c1 : Nat) (l1 : List ByteArray) (r : Bool) (w : World) (hr1 : Kd.C Kd.string w A1 l1.length l1) (hc1 : l1.length ≤ c1) (h : build_Nested.f k a0 l1 = some r) :
 Calls Tryz.prog 27 #[.string a0, .slice A1 l1.length c1] w fun e w' => e = .returned (.bool r) ∧ Below w.heap.size w w' := by
 have HR1 := Aside0.mk hr1
 have HC1 := Aside0.mk hc1
 clear hr1 hc1
 have HB := Aside0.mk (Below.refl w.heap.size w)
 have H : ((build_paragraph.f a0).bind fun t191 => (if t191 = true then ((names_Walls.f k (⟨#[112]⟩ : ByteArray)).bind fun t195 => ((build_found.f l1 (([(⟨#[112]⟩ : ByteArray)] : List ByteArray)) t195).bind fun t198 => (if t198 ≥ 0 then (some false) else ((names_Closes.f k a0).bind fun t199 => ((names_Walls.f k a0).bind fun t202 => ((build_found.f l1 t199 t202).bind fun t205 => (some (decide (t205 < 0))))))))) else ((names_Closes.f k a0).bind fun t206 => ((names_Walls.f k a0).bind fun t209 => ((build_found.f l1 t206 t209).bind fun t212 => (some (decide (t212 < 0)))))))) = some r := h
 clear h
 replace H := Option.bind_eq_some_iff.mp H
 obtain ⟨t191, A30, H⟩ := H
 replace H : (if t191 = true then ((names_Walls.f k (⟨#[112]⟩ : ByteArray)).bind fun t195 => ((build_found.f l1 (([(⟨#[112]⟩ : ByteArray)] : List ByteArray)) t195).bind fun t198 => (if t198 ≥ 0 then (some false) else ((names_Closes.f k a0).bind fun t199 => ((names_Walls.f k a0).bind fun t202 => ((build_found.f l1 t199 t202).bind fun t205 => (some (decide (t205 < 0))))))))) else ((names_Closes.f k a0).bind fun t206 => ((names_Walls.f k a0).bind fun t209 => ((build_found.f l1 t206 t209).bind fun t212 => (some (decide (t212 < 0))))))) = some r := H
 have A3 := Aside0.mk A30
 clear A30
 by_cases c4 : t191 = true
 ·subst c4
  have H1 : ((names_Walls.f k (⟨#[112]⟩ : ByteArray)).bind fun t195 => ((build_found.f l1 (([(⟨#[112]⟩ : ByteArray)] : List ByteArray)) t195).bind fun t198 => (if t198 ≥ 0 then (some false) else ((names_Closes.f k a0).bind fun t199 => ((names_Walls.f k a0).bind fun t202 => ((build_found.f l1 t199 t202).bind fun t205 => (some (decide (t205 < 0))))))))) = some r := by rw [if_pos rfl] at H; exact H
  clear H
  have H := H1
  clear H1
  obtain ⟨y192, hy192⟩ : ∃ y_ : List ByteArray, y_ = (([(⟨#[112]⟩ : ByteArray)] : List ByteArray)) := ⟨_, rfl⟩
  replace H : ((names_Walls.f k (⟨#[112]⟩ : ByteArray)).bind fun t195 => ((build_found.f l1 y192 t195).bind fun t198 => (if t198 ≥ 0 then (some false) else ((names_Closes.f k a0).bind fun t199 => ((names_Walls.f k a0).bind fun t202 => ((build_found.f l1 t199 t202).bind fun t205 => (some (decide (t205 < 0))))))))) = some r := by first | (rw [hy192]; with_reducible exact H) | (have H2_ := (Option.bind_some _ _).symm.trans H; rw [hy192]; with_reducible exact H2_) | (have H2_ := (Option.bind_some _ _).symm.trans H; with_reducible exact H2_) | with_reducible exact H | (rw [hy192]; exact H) | exact H
  have Ny192 := Aside0.mk hy192
  clear hy192
  replace H := Option.bind_eq_some_iff.mp H
  obtain ⟨t195, A50, H⟩ := H
  replace H : ((build_found.f l1 y192 t195).bind fun t198 => (if t198 ≥ 0 then (some false) else ((names_Closes.f k a0).bind fun t199 => ((names_Walls.f k a0).bind fun t202 => ((build_found.f l1 t199 t202).bind fun t205 => (some (decide (t205 < 0)))))))) = some r := H
  have A5 := Aside0.mk A50
  clear A50
  replace H := Option.bind_eq_some_iff.mp H
  obtain ⟨t198, A60, H⟩ := H
  replace H : (if t198 ≥ 0 then (some false) else ((names_Closes.f k a0).bind fun t199 => ((names_Walls.f k a0).bind fun t202 => ((build_found.f l1 t199 t202).bind fun t205 => (some (decide (t205 < 0))))))) = some r := H
  have A6 := Aside0.mk A60
  clear A60
  by_cases c7 : t198 ≥ 0
  ·rw [if_pos c7] at H
   have c7b0 : decide (0 ≤ t198) = true := decide_eq_true c7
   clear c7
   obtain rfl := Option.some.inj H
   go_enter Tryz.func27, Tryz.ntmps27
   go_wp2_with (first | ((with_reducible refine gate_callee (f := 76) rfl ?_); refine goesL_ (some 7) rfl rfl Tryz.func76 (by kernel_rfl) rfl #[.string a0] rfl (by (try simp only [List.map_toArray, List.map_cons, List.map_nil]); first | done | rfl | (simp only [List.length_drop, List.length_take]; rfl)) ?_; (with_reducible refine (build_paragraph.calls a0 true _ A3.out).mono ?_); rintro e w' ⟨rfl, ⟨nd, rfl⟩⟩; refine ⟨_, rfl, ?_⟩) | ((with_reducible refine gate_dst (N := 10) rfl ?_); (try (refine gate_guard (by rfl) ?_; dsimp only)); refine Kd.R_lit Kd.string _ 9 ?hg (N := 10) ?hd (xs := ([(⟨#[112]⟩ : ByteArray)] : List ByteArray)) (inner := [.string (⟨#[112]⟩ : ByteArray)]) (ok := fun _ => True) (okp := fun _ => True) ?hr ?hp (fun _ hk => hk) trivial (Below.refl _ _) (Nat.le_refl _) (by simp) ?_; (case hd => rfl); (case hg => rfl); (case hr => first | (go_simp; done) | (go_simp; rfl)); (case hp => exact (Reps.one (show Kd.M Kd.string _ _ _ (⟨#[112]⟩ : ByteArray) [.string (⟨#[112]⟩ : ByteArray)] from rfl) (Reps.none _ _))); intro v193 w8 ho9 hb hg_ hnew_; clear hg_ hnew_; (first | rw [← Ny192.out] at ho9 | (simp only [Int.reduceToNat] at ho9; rw [← Ny192.out] at ho9)); have n0_ := Aside0.mk (Kd.R_lower ho9 (below_size bz)); have n1_ := Aside0.mk (below_step bz hb); clear HB; have HO194 := n0_; have HB := n1_; clear n0_ n1_; clear hb ho9) | (go_at_call 78; (fail_if_success (have zz_ := Ao12)); (with_reducible refine (names_Walls.calls k (⟨#[112]⟩ : ByteArray) t195 _ A5.out).mono ?_); rintro e w10 ⟨v196, rfl, ho0, hb⟩; have n0_ := Aside0.mk (Kd.R_elder' (rz HO194.out) (Kd.R_base ho0) hb); have n1_ := Aside0.mk (Kd.R_lower (Kd.R_new' ho0 (Kd.R_lt (rz HO194.out))) (below_size bz)); have n2_ := Aside0.mk (below_step bz hb); clear HO194; clear HB; have HO194 := n0_; have HO197 := n1_; have HB := n2_; clear n0_ n1_ n2_; (try clear hb); (try clear hb2); (try clear hk); (try clear hi); (try clear ho0); obtain ⟨Ao11, co11, eo11⟩ := Kd.R_slice HO194.out; subst eo11; obtain ⟨Ao12, co12, eo12⟩ := Kd.R_slice HO197.out; subst eo12) | (go_at_call 77; (with_reducible refine (build_found.calls _ _ l1 _ _ y192 _ _ t195 t198 _ ?side1 ?side2 ?side3 ?side4 ?side5 ?side6 A6.out).mono ?_); (case side1 => exact cz (Kd.C_below HR1.out HB.out)); (case side2 => exact HC1.out); (case side3 => exact cz (Kd.R_reads' HO194.out).2.2); (case side4 => exact (Kd.R_reads' HO194.out).2.1); (case side5 => exact cz (Kd.R_reads' HO197.out).2.2); (case side6 => exact (Kd.R_reads' HO197.out).2.1); rintro e w13 ⟨rfl, hb⟩; have n0_ := Aside0.mk (Kd.R_below (rz HO194.out) hb); have n1_ := Aside0.mk (Kd.R_below (rz HO197.out) hb); have n2_ := Aside0.mk (below_step bz hb); clear HO194; clear HO197; clear HB; have HO194 := n0_; have HO197 := n1_; have HB := n2_; clear n0_ n1_ n2_; (try clear hb); (try clear hb2); (try clear hk); (try clear hi)))
   go_ret
   exact ⟨by first | rfl | (simp [errW_none, errW_some] <;> rfl) | (simp [*, errW_none, errW_some] <;> rfl), bz⟩
  ·rw [if_neg c7] at H
   have c7b0 : decide (0 ≤ t198) = false := decide_eq_false c7
   clear c7
   replace H := Option.bind_eq_some_iff.mp H
   obtain ⟨t199, A140, H⟩ := H
   replace H : ((names_Walls.f k a0).bind fun t202 => ((build_found.f l1 t199 t202).bind fun t205 => (some (decide (t205 < 0))))) = some r := H
   have A14 := Aside0.mk A140
   clear A140
   replace H := Option.bind_eq_some_iff.mp H
   obtain ⟨t202, A150, H⟩ := H
   replace H : ((build_found.f l1 t199 t202).bind fun t205 => (some (decide (t205 < 0)))) = some r := H
   have A15 := Aside0.mk A150
   clear A150
   replace H := Option.bind_eq_some_iff.mp H
   obtain ⟨t205, A160, H⟩ := H
   replace H : (some (decide (t205 < 0))) = some r := H
   have A16 := Aside0.mk A160
   clear A160
   obtain rfl := Option.some.inj H
   go_enter Tryz.func27, Tryz.ntmps27
   go_wp2_with (first | ((with_reducible refine gate_callee (f := 76) rfl ?_); refine goesL_ (some 7) rfl rfl Tryz.func76 (by kernel_rfl) rfl #[.string a0] rfl (by (try simp only [List.map_toArray, List.map_cons, List.map_nil]); first | done | rfl | (simp only [List.length_drop, List.length_take]; rfl)) ?_; (with_reducible refine (build_paragraph.calls a0 true _ A3.out).mono ?_); rintro e w' ⟨rfl, ⟨nd, rfl⟩⟩; refine ⟨_, rfl, ?_⟩) | ((with_reducible refine gate_dst (N := 10) rfl ?_); (try (refine gate_guard (by rfl) ?_; dsimp only)); refine Kd.R_lit Kd.string _ 9 ?hg (N := 10) ?hd (xs := ([(⟨#[112]⟩ : ByteArray)] : List ByteArray)) (inner := [.string (⟨#[112]⟩ : ByteArray)]) (ok := fun _ => True) (okp := fun _ => True) ?hr ?hp (fun _ hk => hk) trivial (Below.refl _ _) (Nat.le_refl _) (by simp) ?_; (case hd => rfl); (case hg => rfl); (case hr => first | (go_simp; done) | (go_simp; rfl)); (case hp => exact (Reps.one (show Kd.M Kd.string _ _ _ (⟨#[112]⟩ : ByteArray) [.string (⟨#[112]⟩ : ByteArray)] from rfl) (Reps.none _ _))); intro v193 w17 ho18 hb hg_ hnew_; clear hg_ hnew_; (first | rw [← Ny192.out] at ho18 | (simp only [Int.reduceToNat] at ho18; rw [← Ny192.out] at ho18)); have n0_ := Aside0.mk (Kd.R_lower ho18 (below_size bz)); have n1_ := Aside0.mk (below_step bz hb); clear HB; have HO194 := n0_; have HB := n1_; clear n0_ n1_; clear hb ho18) | (go_at_call 78; (fail_if_success (have zz_ := Ao21)); (with_reducible refine (names_Walls.calls k (⟨#[112]⟩ : ByteArray) t195 _ A5.out).mono ?_); rintro e w19 ⟨v196, rfl, ho0, hb⟩; have n0_ := Aside0.mk (Kd.R_elder' (rz HO194.out) (Kd.R_base ho0) hb); have n1_ := Aside0.mk (Kd.R_lower (Kd.R_new' ho0 (Kd.R_lt (rz HO194.out))) (below_size bz)); have n2_ := Aside0.mk (below_step bz hb); clear HO194; clear HB; have HO194 := n0_; have HO197 := n1_; have HB := n2_; clear n0_ n1_ n2_; (try clear hb); (try clear hb2); (try clear hk); (try clear hi); (try clear ho0); obtain ⟨Ao20, co20, eo20⟩ := Kd.R_slice HO194.out; subst eo20; obtain ⟨Ao21, co21, eo21⟩ := Kd.R_slice HO197.out; subst eo21) | (go_at_call 77; (with_reducible refine (build_found.calls _ _ l1 _ _ y192 _ _ t195 t198 _ ?side1 ?side2 ?side3 ?side4 ?side5 ?side6 A6.out).mono ?_); (case side1 => exact cz (Kd.C_below HR1.out HB.out)); (case side2 => exact HC1.out); (case side3 => exact cz (Kd.R_reads' HO194.out).2.2); (case side4 => exact (Kd.R_reads' HO194.out).2.1); (case side5 => exact cz (Kd.R_reads' HO197.out).2.2); (case side6 => exact (Kd.R_reads' HO197.out).2.1); rintro e w22 ⟨rfl, hb⟩; have n0_ := Aside0.mk (Kd.R_below (rz HO194.out) hb); have n1_ := Aside0.mk (Kd.R_below (rz HO197.out) hb); have n2_ := Aside0.mk (below_step bz hb); clear HO194; clear HO197; clear HB; have HO194 := n0_; have HO197 := n1_; have HB := n2_; clear n0_ n1_ n2_; (try clear hb); (try clear hb2); (try clear hk); (try clear hi)) | (go_at_call 35; (with_reducible refine (names_Closes.calls k a0 t199 _ A14.out).mono ?_); rintro e w23 ⟨v200, rfl, ho0, hb⟩; have n0_ := Aside0.mk (Kd.R_elder' (rz HO194.out) (Kd.R_base ho0) hb); have n1_ := Aside0.mk (Kd.R_elder' (rz HO197.out) (Kd.R_base ho0) hb); have n2_ := Aside0.mk (Kd.R_lower (Kd.R_new' (Kd.R_new' ho0 (Kd.R_lt (rz HO194.out))) (Kd.R_lt (rz HO197.out))) (below_size bz)); have n3_ := Aside0.mk (below_step bz hb); clear HO194; clear HO197; clear HB; have HO194 := n0_; have HO197 := n1_; have HO201 := n2_; have HB := n3_; clear n0_ n1_ n2_ n3_; (try clear hb); (try clear hb2); (try clear hk); (try clear hi); (try clear ho0)) | (go_at_call 78; (fail_if_success (have zz_ := Ao26)); (with_reducible refine (names_Walls.calls k a0 t202 _ A15.out).mono ?_); rintro e w24 ⟨v203, rfl, ho0, hb⟩; have n0_ := Aside0.mk (Kd.R_elder' (rz HO194.out) (Kd.R_base ho0) hb); have n1_ := Aside0.mk (Kd.R_elder' (rz HO197.out) (Kd.R_base ho0) hb); have n2_ := Aside0.mk (Kd.R_elder' (rz HO201.out) (Kd.R_base ho0) hb); have n3_ := Aside0.mk (Kd.R_lower (Kd.R_new' (Kd.R_new' (Kd.R_new' ho0 (Kd.R_lt (rz HO194.out))) (Kd.R_lt (rz HO197.out))) (Kd.R_lt (rz HO201.out))) (below_size bz)); have n4_ := Aside0.mk (below_step bz hb); clear HO194; clear HO197; clear HO201; clear HB; have HO194 := n0_; have HO197 := n1_; have HO201 := n2_; have HO204 := n3_; have HB := n4_; clear n0_ n1_ n2_ n3_ n4_; (try clear hb); (try clear hb2); (try clear hk); (try clear hi); (try clear ho0); obtain ⟨Ao25, co25, eo25⟩ := Kd.R_slice HO201.out; subst eo25; obtain ⟨Ao26, co26, eo26⟩ := Kd.R_slice HO204.out; subst eo26) | (go_at_call 77; (with_reducible refine (build_found.calls _ _ l1 _ _ t199 _ _ t202 t205 _ ?side1 ?side2 ?side3 ?side4 ?side5 ?side6 A16.out).mono ?_); (case side1 => exact cz (Kd.C_below HR1.out HB.out)); (case side2 => exact HC1.out); (case side3 => exact cz (Kd.R_reads' HO201.out).2.2); (case side4 => exact (Kd.R_reads' HO201.out).2.1); (case side5 => exact cz (Kd.R_reads' HO204.out).2.2); (case side6 => exact (Kd.R_reads' HO204.out).2.1); rintro e w27 ⟨rfl, hb⟩; have n0_ := Aside0.mk (Kd.R_below (rz HO194.out) hb); have n1_ := Aside0.mk (Kd.R_below (rz HO197.out) hb); have n2_ := Aside0.mk (Kd.R_below (rz HO201.out) hb); have n3_ := Aside0.mk (Kd.R_below (rz HO204.out) hb); have n4_ := Aside0.mk (below_step bz hb); clear HO194; clear HO197; clear HO201; clear HO204; clear HB; have HO194 := n0_; have HO197 := n1_; have HO201 := n2_; have HO204 := n3_; have HB := n4_; clear n0_ n1_ n2_ n3_ n4_; (try clear hb); (try clear hb2); (try clear hk); (try clear hi)))
   go_ret
   exact ⟨by first | rfl | (simp [errW_none, errW_some] <;> rfl) | (simp [*, errW_none, errW_some] <;> rfl), bz⟩
 ·replace c4 := Bool.eq_false_iff.mpr c4
  subst c4
  have H1 : ((names_Closes.f k a0).bind fun t206 => ((names_Walls.f k a0).bind fun t209 => ((build_found.f l1 t206 t209).bind fun t212 => (some (decide (t212 < 0)))))) = some r := by rw [if_neg (show ¬ (false = true) by decide)] at H; first | exact H | (simp only [eq_self] at H ⊢; exact H) | (simp only [eq_self, if_true] at H ⊢; exact H)
  clear H
  have H := H1
  clear H1
  replace H := Option.bind_eq_some_iff.mp H
  obtain ⟨t206, A280, H⟩ := H
  replace H : ((names_Walls.f k a0).bind fun t209 => ((build_found.f l1 t206 t209).bind fun t212 => (some (decide (t212 < 0))))) = some r := H
  have A28 := Aside0.mk A280
  clear A280
  replace H := Option.bind_eq_some_iff.mp H
  obtain ⟨t209, A290, H⟩ := H
  replace H : ((build_found.f l1 t206 t209).bind fun t212 => (some (decide (t212 < 0)))) = some r := H
  have A29 := Aside0.mk A290
  clear A290
  replace H := Option.bind_eq_some_iff.mp H
  obtain ⟨t212, A300, H⟩ := H
  replace H : (some (decide (t212 < 0))) = some r := H
  have A30 := Aside0.mk A300
  clear A300
  obtain rfl := Option.some.inj H
  go_enter Tryz.func27, Tryz.ntmps27
  go_wp2_with (first | ((with_reducible refine gate_callee (f := 76) rfl ?_); refine goesL_ (some 7) rfl rfl Tryz.func76 (by kernel_rfl) rfl #[.string a0] rfl (by (try simp only [List.map_toArray, List.map_cons, List.map_nil]); first | done | rfl | (simp only [List.length_drop, List.length_take]; rfl)) ?_; (with_reducible refine (build_paragraph.calls a0 false _ A3.out).mono ?_); rintro e w' ⟨rfl, ⟨nd, rfl⟩⟩; refine ⟨_, rfl, ?_⟩) | (go_at_call 35; (with_reducible refine (names_Closes.calls k a0 t206 _ A28.out).mono ?_); rintro e w31 ⟨v207, rfl, ho0, hb⟩; have n0_ := Aside0.mk (Kd.R_lower ho0 (below_size bz)); have n1_ := Aside0.mk (below_step bz hb); clear HB; have HO208 := n0_; have HB := n1_; clear n0_ n1_; (try clear hb); (try clear hb2); (try clear hk); (try clear hi); (try clear ho0)) | (go_at_call 78; (fail_if_success (have zz_ := Ao34)); (with_reducible refine (names_Walls.calls k a0 t209 _ A29.out).mono ?_); rintro e w32 ⟨v210, rfl, ho0, hb⟩; have n0_ := Aside0.mk (Kd.R_elder' (rz HO208.out) (Kd.R_base ho0) hb); have n1_ := Aside0.mk (Kd.R_lower (Kd.R_new' ho0 (Kd.R_lt (rz HO208.out))) (below_size bz)); have n2_ := Aside0.mk (below_step bz hb); clear HO208; clear HB; have HO208 := n0_; have HO211 := n1_; have HB := n2_; clear n0_ n1_ n2_; (try clear hb); (try clear hb2); (try clear hk); (try clear hi); (try clear ho0); obtain ⟨Ao33, co33, eo33⟩ := Kd.R_slice HO208.out; subst eo33; obtain ⟨Ao34, co34, eo34⟩ := Kd.R_slice HO211.out; subst eo34) | (go_at_call 77; (with_reducible refine (build_found.calls _ _ l1 _ _ t206 _ _ t209 t212 _ ?side1 ?side2 ?side3 ?side4 ?side5 ?side6 A30.out).mono ?_); (case side1 => exact cz (Kd.C_below HR1.out HB.out)); (case side2 => exact HC1.out); (case side3 => exact cz (Kd.R_reads' HO208.out).2.2); (case side4 => exact (Kd.R_reads' HO208.out).2.1); (case side5 => exact cz (Kd.R_reads' HO211.out).2.2); (case side6 => exact (Kd.R_reads' HO211.out).2.1); rintro e w35 ⟨rfl, hb⟩; have n0_ := Aside0.mk (Kd.R_below (rz HO208.out) hb); have n1_ := Aside0.mk (Kd.R_below (rz HO211.out) hb); have n2_ := Aside0.mk (below_step bz hb); clear HO208; clear HO211; clear HB; have HO208 := n0_; have HO211 := n1_; have HB := n2_; clear n0_ n1_ n2_; (try clear hb); (try clear hb2); (try clear hk); (try clear hi)))
  go_ret
  exact ⟨by first | rfl | (simp [errW_none, errW_some] <;> rfl) | (simp [*, errW_none, errW_some] <;> rfl), bz⟩
end Go.Proofs.YtkcmghlhpbepcaaGreatDoorH.W7

/- Words and walks used below. -/
namespace Go.Proofs.YtkcmghlhpbepcaaGreatDoorH.W7
open Go.RowKit Go.Proofs.YtkcmghlhpbepcaaGreatDoorW.PrintWords Go.Proofs.YtkcmghlhpbepcaaGreatDoorW.PrintLast Go.Proofs.YtkcmghlhpbepcaaGreatDoorW.PrintMore
attribute [local go_sem] max2_int min2_int max_two min_two max_three min_three max_four min_four   -- for this text's walks alone
def boltingref07_Found.l0 : Nat → List ByteArray → List ByteArray → List ByteArray → Int → Option (Int)
 | 0, _, _, _, _ => none
 | k + 1, x0, x1, x2, x7 => if x7 ≥ 0 then (if 0 ≤ x7 then (if x7 < (x0.length : Int) then ((boltingref02_Has.f k x1 (rdOf ByteArray.empty x0 x7)).bind fun t215 => (if t215 = true then (some x7) else ((boltingref02_Has.f k x2 (rdOf ByteArray.empty x0 x7)).bind fun t217 => (if t217 = true then (some (-1)) else (boltingref07_Found.l0 k x0 x1 x2 (wrap64 (x7 - 1))))))) else (none)) else (none)) else (some (-1))
def boltingref07_Found.f (k : Nat) (l0 : List ByteArray) (l1 : List ByteArray) (l2 : List ByteArray) : Option (Int) := boltingref07_Found.l0 k l0 l1 l2 (wrap64 ((l0.length : Int) - 1))
end Go.Proofs.YtkcmghlhpbepcaaGreatDoorH.W7

/- Words and walks used below. -/
namespace Go.Proofs.YtkcmghlhpbepcaaGreatDoorH.W7
open Go.RowKit Go.Proofs.YtkcmghlhpbepcaaGreatDoorW.PrintWords Go.Proofs.YtkcmghlhpbepcaaGreatDoorW.PrintLast Go.Proofs.YtkcmghlhpbepcaaGreatDoorW.PrintMore
attribute [local go_sem] max2_int min2_int max_two min_two max_three min_three max_four min_four   -- for this text's walks alone
def boltingref07_closed.l0 : Nat → List ByteArray → List ByteArray → List ByteArray → Int → Option (List ByteArray)
 | 0, _, _, _, _ => none
 | k + 1, x0, x1, x2, x7 => if x7 ≥ 0 then (if 0 ≤ x7 then (if x7 ≤ (x0.length : Int) then ((some (x0.take (x7 : Int).toNat : List ByteArray)).bind fun y219 => ((boltingref07_Found.f k y219 x1 x2).bind fun t224 => (boltingref07_closed.l0 k y219 x1 x2 t224))) else (none)) else (none)) else ((some (([] : List ByteArray) : List ByteArray)).bind fun y225 => (if y225.length + x0.length < 8796093022208 then (some (y225 ++ x0)) else (none)))
def boltingref07_closed.f (k : Nat) (l0 : List ByteArray) (l1 : List ByteArray) (l2 : List ByteArray) : Option (List ByteArray) := (boltingref07_Found.f k l0 l1 l2).bind fun t218 => (boltingref07_closed.l0 k l0 l1 l2 t218)
end Go.Proofs.YtkcmghlhpbepcaaGreatDoorH.W7

/- Words and walks used below. -/
namespace Go.Proofs.YtkcmghlhpbepcaaGreatDoorH.W7
open Go.RowKit Go.Proofs.YtkcmghlhpbepcaaGreatDoorW.PrintWords Go.Proofs.YtkcmghlhpbepcaaGreatDoorW.PrintLast Go.Proofs.YtkcmghlhpbepcaaGreatDoorW.PrintMore
attribute [local go_sem] max2_int min2_int max_two min_two max_three min_three max_four min_four   -- for this text's walks alone
def boltingref05_Table.f  : Option (List ByteArray) := some (([(⟨#[116, 98, 111, 100, 121]⟩ : ByteArray), (⟨#[116, 100]⟩ : ByteArray), (⟨#[116, 102, 111, 111, 116]⟩ : ByteArray), (⟨#[116, 104]⟩ : ByteArray), (⟨#[116, 104, 101, 97, 100]⟩ : ByteArray), (⟨#[116, 114]⟩ : ByteArray)] : List ByteArray))
end Go.Proofs.YtkcmghlhpbepcaaGreatDoorH.W7

/- Words and walks used below. -/
namespace Go.Proofs.YtkcmghlhpbepcaaGreatDoorH.W7
open Go.RowKit Go.Proofs.YtkcmghlhpbepcaaGreatDoorW.PrintWords Go.Proofs.YtkcmghlhpbepcaaGreatDoorW.PrintLast Go.Proofs.YtkcmghlhpbepcaaGreatDoorW.PrintMore
attribute [local go_sem] max2_int min2_int max_two min_two max_three min_three max_four min_four   -- for this text's walks alone
def boltingref05_Block.f  : Option (List ByteArray) := some (([(⟨#[97, 100, 100, 114, 101, 115, 115]⟩ : ByteArray), (⟨#[97, 114, 116, 105, 99, 108, 101]⟩ : ByteArray), (⟨#[97, 115, 105, 100, 101]⟩ : ByteArray), (⟨#[98, 108, 111, 99, 107, 113, 117, 111, 116, 101]⟩ : ByteArray), (⟨#[99, 101, 110, 116, 101, 114]⟩ : ByteArray), (⟨#[100, 100]⟩ : ByteArray), (⟨#[100, 101, 116, 97, 105, 108, 115]⟩ : ByteArray), (⟨#[100, 105, 97, 108, 111, 103]⟩ : ByteArray), (⟨#[100, 105, 114]⟩ : ByteArray), (⟨#[100, 105, 118]⟩ : ByteArray), (⟨#[100, 108]⟩ : ByteArray), (⟨#[100, 116]⟩ : ByteArray), (⟨#[102, 105, 101, 108, 100, 115, 101, 116]⟩ : ByteArray), (⟨#[102, 105, 103, 99, 97, 112, 116, 105, 111, 110]⟩ : ByteArray), (⟨#[102, 105, 103, 117, 114, 101]⟩ : ByteArray), (⟨#[102, 111, 111, 116, 101, 114]⟩ : ByteArray), (⟨#[102, 111, 114, 109]⟩ : ByteArray), (⟨#[104, 49]⟩ : ByteArray), (⟨#[104, 50]⟩ : ByteArray), (⟨#[104, 51]⟩ : ByteArray), (⟨#[104, 52]⟩ : ByteArray), (⟨#[104, 53]⟩ : ByteArray), (⟨#[104, 54]⟩ : ByteArray), (⟨#[104, 101, 97, 100, 101, 114]⟩ : ByteArray), (⟨#[104, 103, 114, 111, 117, 112]⟩ : ByteArray), (⟨#[104, 114]⟩ : ByteArray), (⟨#[108, 105]⟩ : ByteArray), (⟨#[109, 97, 105, 110]⟩ : ByteArray), (⟨#[109, 101, 110, 117]⟩ : ByteArray), (⟨#[110, 97, 118]⟩ : ByteArray), (⟨#[111, 108]⟩ : ByteArray), (⟨#[112]⟩ : ByteArray), (⟨#[112, 114, 101]⟩ : ByteArray), (⟨#[115, 101, 99, 116, 105, 111, 110]⟩ : ByteArray), (⟨#[115, 117, 109, 109, 97, 114, 121]⟩ : ByteArray), (⟨#[116, 97, 98, 108, 101]⟩ : ByteArray), (⟨#[117, 108]⟩ : ByteArray), (⟨#[120, 109, 112]⟩ : ByteArray)] : List ByteArray))
end Go.Proofs.YtkcmghlhpbepcaaGreatDoorH.W7

/- Words and walks used below. -/
namespace Go.Proofs.YtkcmghlhpbepcaaGreatDoorH.W7
open Go.RowKit Go.Proofs.YtkcmghlhpbepcaaGreatDoorW.PrintWords Go.Proofs.YtkcmghlhpbepcaaGreatDoorW.PrintLast Go.Proofs.YtkcmghlhpbepcaaGreatDoorW.PrintMore
attribute [local go_sem] max2_int min2_int max_two min_two max_three min_three max_four min_four   -- for this text's walks alone
mutual
def boltingref05_Closes.j0 : Nat → ByteArray → Bool → Option (List ByteArray)
 | 0, _, _ => none
 | k + 1, x0, x8 => if x8 = true then (some (([x0] : List ByteArray))) else (if x0.toList = ([100, 100] : List UInt8) then (boltingref05_Closes.j1 k x0 true) else (boltingref05_Closes.j1 k x0 (x0.toList == ([100, 116] : List UInt8))))
def boltingref05_Closes.j1 : Nat → ByteArray → Bool → Option (List ByteArray)
 | 0, _, _ => none
 | k + 1, x0, x16 => if x16 = true then (some (([(⟨#[100, 100]⟩ : ByteArray), (⟨#[100, 116]⟩ : ByteArray)] : List ByteArray))) else (if x0.toList = ([111, 112, 116, 103, 114, 111, 117, 112] : List UInt8) then (some (([(⟨#[111, 112, 116, 103, 114, 111, 117, 112]⟩ : ByteArray), (⟨#[111, 112, 116, 105, 111, 110]⟩ : ByteArray)] : List ByteArray))) else (if x0.toList = ([116, 114] : List UInt8) then (some (([(⟨#[116, 100]⟩ : ByteArray), (⟨#[116, 104]⟩ : ByteArray), (⟨#[116, 114]⟩ : ByteArray)] : List ByteArray))) else (if x0.toList = ([116, 100] : List UInt8) then (boltingref05_Closes.j2 k x0 true) else (boltingref05_Closes.j2 k x0 (x0.toList == ([116, 104] : List UInt8))))))
def boltingref05_Closes.j2 : Nat → ByteArray → Bool → Option (List ByteArray)
 | 0, _, _ => none
 | k + 1, x0, x29 => if x29 = true then (some (([(⟨#[116, 100]⟩ : ByteArray), (⟨#[116, 104]⟩ : ByteArray)] : List ByteArray))) else ((boltingref05_Table.f).bind fun t252 => ((boltingref02_Has.f k t252 x0).bind fun t255 => (if t255 = true then ((boltingref05_Table.f).bind fun t256 => (some t256)) else ((boltingref05_Block.f).bind fun t259 => ((boltingref02_Has.f k t259 x0).bind fun t262 => (if t262 = true then (some (([(⟨#[112]⟩ : ByteArray)] : List ByteArray))) else (some (([] : List ByteArray)))))))))
end
def boltingref05_Closes.f (k : Nat) (a0 : ByteArray) : Option (List ByteArray) := if a0.toList = ([108, 105] : List UInt8) then (boltingref05_Closes.j0 k a0 true) else (boltingref05_Closes.j0 k a0 (a0.toList == ([111, 112, 116, 105, 111, 110] : List UInt8)))
end Go.Proofs.YtkcmghlhpbepcaaGreatDoorH.W7

/- Words and walks used below. -/
namespace Go.Proofs.YtkcmghlhpbepcaaGreatDoorH.W7
open Go.RowKit Go.Proofs.YtkcmghlhpbepcaaGreatDoorW.PrintWords Go.Proofs.YtkcmghlhpbepcaaGreatDoorW.PrintLast Go.Proofs.YtkcmghlhpbepcaaGreatDoorW.PrintMore
attribute [local go_sem] max2_int min2_int max_two min_two max_three min_three max_four min_four   -- for this text's walks alone
mutual
def boltingref05_Walls.j0 : Nat → ByteArray → Bool → Option (List ByteArray)
 | 0, _, _ => none
 | k + 1, x0, x11 => if x11 = true then (some (([(⟨#[100, 108]⟩ : ByteArray), (⟨#[116, 101, 109, 112, 108, 97, 116, 101]⟩ : ByteArray)] : List ByteArray))) else (if x0.toList = ([111, 112, 116, 105, 111, 110] : List UInt8) then (boltingref05_Walls.j1 k x0 true) else (boltingref05_Walls.j1 k x0 (x0.toList == ([111, 112, 116, 103, 114, 111, 117, 112] : List UInt8))))
def boltingref05_Walls.j1 : Nat → ByteArray → Bool → Option (List ByteArray)
 | 0, _, _ => none
 | k + 1, x0, x18 => if x18 = true then (some (([(⟨#[115, 101, 108, 101, 99, 116]⟩ : ByteArray), (⟨#[116, 101, 109, 112, 108, 97, 116, 101]⟩ : ByteArray)] : List ByteArray))) else ((boltingref05_Table.f).bind fun t278 => ((boltingref02_Has.f k t278 x0).bind fun t281 => (if t281 = true then (some (([(⟨#[116, 97, 98, 108, 101]⟩ : ByteArray), (⟨#[116, 101, 109, 112, 108, 97, 116, 101]⟩ : ByteArray)] : List ByteArray))) else (some (([(⟨#[98, 117, 116, 116, 111, 110]⟩ : ByteArray), (⟨#[99, 97, 112, 116, 105, 111, 110]⟩ : ByteArray), (⟨#[116, 97, 98, 108, 101]⟩ : ByteArray), (⟨#[116, 100]⟩ : ByteArray), (⟨#[116, 101, 109, 112, 108, 97, 116, 101]⟩ : ByteArray), (⟨#[116, 104]⟩ : ByteArray)] : List ByteArray))))))
end
def boltingref05_Walls.f (k : Nat) (a0 : ByteArray) : Option (List ByteArray) := if a0.toList = ([108, 105] : List UInt8) then (some (([(⟨#[109, 101, 110, 117]⟩ : ByteArray), (⟨#[111, 108]⟩ : ByteArray), (⟨#[116, 101, 109, 112, 108, 97, 116, 101]⟩ : ByteArray), (⟨#[117, 108]⟩ : ByteArray)] : List ByteArray))) else (if a0.toList = ([100, 100] : List UInt8) then (boltingref05_Walls.j0 k a0 true) else (boltingref05_Walls.j0 k a0 (a0.toList == ([100, 116] : List UInt8))))
end Go.Proofs.YtkcmghlhpbepcaaGreatDoorH.W7

/- Words and walks used below. -/
namespace Go.Proofs.YtkcmghlhpbepcaaGreatDoorH.W7
open Go.RowKit Go.Proofs.YtkcmghlhpbepcaaGreatDoorW.PrintWords Go.Proofs.YtkcmghlhpbepcaaGreatDoorW.PrintLast Go.Proofs.YtkcmghlhpbepcaaGreatDoorW.PrintMore
attribute [local go_sem] max2_int min2_int max_two min_two max_three min_three max_four min_four   -- for this text's walks alone
def boltingref07_para.f (a0 : ByteArray) : Option (Bool) := if a0.toList = ([108, 105] : List UInt8) then (some true) else (if a0.toList = ([100, 100] : List UInt8) then (some true) else (some (a0.toList == ([100, 116] : List UInt8))))
end Go.Proofs.YtkcmghlhpbepcaaGreatDoorH.W7

/- Words and walks used below. -/
namespace Go.Proofs.YtkcmghlhpbepcaaGreatDoorH.W7
open Go.RowKit Go.Proofs.YtkcmghlhpbepcaaGreatDoorW.PrintWords Go.Proofs.YtkcmghlhpbepcaaGreatDoorW.PrintLast Go.Proofs.YtkcmghlhpbepcaaGreatDoorW.PrintMore
attribute [local go_sem] max2_int min2_int max_two min_two max_three min_three max_four min_four   -- for this text's walks alone
def boltingref07_opened.f (k : Nat) (l0 : List ByteArray) (a1 : ByteArray) : Option (List ByteArray) := (boltingref05_Closes.f k a1).bind fun t288 => ((boltingref05_Walls.f k a1).bind fun t291 => ((boltingref07_closed.f k l0 t288 t291).bind fun t294 => ((boltingref07_para.f a1).bind fun t297 => (if t297 = true then ((boltingref05_Walls.f k (⟨#[112]⟩ : ByteArray)).bind fun t301 => ((boltingref07_closed.f k t294 (([(⟨#[112]⟩ : ByteArray)] : List ByteArray)) t301).bind fun t304 => (some t304))) else (some t294)))))
end Go.Proofs.YtkcmghlhpbepcaaGreatDoorH.W7

/- Words and walks used below. -/
namespace Go.Proofs.YtkcmghlhpbepcaaGreatDoorH.W7
open Go.RowKit Go.Proofs.YtkcmghlhpbepcaaGreatDoorW.PrintWords Go.Proofs.YtkcmghlhpbepcaaGreatDoorW.PrintLast Go.Proofs.YtkcmghlhpbepcaaGreatDoorW.PrintMore
attribute [local go_sem] max2_int min2_int max_two min_two max_three min_three max_four min_four   -- for this text's walks alone
def boltingref07_Nested.f (k : Nat) (a0 : ByteArray) (l1 : List ByteArray) : Option (Bool) := (boltingref07_opened.f k l1 a0).bind fun t307 => (some ((t307.length : Int) == (l1.length : Int)))
end Go.Proofs.YtkcmghlhpbepcaaGreatDoorH.W7

/- Names and nesting, in lists alone: the printed questions about names of both sides are the same. -/
namespace Go.Proofs.YtkcmghlhpbepcaaGreatDoorH.W7
open Go.RowKit Go.Proofs Go.Proofs.YtkcmghlhpbepcaaGreatDoorH Go.Proofs.YtkcmghlhpbepcaaGreatDoor Go.Proofs.YtkcmghlhpbepcaaGreatDoorW.PrintWords
def tabR : List ByteArray := (boltingref05_Table.f).getD []
theorem table_f (s : ByteArray) (k : Nat) (hk : 20 ≤ k) : names_table.f k s = some (memS tabR s) := by
 unfold names_table.f
 rw [among_f _ _ _ (by simp) (by simp; omega), Option.bind_some]
 congr 1
 show memS _ s = memS ((boltingref05_Table.f).getD []) s
 simp only [boltingref05_Table.f, Option.getD_some, memS, List.any_cons, List.any_nil, Bool.or_false]
 ac_rfl
def blkR : List ByteArray := (boltingref05_Block.f).getD []
theorem block_f (s : ByteArray) (k : Nat) (hk : 90 ≤ k) : names_Block.f k s = some (memS blkR s) := by
 unfold names_Block.f
 rw [among_f _ _ _ (by simp) (by simp; omega), Option.bind_some]
 rfl
theorem foundK_le (xs some_ walls : List ByteArray) : ∀ k, -1 ≤ foundK xs some_ walls k ∧ foundK xs some_ walls k < k
 | 0 => by simp [foundK]
 | k + 1 => by
   have := foundK_le xs some_ walls k
   simp only [foundK]
   split
   ·omega
   ·split <;> omega
def closeR (a b : List ByteArray) : Nat → List ByteArray → List ByteArray
 | 0, op => op
 | n + 1, op => if foundK op a b op.length < 0 then op else closeR a b n (op.take (foundK op a b op.length).toNat)
theorem closes_some (s : ByteArray) (k : Nat) (hk : 101 ≤ k) : ∃ c, names_Closes.f k s = some c ∧ c.length < 1000 := by
 obtain ⟨k, rfl⟩ : ∃ m, k = m + 1 := ⟨k - 1, by omega⟩
 have h : ∀ b, ∃ c, names_Closes.j0 (k + 1) s s b = some c ∧ c.length < 1000 := by
  intro b
  simp only [names_Closes.j0]
  rw [table_f _ _ (by omega), Option.bind_some, block_f _ _ (by omega), Option.bind_some]
  repeat' split
  all_goals exact ⟨_, rfl, by simp⟩
 unfold names_Closes.f
 split
 ·exact h _
 ·exact h _
theorem walls_some (s : ByteArray) (k : Nat) (hk : 101 ≤ k) : ∃ c, names_Walls.f k s = some c ∧ c.length < 1000 := by
 unfold names_Walls.f
 rw [among_f _ _ _ (by simp) (by simp; omega), Option.bind_some, among_f _ _ _ (by simp) (by simp; omega), Option.bind_some, table_f _ _ (by omega), Option.bind_some]
 repeat' split
 all_goals exact ⟨_, rfl, by simp⟩
theorem par_some (s : ByteArray) : ∃ p, build_paragraph.f s = some p := by
 unfold build_paragraph.f
 repeat' split
 all_goals exact ⟨_, rfl⟩
end Go.Proofs.YtkcmghlhpbepcaaGreatDoorH.W7

/- Contract of rows.big: too many rows, or too deep ones. Nothing that lay in memory turns. -/
namespace Go.Proofs.YtkcmghlhpbepcaaGreatDoorH.W7
open Go.RowKit Go.Proofs Go.Proofs.YtkcmghlhpbepcaaGreatDoor
abbrev Rw := S34
theorem spot_of {w : World} {a : Addr} {v : Value} (h : w.cell? a = some v) : a = ⟨a.block, a.off, none⟩ := by
 obtain ⟨b, o, s⟩ := a
 cases s with
 | none => rfl
 | some s =>
   unfold World.cell? at h
   split at h <;> simp at h
theorem addr_at (b o n : Nat) : Addr.add ⟨b, o, none⟩ n = ⟨b, o + n, none⟩ := by
 unfold Addr.add
 split <;> simp_all
theorem row_at {w : World} {A : Option Addr} {xs : List Rw} (h : k34.C w A xs.length xs) (i : Nat) (hi : i < xs.length) :
 ∃ g o A4 c4, A = some ⟨g, o, none⟩ ∧ w.cell? ⟨g, o + i * 5, none⟩ = some (.int .i64 xs[i].f0) ∧ w.cell? ⟨g, o + i * 5 + 1, none⟩ = some (.int .i64 xs[i].f1) ∧ w.cell? ⟨g, o + i * 5 + 2, none⟩ = some (.string xs[i].f2) ∧ w.cell? ⟨g, o + i * 5 + 3, none⟩ = some (.string xs[i].f3) ∧ w.cell? ⟨g, o + i * 5 + 4, none⟩ = some (.slice A4 xs[i].f4.length c4) ∧ xs[i].f4.length ≤ c4 ∧ k36.C w A4 xs[i].f4.length xs[i].f4 := by
 obtain ⟨ad0, _, _, e0, z0, _⟩ := at_T34 h 0 (by omega) (by omega)
 have hs := spot_of (a := ad0) (by simpa [Addr.add] using z0)
 obtain ⟨ad, A4, c4, e, c0, c1, c2, c3, c4', l4, g4⟩ := at_T34 h i (by omega) (by omega)
 obtain rfl : ad0 = ad := Option.some.inj (e0.symm.trans e)
 simp only [Int.toNat_natCast] at c0 c1 c2 c3 c4'
 rw [hs, addr_at] at c0 c1 c2 c3 c4'
 have er : rd_T34 xs i = xs[i] := by simp [rd_T34, hi]
 rw [er] at c0 c1 c2 c3 c4' l4 g4
 exact ⟨ad0.block, ad0.off, A4, c4, by rw [e0, ← hs], c0, c1, c2, c3, c4', l4, g4⟩
set_option maxHeartbeats 1000000 in
set_option maxRecDepth 100000 in
theorem big1_c (d k : Int) (n t : ByteArray) (a : Option Addr) (l c : Nat) (w : World) :
 Calls Tryz.prog 130 #[.agg #[.int .i64 d, .int .i64 k, .string n, .string t, .slice a l c]] w fun e w' => e = .returned (.bool (decide (60 ≤ d))) ∧ Below w.heap.size w w' := by
 go_enter Tryz.func130, Tryz.ntmps130
 go_wp2
 go_ret
 exact ⟨rfl, (Below.refl _ w).alloc (Nat.le_refl _) _⟩
def deepB (x : Rw) : Bool := decide (60 ≤ x.f0)
set_option maxHeartbeats 1000000 in
set_option maxRecDepth 100000 in
theorem idx_big (xs : List Rw) (A : Option Addr) (c : Nat) (w : World) (hr : k34.C w A xs.length xs) (b : Bool) (hb : xs.any deepB = b) :
 Calls Tryz.prog 173 #[.slice A xs.length c, .func (.func 130) #[] #[]] w fun e w' => ∃ n : Int, e = .returned (.int .i64 n) ∧ (decide (0 ≤ n) = b) ∧ Below w.heap.size w w' := by
 have hxl := hr.2.1
 go_enter Tryz.func173, Tryz.ntmps173
 go_wp2
 go_loopw [5, 8] (fun _ v wr => ∃ (k : Nat), v = .int .i64 k ∧ k ≤ xs.length ∧ Hid (∀ j (h : j < xs.length), j < k → deepB xs[j] = false) ∧ Below w.heap.size w wr) (fun _ v _ => xs.length - (intOf v).toNat)
 case atStart => exact ⟨0, rfl, by omega, fun j _ h => by omega, Below.refl _ _⟩
 case round =>
  obtain ⟨k, rfl, hk, hno, hB⟩ := hrel
  by_cases hlt : k < xs.length
  ·obtain ⟨g, o, A4, c4, rfl, z0, z1, z2, z3, z4, _, _⟩ := row_at (Go.Proofs.YtkcmghlhpbepcaaGreatDoorW.PrintWords.Kd.C_below hr hB) k hlt
   have hyes : Hid (deepB xs[k] = true → b = true) := fun h => by rw [← hb, List.any_eq_true]; exact ⟨_, List.getElem_mem hlt, h⟩
   have hno2 : Hid (deepB xs[k] = false → ∀ j (h : j < xs.length), j < k + 1 → deepB xs[j] = false) := fun h j hj hjk => by
    by_cases e : j = k
    ·subst e; exact h
    ·exact hno.out j hj (by omega)
   have hdef : Hid (deepB xs[k] = decide (60 ≤ xs[k].f0)) := rfl
   generalize deepB xs[k] = dk at *
   generalize xs[k] = x at *
   obtain ⟨d, kd, nm, dt, at'⟩ := x
   simp only at z0 z1 z2 z3 z4 hdef
   have hc1 := Lib.hid (fun W => big1_c d kd nm dt A4 at'.length c4 W)
   have hdef2 := hdef.out
   clear hno hb
   by_cases h60 : 60 ≤ d
   ·have hdk : dk = true := by rw [hdef2]; exact decide_eq_true h60
    have hbt := hyes.out hdk
    rw [decide_eq_true h60] at hc1
    clear hyes hno2 hdef hdef2 hdk
    subst hbt
    go_wp2_with (go_at_call 130; ((with_reducible refine (hc1.out _).mono ?_); rintro e w1 ⟨rfl, hb1⟩; have hB1 := below_then hB hB.size hb1))
    go_ret
    exact ⟨_, rfl, decide_eq_true (by omega), hB1⟩
   ·have hdk : dk = false := by rw [hdef2]; exact decide_eq_false h60
    have hno3 : Hid _ := hno2.out hdk
    rw [decide_eq_false h60] at hc1
    clear hyes hno2 hdef hdef2 hdk
    go_wp2_with (go_at_call 130; ((with_reducible refine (hc1.out _).mono ?_); rintro e w1 ⟨rfl, hb1⟩; have hB1 := below_then hB hB.size hb1))
    exact ⟨⟨k + 1, rfl, by omega, hno3, hB1⟩, by simp [intOf]; omega⟩
  ·have hbf : b = false := by
    rw [← hb, List.any_eq_false]
    intro x hx
    obtain ⟨j, hj, rfl⟩ := List.getElem_of_mem hx
    rw [hno.out j hj (by omega)]
    simp
   subst hbf
   clear hno hb
   go_wp2
   go_ret
   exact ⟨-1, rfl, by decide, hB⟩
set_option maxHeartbeats 1000000 in
set_option maxRecDepth 100000 in
theorem contains_big (xs : List Rw) (A : Option Addr) (c : Nat) (w : World) (hr : k34.C w A xs.length xs) (b : Bool) (hb : xs.any deepB = b) :
 Calls Tryz.prog 129 #[.slice A xs.length c, .func (.func 130) #[] #[]] w fun e w' => e = .returned (.bool b) ∧ Below w.heap.size w w' := by
 have hi := Lib.hid (idx_big xs A c w hr b hb)
 clear hb
 go_enter Tryz.func129, Tryz.ntmps129
 go_wp2_with (go_at_call 173; ((with_reducible refine hi.out.mono ?_); rintro e w1 ⟨n, rfl, hn, hb1⟩))
 go_ret
 exact ⟨rfl, hb1⟩
def rows_big.f (l0 : List Rw) : Option Bool := some (decide (4096 < l0.length) || l0.any deepB)
set_option maxHeartbeats 1000000 in
set_option maxRecDepth 100000 in
theorem rows_big.calls (A0 : Option Addr) (c0 : Nat) (l0 : List Rw) (r : Bool) (w : World) (hr0 : k34.C w A0 l0.length l0) (hc0 : l0.length ≤ c0) (h : rows_big.f l0 = some r) :
 Calls Tryz.prog 84 #[.slice A0 l0.length c0] w fun e w' => e = .returned (.bool r) ∧ Below w.heap.size w w' := by
 have hl := hr0.2.1
 have hi := Lib.hid (contains_big l0 A0 c0 w hr0 _ rfl)
 replace h := Option.some.inj h
 by_cases h1 : 4096 < l0.length
 ·have hI : (4096 : Int) < l0.length := by omega
  have hr : r = true := by rw [← h, decide_eq_true h1]; rfl
  subst hr
  clear h hi
  go_enter Tryz.func84, Tryz.ntmps84
  go_wp2
  go_ret
  exact ⟨rfl, Below.refl _ _⟩
 ·have hI : ¬ (4096 : Int) < l0.length := by omega
  rw [decide_eq_false h1, Bool.false_or] at h
  rw [h] at hi
  clear h
  go_enter Tryz.func84, Tryz.ntmps84
  go_wp2_with (go_at_call 129; ((with_reducible refine hi.out.mono ?_); rintro e w1 ⟨rfl, hb1⟩))
  go_ret
  exact ⟨rfl, hb1⟩
end Go.Proofs.YtkcmghlhpbepcaaGreatDoorH.W7
