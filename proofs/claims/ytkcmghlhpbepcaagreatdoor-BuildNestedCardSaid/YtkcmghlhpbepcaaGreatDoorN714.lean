/- Lemmas and walks, part 14: QPW7x17, QPW7x19, QPW7x20. -/
import Derived.Test.YtkcmghlhpbepcaaGreatDoorN73
import Derived.Test.YtkcmghlhpbepcaaGreatDoorN710
import Derived.Test.YtkcmghlhpbepcaaGreatDoorN712
import Derived.Test.YtkcmghlhpbepcaaGreatDoorN713
set_option linter.unusedVariables false
set_option linter.unusedSimpArgs false

/- Words and walks used below. -/
namespace Go.Proofs.YtkcmghlhpbepcaaGreatDoorH.W7
open Go.RowKit Go.Proofs.YtkcmghlhpbepcaaGreatDoorW.PrintWords Go.Proofs.YtkcmghlhpbepcaaGreatDoorW.PrintLast Go.Proofs.YtkcmghlhpbepcaaGreatDoorW.PrintMore
attribute [local go_sem] max2_int min2_int max_two min_two max_three min_three max_four min_four   -- for this text's walks alone
def build_Nested.f (k : Nat) (a0 : ByteArray) (l1 : List ByteArray) : Option (Bool) := (build_paragraph.f a0).bind fun t191 => (if t191 = true then ((names_Walls.f k (⟨#[112]⟩ : ByteArray)).bind fun t195 => ((build_found.f l1 (([(⟨#[112]⟩ : ByteArray)] : List ByteArray)) t195).bind fun t198 => (if t198 ≥ 0 then (some false) else ((names_Closes.f k a0).bind fun t199 => ((names_Walls.f k a0).bind fun t202 => ((build_found.f l1 t199 t202).bind fun t205 => (some (decide (t205 < 0))))))))) else ((names_Closes.f k a0).bind fun t206 => ((names_Walls.f k a0).bind fun t209 => ((build_found.f l1 t206 t209).bind fun t212 => (some (decide (t212 < 0)))))))
set_option maxHeartbeats 8000000 in
set_option maxRecDepth 100000 in
theorem build_Nested.calls (k : Nat) (a0 : ByteArray) (A1 : Option Addr) (c1 : Nat) (l1 : List ByteArray) (r : Bool) (w : World) (hr1 : Kd.C Kd.string w A1 l1.length l1) (hc1 : l1.length ≤ c1) (h : build_Nested.f k a0 l1 = some r) :
 Calls Tryz.prog 27 #[.string a0, .slice A1 l1.length c1] w fun e w' => e = .returned (.bool r) ∧ Below w.heap.size w w' := by
 have HR1 := Aside0.mk hr1
 have HC1 := Aside0.mk hc1
 clear hr1 hc1
 have HB := Aside0.mk (Below.refl w.heap.size w)
 have H : ((build_paragraph.f a0).bind fun t191 => (if t191 = true then ((names_Walls.f k (⟨#[112]⟩ : ByteArray)).bind fun t195 => ((build_found.f l1 (([(⟨#[112]⟩ : ByteArray)] : List ByteArray)) t195).bind fun t198 => (if t198 ≥ 0 then (some false) else ((names_Closes.f k a0).bind fun t199 => ((names_Walls.f k a0).bind fun t202 => ((build_found.f l1 t199 t202).bind fun t205 => (some (decide (t205 < 0))))))))) else ((names_Closes.f k a0).bind fun t206 => ((names_Walls.f k a0).bind fun t209 => ((build_found.f l1 t206 t209).bind fun t212 => (some (decide (t212 < 0)))))))) = some r := h
 clear h
 replace H := Option.bind_eq_some_iff.mp H
 obtain ⟨t191, A30, H⟩ := H
 replace H : (if t191 = true then ((names_Walls.f k (⟨#[112]⟩ : ByteArray)).bind fun t195 => ((build_found.f l1 (([(⟨#[112]⟩ : ByteArray)] : List ByteArray)) t195).bind fun t198 => (if t198 ≥ 0 then (some false) else ((names_Closes.f k a0).bind fun t199 => ((names_Walls.f k a0).bind fun t202 => ((build_found.f l1 t199 t202).bind fun t205 => (some (decide (t205 < 0))))))))) else ((names_Closes.f k a0).bind fun t206 => ((names_Walls.f k a0).bind fun t209 => ((build_found.f l1 t206 t209).bind fun t212 => (some (decide (t212 < 0))))))) = some r := H
 have A3 := Aside0.mk A30
 clear A30
 by_cases c4 : t191 = true
 ·subst c4
  have H1 : ((names_Walls.f k (⟨#[112]⟩ : ByteArray)).bind fun t195 => ((build_found.f l1 (([(⟨#[112]⟩ : ByteArray)] : List ByteArray)) t195).bind fun t198 => (if t198 ≥ 0 then (some false) else ((names_Closes.f k a0).bind fun t199 => ((names_Walls.f k a0).bind fun t202 => ((build_found.f l1 t199 t202).bind fun t205 => (some (decide (t205 < 0))))))))) = some r := by rw [if_pos rfl] at H; exact H
  clear H
  have H := H1
  clear H1
  obtain ⟨y192, hy192⟩ : ∃ y_ : List ByteArray, y_ = (([(⟨#[112]⟩ : ByteArray)] : List ByteArray)) := ⟨_, rfl⟩
  replace H : ((names_Walls.f k (⟨#[112]⟩ : ByteArray)).bind fun t195 => ((build_found.f l1 y192 t195).bind fun t198 => (if t198 ≥ 0 then (some false) else ((names_Closes.f k a0).bind fun t199 => ((names_Walls.f k a0).bind fun t202 => ((build_found.f l1 t199 t202).bind fun t205 => (some (decide (t205 < 0))))))))) = some r := by first | (rw [hy192]; with_reducible exact H) | (have H2_ := (Option.bind_some _ _).symm.trans H; rw [hy192]; with_reducible exact H2_) | (have H2_ := (Option.bind_some _ _).symm.trans H; with_reducible exact H2_) | with_reducible exact H | (rw [hy192]; exact H) | exact H
  have Ny192 := Aside0.mk hy192
  clear hy192
  replace H := Option.bind_eq_some_iff.mp H
  obtain ⟨t195, A50, H⟩ := H
  replace H : ((build_found.f l1 y192 t195).bind fun t198 => (if t198 ≥ 0 then (some false) else ((names_Closes.f k a0).bind fun t199 => ((names_Walls.f k a0).bind fun t202 => ((build_found.f l1 t199 t202).bind fun t205 => (some (decide (t205 < 0)))))))) = some r := H
  have A5 := Aside0.mk A50
  clear A50
  replace H := Option.bind_eq_some_iff.mp H
  obtain ⟨t198, A60, H⟩ := H
  replace H : (if t198 ≥ 0 then (some false) else ((names_Closes.f k a0).bind fun t199 => ((names_Walls.f k a0).bind fun t202 => ((build_found.f l1 t199 t202).bind fun t205 => (some (decide (t205 < 0))))))) = some r := H
  have A6 := Aside0.mk A60
  clear A60
  by_cases c7 : t198 ≥ 0
  ·rw [if_pos c7] at H
   have c7b0 : decide (0 ≤ t198) = true := decide_eq_true c7
   clear c7
   obtain rfl := Option.some.inj H
   go_enter Tryz.func27, Tryz.ntmps27
   go_wp2_with (first | ((with_reducible refine gate_callee (f := 76) rfl ?_); refine goesL_ (some 7) rfl rfl Tryz.func76 (by kernel_rfl) rfl #[.string a0] rfl (by (try simp only [List.map_toArray, List.map_cons, List.map_nil]); first | done | rfl | (simp only [List.length_drop, List.length_take]; rfl)) ?_; (with_reducible refine (build_paragraph.calls a0 true _ A3.out).mono ?_); rintro e w' ⟨rfl, ⟨nd, rfl⟩⟩; refine ⟨_, rfl, ?_⟩) | ((with_reducible refine gate_dst (N := 10) rfl ?_); (try (refine gate_guard (by rfl) ?_; dsimp only)); refine Kd.R_lit Kd.string _ 9 ?hg (N := 10) ?hd (xs := ([(⟨#[112]⟩ : ByteArray)] : List ByteArray)) (inner := [.string (⟨#[112]⟩ : ByteArray)]) (ok := fun _ => True) (okp := fun _ => True) ?hr ?hp (fun _ hk => hk) trivial (Below.refl _ _) (Nat.le_refl _) (by simp) ?_; (case hd => rfl); (case hg => rfl); (case hr => first | (go_simp; done) | (go_simp; rfl)); (case hp => exact (Reps.one (show Kd.M Kd.string _ _ _ (⟨#[112]⟩ : ByteArray) [.string (⟨#[112]⟩ : ByteArray)] from rfl) (Reps.none _ _))); intro v193 w8 ho9 hb hg_ hnew_; clear hg_ hnew_; (first | rw [← Ny192.out] at ho9 | (simp only [Int.reduceToNat] at ho9; rw [← Ny192.out] at ho9)); have n0_ := Aside0.mk (Kd.R_lower ho9 (below_size bz)); have n1_ := Aside0.mk (below_step bz hb); clear HB; have HO194 := n0_; have HB := n1_; clear n0_ n1_; clear hb ho9) | (go_at_call 78; (fail_if_success (have zz_ := Ao12)); (with_reducible refine (names_Walls.calls k (⟨#[112]⟩ : ByteArray) t195 _ A5.out).mono ?_); rintro e w10 ⟨v196, rfl, ho0, hb⟩; have n0_ := Aside0.mk (Kd.R_elder' (rz HO194.out) (Kd.R_base ho0) hb); have n1_ := Aside0.mk (Kd.R_lower (Kd.R_new' ho0 (Kd.R_lt (rz HO194.out))) (below_size bz)); have n2_ := Aside0.mk (below_step bz hb); clear HO194; clear HB; have HO194 := n0_; have HO197 := n1_; have HB := n2_; clear n0_ n1_ n2_; (try clear hb); (try clear hb2); (try clear hk); (try clear hi); (try clear ho0); obtain ⟨Ao11, co11, eo11⟩ := Kd.R_slice HO194.out; subst eo11; obtain ⟨Ao12, co12, eo12⟩ := Kd.R_slice HO197.out; subst eo12) | (go_at_call 77; (with_reducible refine (build_found.calls _ _ l1 _ _ y192 _ _ t195 t198 _ ?side1 ?side2 ?side3 ?side4 ?side5 ?side6 A6.out).mono ?_); (case side1 => exact cz (Kd.C_below HR1.out HB.out)); (case side2 => exact HC1.out); (case side3 => exact cz (Kd.R_reads' HO194.out).2.2); (case side4 => exact (Kd.R_reads' HO194.out).2.1); (case side5 => exact cz (Kd.R_reads' HO197.out).2.2); (case side6 => exact (Kd.R_reads' HO197.out).2.1); rintro e w13 ⟨rfl, hb⟩; have n0_ := Aside0.mk (Kd.R_below (rz HO194.out) hb); have n1_ := Aside0.mk (Kd.R_below (rz HO197.out) hb); have n2_ := Aside0.mk (below_step bz hb); clear HO194; clear HO197; clear HB; have HO194 := n0_; have HO197 := n1_; have HB := n2_; clear n0_ n1_ n2_; (try clear hb); (try clear hb2); (try clear hk); (try clear hi)))
   go_ret
   exact ⟨by first | rfl | (simp [errW_none, errW_some] <;> rfl) | (simp [*, errW_none, errW_some] <;> rfl), bz⟩
  ·rw [if_neg c7] at H
   have c7b0 : decide (0 ≤ t198) = false := decide_eq_false c7
   clear c7
   replace H := Option.bind_eq_some_iff.mp H
   obtain ⟨t199, A140, H⟩ := H
   replace H : ((names_Walls.f k a0).bind fun t202 => ((build_found.f l1 t199 t202).bind fun t205 => (some (decide (t205 < 0))))) = some r := H
   have A14 := Aside0.mk A140
   clear A140
   replace H := Option.bind_eq_some_iff.mp H
   obtain ⟨t202, A150, H⟩ := H
   replace H : ((build_found.f l1 t199 t202).bind fun t205 => (some (decide (t205 < 0)))) = some r := H
   have A15 := Aside0.mk A150
   clear A150
   replace H := Option.bind_eq_some_iff.mp H
   obtain ⟨t205, A160, H⟩ := H
   replace H : (some (decide (t205 < 0))) = some r := H
   have A16 := Aside0.mk A160
   clear A160
   obtain rfl := Option.some.inj H
   go_enter Tryz.func27, Tryz.ntmps27
   go_wp2_with (first | ((with_reducible refine gate_callee (f := 76) rfl ?_); refine goesL_ (some 7) rfl rfl Tryz.func76 (by kernel_rfl) rfl #[.string a0] rfl (by (try simp only [List.map_toArray, List.map_cons, List.map_nil]); first | done | rfl | (simp only [List.length_drop, List.length_take]; rfl)) ?_; (with_reducible refine (build_paragraph.calls a0 true _ A3.out).mono ?_); rintro e w' ⟨rfl, ⟨nd, rfl⟩⟩; refine ⟨_, rfl, ?_⟩) | ((with_reducible refine gate_dst (N := 10) rfl ?_); (try (refine gate_guard (by rfl) ?_; dsimp only)); refine Kd.R_lit Kd.string _ 9 ?hg (N := 10) ?hd (xs := ([(⟨#[112]⟩ : ByteArray)] : List ByteArray)) (inner := [.string (⟨#[112]⟩ : ByteArray)]) (ok := fun _ => True) (okp := fun _ => True) ?hr ?hp (fun _ hk => hk) trivial (Below.refl _ _) (Nat.le_refl _) (by simp) ?_; (case hd => rfl); (case hg => rfl); (case hr => first | (go_simp; done) | (go_simp; rfl)); (case hp => exact (Reps.one (show Kd.M Kd.string _ _ _ (⟨#[112]⟩ : ByteArray) [.string (⟨#[112]⟩ : ByteArray)] from rfl) (Reps.none _ _))); intro v193 w17 ho18 hb hg_ hnew_; clear hg_ hnew_; (first | rw [← Ny192.out] at ho18 | (simp only [Int.reduceToNat] at ho18; rw [← Ny192.out] at ho18)); have n0_ := Aside0.mk (Kd.R_lower ho18 (below_size bz)); have n1_ := Aside0.mk (below_step bz hb); clear HB; have HO194 := n0_; have HB := n1_; clear n0_ n1_; clear hb ho18) | (go_at_call 78; (fail_if_success (have zz_ := Ao21)); (with_reducible refine (names_Walls.calls k (⟨#[112]⟩ : ByteArray) t195 _ A5.out).mono ?_); rintro e w19 ⟨v196, rfl, ho0, hb⟩; have n0_ := Aside0.mk (Kd.R_elder' (rz HO194.out) (Kd.R_base ho0) hb); have n1_ := Aside0.mk (Kd.R_lower (Kd.R_new' ho0 (Kd.R_lt (rz HO194.out))) (below_size bz)); have n2_ := Aside0.mk (below_step bz hb); clear HO194; clear HB; have HO194 := n0_; have HO197 := n1_; have HB := n2_; clear n0_ n1_ n2_; (try clear hb); (try clear hb2); (try clear hk); (try clear hi); (try clear ho0); obtain ⟨Ao20, co20, eo20⟩ := Kd.R_slice HO194.out; subst eo20; obtain ⟨Ao21, co21, eo21⟩ := Kd.R_slice HO197.out; subst eo21) | (go_at_call 77; (with_reducible refine (build_found.calls _ _ l1 _ _ y192 _ _ t195 t198 _ ?side1 ?side2 ?side3 ?side4 ?side5 ?side6 A6.out).mono ?_); (case side1 => exact cz (Kd.C_below HR1.out HB.out)); (case side2 => exact HC1.out); (case side3 => exact cz (Kd.R_reads' HO194.out).2.2); (case side4 => exact (Kd.R_reads' HO194.out).2.1); (case side5 => exact cz (Kd.R_reads' HO197.out).2.2); (case side6 => exact (Kd.R_reads' HO197.out).2.1); rintro e w22 ⟨rfl, hb⟩; have n0_ := Aside0.mk (Kd.R_below (rz HO194.out) hb); have n1_ := Aside0.mk (Kd.R_below (rz HO197.out) hb); have n2_ := Aside0.mk (below_step bz hb); clear HO194; clear HO197; clear HB; have HO194 := n0_; have HO197 := n1_; have HB := n2_; clear n0_ n1_ n2_; (try clear hb); (try clear hb2); (try clear hk); (try clear hi)) | (go_at_call 35; (with_reducible refine (names_Closes.calls k a0 t199 _ A14.out).mono ?_); rintro e w23 ⟨v200, rfl, ho0, hb⟩; have n0_ := Aside0.mk (Kd.R_elder' (rz HO194.out) (Kd.R_base ho0) hb); have n1_ := Aside0.mk (Kd.R_elder' (rz HO197.out) (Kd.R_base ho0) hb); have n2_ := Aside0.mk (Kd.R_lower (Kd.R_new' (Kd.R_new' ho0 (Kd.R_lt (rz HO194.out))) (Kd.R_lt (rz HO197.out))) (below_size bz)); have n3_ := Aside0.mk (below_step bz hb); clear HO194; clear HO197; clear HB; have HO194 := n0_; have HO197 := n1_; have HO201 := n2_; have HB := n3_; clear n0_ n1_ n2_ n3_; (try clear hb); (try clear hb2); (try clear hk); (try clear hi); (try clear ho0)) | (go_at_call 78; (fail_if_success (have zz_ := Ao26)); (with_reducible refine (names_Walls.calls k a0 t202 _ A15.out).mono ?_); rintro e w24 ⟨v203, rfl, ho0, hb⟩; have n0_ := Aside0.mk (Kd.R_elder' (rz HO194.out) (Kd.R_base ho0) hb); have n1_ := Aside0.mk (Kd.R_elder' (rz HO197.out) (Kd.R_base ho0) hb); have n2_ := Aside0.mk (Kd.R_elder' (rz HO201.out) (Kd.R_base ho0) hb); have n3_ := Aside0.mk (Kd.R_lower (Kd.R_new' (Kd.R_new' (Kd.R_new' ho0 (Kd.R_lt (rz HO194.out))) (Kd.R_lt (rz HO197.out))) (Kd.R_lt (rz HO201.out))) (below_size bz)); have n4_ := Aside0.mk (below_step bz hb); clear HO194; clear HO197; clear HO201; clear HB; have HO194 := n0_; have HO197 := n1_; have HO201 := n2_; have HO204 := n3_; have HB := n4_; clear n0_ n1_ n2_ n3_ n4_; (try clear hb); (try clear hb2); (try clear hk); (try clear hi); (try clear ho0); obtain ⟨Ao25, co25, eo25⟩ := Kd.R_slice HO201.out; subst eo25; obtain ⟨Ao26, co26, eo26⟩ := Kd.R_slice HO204.out; subst eo26) | (go_at_call 77; (with_reducible refine (build_found.calls _ _ l1 _ _ t199 _ _ t202 t205 _ ?side1 ?side2 ?side3 ?side4 ?side5 ?side6 A16.out).mono ?_); (case side1 => exact cz (Kd.C_below HR1.out HB.out)); (case side2 => exact HC1.out); (case side3 => exact cz (Kd.R_reads' HO201.out).2.2); (case side4 => exact (Kd.R_reads' HO201.out).2.1); (case side5 => exact cz (Kd.R_reads' HO204.out).2.2); (case side6 => exact (Kd.R_reads' HO204.out).2.1); rintro e w27 ⟨rfl, hb⟩; have n0_ := Aside0.mk (Kd.R_below (rz HO194.out) hb); have n1_ := Aside0.mk (Kd.R_below (rz HO197.out) hb); have n2_ := Aside0.mk (Kd.R_below (rz HO201.out) hb); have n3_ := Aside0.mk (Kd.R_below (rz HO204.out) hb); have n4_ := Aside0.mk (below_step bz hb); clear HO194; clear HO197; clear HO201; clear HO204; clear HB; have HO194 := n0_; have HO197 := n1_; have HO201 := n2_; have HO204 := n3_; have HB := n4_; clear n0_ n1_ n2_ n3_ n4_; (try clear hb); (try clear hb2); (try clear hk); (try clear hi)))
   go_ret
   exact ⟨by first | rfl | (simp [errW_none, errW_some] <;> rfl) | (simp [*, errW_none, errW_some] <;> rfl), bz⟩
 ·replace c4 := Bool.eq_false_iff.mpr c4
  subst c4
  have H1 : ((names_Closes.f k a0).bind fun t206 => ((names_Walls.f k a0).bind fun t209 => ((build_found.f l1 t206 t209).bind fun t212 => (some (decide (t212 < 0)))))) = some r := by rw [if_neg (show ¬ (false = true) by decide)] at H; first | exact H | (simp only [eq_self] at H ⊢; exact H) | (simp only [eq_self, if_true] at H ⊢; exact H)
  clear H
  have H := H1
  clear H1
  replace H := Option.bind_eq_some_iff.mp H
  obtain ⟨t206, A280, H⟩ := H
  replace H : ((names_Walls.f k a0).bind fun t209 => ((build_found.f l1 t206 t209).bind fun t212 => (some (decide (t212 < 0))))) = some r := H
  have A28 := Aside0.mk A280
  clear A280
  replace H := Option.bind_eq_some_iff.mp H
  obtain ⟨t209, A290, H⟩ := H
  replace H : ((build_found.f l1 t206 t209).bind fun t212 => (some (decide (t212 < 0)))) = some r := H
  have A29 := Aside0.mk A290
  clear A290
  replace H := Option.bind_eq_some_iff.mp H
  obtain ⟨t212, A300, H⟩ := H
  replace H : (some (decide (t212 < 0))) = some r := H
  have A30 := Aside0.mk A300
  clear A300
  obtain rfl := Option.some.inj H
  go_enter Tryz.func27, Tryz.ntmps27
  go_wp2_with (first | ((with_reducible refine gate_callee (f := 76) rfl ?_); refine goesL_ (some 7) rfl rfl Tryz.func76 (by kernel_rfl) rfl #[.string a0] rfl (by (try simp only [List.map_toArray, List.map_cons, List.map_nil]); first | done | rfl | (simp only [List.length_drop, List.length_take]; rfl)) ?_; (with_reducible refine (build_paragraph.calls a0 false _ A3.out).mono ?_); rintro e w' ⟨rfl, ⟨nd, rfl⟩⟩; refine ⟨_, rfl, ?_⟩) | (go_at_call 35; (with_reducible refine (names_Closes.calls k a0 t206 _ A28.out).mono ?_); rintro e w31 ⟨v207, rfl, ho0, hb⟩; have n0_ := Aside0.mk (Kd.R_lower ho0 (below_size bz)); have n1_ := Aside0.mk (below_step bz hb); clear HB; have HO208 := n0_; have HB := n1_; clear n0_ n1_; (try clear hb); (try clear hb2); (try clear hk); (try clear hi); (try clear ho0)) | (go_at_call 78; (fail_if_success (have zz_ := Ao34)); (with_reducible refine (names_Walls.calls k a0 t209 _ A29.out).mono ?_); rintro e w32 ⟨v210, rfl, ho0, hb⟩; have n0_ := Aside0.mk (Kd.R_elder' (rz HO208.out) (Kd.R_base ho0) hb); have n1_ := Aside0.mk (Kd.R_lower (Kd.R_new' ho0 (Kd.R_lt (rz HO208.out))) (below_size bz)); have n2_ := Aside0.mk (below_step bz hb); clear HO208; clear HB; have HO208 := n0_; have HO211 := n1_; have HB := n2_; clear n0_ n1_ n2_; (try clear hb); (try clear hb2); (try clear hk); (try clear hi); (try clear ho0); obtain ⟨Ao33, co33, eo33⟩ := Kd.R_slice HO208.out; subst eo33; obtain ⟨Ao34, co34, eo34⟩ := Kd.R_slice HO211.out; subst eo34) | (go_at_call 77; (with_reducible refine (build_found.calls _ _ l1 _ _ t206 _ _ t209 t212 _ ?side1 ?side2 ?side3 ?side4 ?side5 ?side6 A30.out).mono ?_); (case side1 => exact cz (Kd.C_below HR1.out HB.out)); (case side2 => exact HC1.out); (case side3 => exact cz (Kd.R_reads' HO208.out).2.2); (case side4 => exact (Kd.R_reads' HO208.out).2.1); (case side5 => exact cz (Kd.R_reads' HO211.out).2.2); (case side6 => exact (Kd.R_reads' HO211.out).2.1); rintro e w35 ⟨rfl, hb⟩; have n0_ := Aside0.mk (Kd.R_below (rz HO208.out) hb); have n1_ := Aside0.mk (Kd.R_below (rz HO211.out) hb); have n2_ := Aside0.mk (below_step bz hb); clear HO208; clear HO211; clear HB; have HO208 := n0_; have HO211 := n1_; have HB := n2_; clear n0_ n1_ n2_; (try clear hb); (try clear hb2); (try clear hk); (try clear hi)))
  go_ret
  exact ⟨by first | rfl | (simp [errW_none, errW_some] <;> rfl) | (simp [*, errW_none, errW_some] <;> rfl), bz⟩
end Go.Proofs.YtkcmghlhpbepcaaGreatDoorH.W7

/- Words and walks used below. -/
namespace Go.Proofs.YtkcmghlhpbepcaaGreatDoorH.W7
open Go.RowKit Go.Proofs.YtkcmghlhpbepcaaGreatDoorW.PrintWords Go.Proofs.YtkcmghlhpbepcaaGreatDoorW.PrintLast Go.Proofs.YtkcmghlhpbepcaaGreatDoorW.PrintMore
attribute [local go_sem] max2_int min2_int max_two min_two max_three min_three max_four min_four   -- for this text's walks alone
def boltingref07_Found.l0 : Nat → List ByteArray → List ByteArray → List ByteArray → Int → Option (Int)
 | 0, _, _, _, _ => none
 | k + 1, x0, x1, x2, x7 => if x7 ≥ 0 then (if 0 ≤ x7 then (if x7 < (x0.length : Int) then ((boltingref02_Has.f k x1 (rdOf ByteArray.empty x0 x7)).bind fun t215 => (if t215 = true then (some x7) else ((boltingref02_Has.f k x2 (rdOf ByteArray.empty x0 x7)).bind fun t217 => (if t217 = true then (some (-1)) else (boltingref07_Found.l0 k x0 x1 x2 (wrap64 (x7 - 1))))))) else (none)) else (none)) else (some (-1))
def boltingref07_Found.f (k : Nat) (l0 : List ByteArray) (l1 : List ByteArray) (l2 : List ByteArray) : Option (Int) := boltingref07_Found.l0 k l0 l1 l2 (wrap64 ((l0.length : Int) - 1))
set_option maxHeartbeats 8000000 in
set_option maxRecDepth 100000 in
theorem boltingref07_Found.calls (k : Nat) (A0 : Option Addr) (c0 : Nat) (l0 : List ByteArray) (A1 : Option Addr) (c1 : Nat) (l1 : List ByteArray) (A2 : Option Addr) (c2 : Nat) (l2 : List ByteArray) (r : Int) (w : World) (hr0 : Kd.C Kd.string w A0 l0.length l0) (hc0 : l0.length ≤ c0) (hr1 : Kd.C Kd.string w A1 l1.length l1) (hc1 : l1.length ≤ c1) (hr2 : Kd.C Kd.string w A2 l2.length l2) (hc2 : l2.length ≤ c2) (h : boltingref07_Found.f k l0 l1 l2 = some r) :
 Calls Tryz.prog 111 #[.slice A0 l0.length c0, .slice A1 l1.length c1, .slice A2 l2.length c2] w fun e w' => e = .returned (.int .i64 r) ∧ Drawn0 w w' := by
 have HR0 := Aside0.mk hr0
 have HC0 := Aside0.mk hc0
 clear hr0 hc0
 have HR1 := Aside0.mk hr1
 have HC1 := Aside0.mk hc1
 clear hr1 hc1
 have HR2 := Aside0.mk hr2
 have HC2 := Aside0.mk hc2
 clear hr2 hc2
 have H : (boltingref07_Found.l0 k l0 l1 l2 (wrap64 ((l0.length : Int) - 1))) = some r := h
 clear h
 have H' := Aside0.mk H
 clear H
 go_enter Tryz.func111, Tryz.ntmps111
 go_wp2
 go_loopg [7] k (fun kq v7 w' => ∃ (x7_1 : Int), v7 = .int .i64 x7_1 ∧ Aside0 (boltingref07_Found.l0 kq l0 l1 l2 x7_1 = some r) ∧ Aside0 (kq ≤ k) ∧ Drawn0 w w')
 case atStart => exact ⟨(wrap64 ((l0.length : Int) - 1)), (by first | rfl | (simp; done) | (simp [*]; done) | (simp; generalize ByteArray.toList _ = l_; cases l_ <;> rfl)), H', ⟨Nat.le_refl _⟩, by repeat (first | exact Drawn0.refl _ | apply Drawn0.step)⟩
 case round =>
  clear H'
  try clear c1
  try clear c2
  try clear p2
  obtain ⟨x7_1, rfl, HA, HK1, ⟨m1, rfl⟩⟩ := hrel
  cases gk with
  | zero => exact absurd HA.out (by simp [boltingref07_Found.l0])
  | succ k1 =>
    have H := HA.out
    clear HA
    simp only [boltingref07_Found.l0] at H
    by_cases c4 : x7_1 ≥ 0
    ·rw [if_pos c4] at H
     have c4b0 : decide (0 ≤ x7_1) = true := decide_eq_true c4
     clear c4
     by_cases c5 : 0 ≤ x7_1
     ·rw [if_pos c5] at H
      have c5b0 : decide (0 ≤ x7_1) = true := decide_eq_true c5
      clear c5
      by_cases c6 : x7_1 < (l0.length : Int)
      ·rw [if_pos c6] at H
       have c6b0 : decide (x7_1 < (l0.length : Int)) = true := decide_eq_true c6
       clear c6
       replace H := Option.bind_eq_some_iff.mp H
       obtain ⟨t215, A70, H⟩ := H
       replace H : (if t215 = true then (some x7_1) else ((boltingref02_Has.f k1 l2 (rdOf ByteArray.empty l0 x7_1)).bind fun t217 => (if t217 = true then (some (-1)) else (boltingref07_Found.l0 k1 l0 l1 l2 (wrap64 (x7_1 - 1)))))) = some r := H
       have A7 := Aside0.mk A70
       clear A70
       by_cases c8 : t215 = true
       ·subst c8
        have H1 : (some x7_1) = some r := by rw [if_pos rfl] at H; exact H
        clear H
        have H := H1
        clear H1
        obtain rfl := Option.some.inj H
        have p214 : 0 ≤ (x7_1 : Int) := (by first | exact of_decide_eq_true (by first | (with_reducible assumption) | assumption) | assumption | omega)
        have q214 : x7_1 < (l0.length : Int) := (by first | exact of_decide_eq_true (by first | (with_reducible assumption) | assumption) | assumption | omega)
        obtain ⟨ad214, e214, hx214_0⟩ := Kd.at_string HR0.out x7_1 p214 q214
        cases e214
        replace p214 := eq_true p214
        replace q214 := eq_true q214
        go_wp2_with (first | ((with_reducible refine gate_callee (f := 57) rfl ?_); refine goesL_ (some 20) rfl rfl Tryz.func57 (by kernel_rfl) rfl #[.slice A1 l1.length c1, .string (rdOf ByteArray.empty l0 x7_1)] rfl (by (try simp only [List.map_toArray, List.map_cons, List.map_nil]); first | done | rfl | (simp only [List.length_drop, List.length_take]; rfl)) ?_; (with_reducible refine (boltingref02_Has.calls k1 _ _ l1 (rdOf ByteArray.empty l0 x7_1) true _ ?side1 ?side2 A7.out).mono ?_); (case side1 => repeat (first | exact HR1.out | (with_reducible refine Kd.C_alloc ?_ _) | (with_reducible refine Kd.C_drewN ?_ _) | (with_reducible refine Kd.C_drew ?_))); (case side2 => exact HC1.out); rintro e w' ⟨rfl, ⟨nd, rfl⟩⟩; refine ⟨_, rfl, ?_⟩))
        go_ret
        exact ⟨by first | rfl | (simp; done) | (simp [*]; done) | (simp; generalize ByteArray.toList _ = l_; cases l_ <;> rfl), by repeat (first | exact Drawn0.refl _ | apply Drawn0.step)⟩
       ·replace c8 := Bool.eq_false_iff.mpr c8
        subst c8
        have H1 : ((boltingref02_Has.f k1 l2 (rdOf ByteArray.empty l0 x7_1)).bind fun t217 => (if t217 = true then (some (-1)) else (boltingref07_Found.l0 k1 l0 l1 l2 (wrap64 (x7_1 - 1))))) = some r := by rw [if_neg (show ¬ (false = true) by decide)] at H; first | exact H | (simp only [eq_self] at H ⊢; exact H) | (simp only [eq_self, if_true] at H ⊢; exact H)
        clear H
        have H := H1
        clear H1
        replace H := Option.bind_eq_some_iff.mp H
        obtain ⟨t217, A90, H⟩ := H
        replace H : (if t217 = true then (some (-1)) else (boltingref07_Found.l0 k1 l0 l1 l2 (wrap64 (x7_1 - 1)))) = some r := H
        have A9 := Aside0.mk A90
        clear A90
        by_cases c10 : t217 = true
        ·subst c10
         have H1 : (some (-1)) = some r := by rw [if_pos rfl] at H; exact H
         clear H
         have H := H1
         clear H1
         obtain rfl := Option.some.inj H
         have p214 : 0 ≤ (x7_1 : Int) := (by first | exact of_decide_eq_true (by first | (with_reducible assumption) | assumption) | assumption | omega)
         have q214 : x7_1 < (l0.length : Int) := (by first | exact of_decide_eq_true (by first | (with_reducible assumption) | assumption) | assumption | omega)
         obtain ⟨ad214, e214, hx214_0⟩ := Kd.at_string HR0.out x7_1 p214 q214
         cases e214
         replace p214 := eq_true p214
         replace q214 := eq_true q214
         go_wp2_with (first | ((with_reducible refine gate_callee (f := 57) rfl ?_); refine goesL_ (some 20) rfl rfl Tryz.func57 (by kernel_rfl) rfl #[.slice A1 l1.length c1, .string (rdOf ByteArray.empty l0 x7_1)] rfl (by (try simp only [List.map_toArray, List.map_cons, List.map_nil]); first | done | rfl | (simp only [List.length_drop, List.length_take]; rfl)) ?_; (with_reducible refine (boltingref02_Has.calls k1 _ _ l1 (rdOf ByteArray.empty l0 x7_1) false _ ?side1 ?side2 A7.out).mono ?_); (case side1 => repeat (first | exact HR1.out | (with_reducible refine Kd.C_alloc ?_ _) | (with_reducible refine Kd.C_drewN ?_ _) | (with_reducible refine Kd.C_drew ?_))); (case side2 => exact HC1.out); rintro e w' ⟨rfl, ⟨nd, rfl⟩⟩; refine ⟨_, rfl, ?_⟩; have p216 : 0 ≤ (x7_1 : Int) := (by first | exact of_decide_eq_true (by first | (with_reducible assumption) | assumption) | assumption | omega); have q216 : x7_1 < (l0.length : Int) := (by first | exact of_decide_eq_true (by first | (with_reducible assumption) | assumption) | assumption | omega); obtain ⟨ad216, e216, hx216_0⟩ := Kd.at_string HR0.out x7_1 p216 q216; obtain rfl : ad214 = ad216 := (by injection e216); replace p216 := eq_true p216; replace q216 := eq_true q216) | ((with_reducible refine gate_callee (f := 57) rfl ?_); refine goesL_ (some 27) rfl rfl Tryz.func57 (by kernel_rfl) rfl #[.slice A2 l2.length c2, .string (rdOf ByteArray.empty l0 x7_1)] rfl (by (try simp only [List.map_toArray, List.map_cons, List.map_nil]); first | done | rfl | (simp only [List.length_drop, List.length_take]; rfl)) ?_; (with_reducible refine (boltingref02_Has.calls k1 _ _ l2 (rdOf ByteArray.empty l0 x7_1) true _ ?side1 ?side2 A9.out).mono ?_); (case side1 => repeat (first | exact HR2.out | (with_reducible refine Kd.C_alloc ?_ _) | (with_reducible refine Kd.C_drewN ?_ _) | (with_reducible refine Kd.C_drew ?_))); (case side2 => exact HC2.out); rintro e w' ⟨rfl, ⟨nd, rfl⟩⟩; refine ⟨_, rfl, ?_⟩))
         go_ret
         exact ⟨by first | rfl | (simp; done) | (simp [*]; done) | (simp; generalize ByteArray.toList _ = l_; cases l_ <;> rfl), by repeat (first | exact Drawn0.refl _ | apply Drawn0.step)⟩
        ·replace c10 := Bool.eq_false_iff.mpr c10
         subst c10
         have H1 : (boltingref07_Found.l0 k1 l0 l1 l2 (wrap64 (x7_1 - 1))) = some r := by rw [if_neg (show ¬ (false = true) by decide)] at H; first | exact H | (simp only [eq_self] at H ⊢; exact H) | (simp only [eq_self, if_true] at H ⊢; exact H)
         clear H
         have H := H1
         clear H1
         have H' := Aside0.mk H
         clear H
         have p214 : 0 ≤ (x7_1 : Int) := (by first | exact of_decide_eq_true (by first | (with_reducible assumption) | assumption) | assumption | omega)
         have q214 : x7_1 < (l0.length : Int) := (by first | exact of_decide_eq_true (by first | (with_reducible assumption) | assumption) | assumption | omega)
         obtain ⟨ad214, e214, hx214_0⟩ := Kd.at_string HR0.out x7_1 p214 q214
         cases e214
         replace p214 := eq_true p214
         replace q214 := eq_true q214
         go_wp2_with (first | ((with_reducible refine gate_callee (f := 57) rfl ?_); refine goesL_ (some 20) rfl rfl Tryz.func57 (by kernel_rfl) rfl #[.slice A1 l1.length c1, .string (rdOf ByteArray.empty l0 x7_1)] rfl (by (try simp only [List.map_toArray, List.map_cons, List.map_nil]); first | done | rfl | (simp only [List.length_drop, List.length_take]; rfl)) ?_; (with_reducible refine (boltingref02_Has.calls k1 _ _ l1 (rdOf ByteArray.empty l0 x7_1) false _ ?side1 ?side2 A7.out).mono ?_); (case side1 => repeat (first | exact HR1.out | (with_reducible refine Kd.C_alloc ?_ _) | (with_reducible refine Kd.C_drewN ?_ _) | (with_reducible refine Kd.C_drew ?_))); (case side2 => exact HC1.out); rintro e w' ⟨rfl, ⟨nd, rfl⟩⟩; refine ⟨_, rfl, ?_⟩; have p216 : 0 ≤ (x7_1 : Int) := (by first | exact of_decide_eq_true (by first | (with_reducible assumption) | assumption) | assumption | omega); have q216 : x7_1 < (l0.length : Int) := (by first | exact of_decide_eq_true (by first | (with_reducible assumption) | assumption) | assumption | omega); obtain ⟨ad216, e216, hx216_0⟩ := Kd.at_string HR0.out x7_1 p216 q216; obtain rfl : ad214 = ad216 := (by injection e216); replace p216 := eq_true p216; replace q216 := eq_true q216) | ((with_reducible refine gate_callee (f := 57) rfl ?_); refine goesL_ (some 27) rfl rfl Tryz.func57 (by kernel_rfl) rfl #[.slice A2 l2.length c2, .string (rdOf ByteArray.empty l0 x7_1)] rfl (by (try simp only [List.map_toArray, List.map_cons, List.map_nil]); first | done | rfl | (simp only [List.length_drop, List.length_take]; rfl)) ?_; (with_reducible refine (boltingref02_Has.calls k1 _ _ l2 (rdOf ByteArray.empty l0 x7_1) false _ ?side1 ?side2 A9.out).mono ?_); (case side1 => repeat (first | exact HR2.out | (with_reducible refine Kd.C_alloc ?_ _) | (with_reducible refine Kd.C_drewN ?_ _) | (with_reducible refine Kd.C_drew ?_))); (case side2 => exact HC2.out); rintro e w' ⟨rfl, ⟨nd, rfl⟩⟩; refine ⟨_, rfl, ?_⟩))
         go_roundg k1
         case measure => have := HK1.out; omega
         case rel => exact ⟨(wrap64 (x7_1 - 1)), (by first | rfl | (simp; done) | (simp [*]; done) | (simp; generalize ByteArray.toList _ = l_; cases l_ <;> rfl)), H', ⟨by have := HK1.out; omega⟩, by repeat (first | exact Drawn0.refl _ | apply Drawn0.step)⟩
      ·rw [if_neg c6] at H
       exact absurd H (by simp)
     ·rw [if_neg c5] at H
      exact absurd H (by simp)
    ·rw [if_neg c4] at H
     have c4b0 : decide (0 ≤ x7_1) = false := decide_eq_false c4
     clear c4
     obtain rfl := Option.some.inj H
     go_wp2
     go_ret
     exact ⟨by first | rfl | (simp; done) | (simp [*]; done) | (simp; generalize ByteArray.toList _ = l_; cases l_ <;> rfl), by repeat (first | exact Drawn0.refl _ | apply Drawn0.step)⟩
end Go.Proofs.YtkcmghlhpbepcaaGreatDoorH.W7

/- Words and walks used below. -/
namespace Go.Proofs.YtkcmghlhpbepcaaGreatDoorH.W7
open Go.RowKit Go.Proofs.YtkcmghlhpbepcaaGreatDoorW.PrintWords Go.Proofs.YtkcmghlhpbepcaaGreatDoorW.PrintLast Go.Proofs.YtkcmghlhpbepcaaGreatDoorW.PrintMore
attribute [local go_sem] max2_int min2_int max_two min_two max_three min_three max_four min_four   -- for this text's walks alone
def boltingref07_closed.l0 : Nat → List ByteArray → List ByteArray → List ByteArray → Int → Option (List ByteArray)
 | 0, _, _, _, _ => none
 | k + 1, x0, x1, x2, x7 => if x7 ≥ 0 then (if 0 ≤ x7 then (if x7 ≤ (x0.length : Int) then ((some (x0.take (x7 : Int).toNat : List ByteArray)).bind fun y219 => ((boltingref07_Found.f k y219 x1 x2).bind fun t224 => (boltingref07_closed.l0 k y219 x1 x2 t224))) else (none)) else (none)) else ((some (([] : List ByteArray) : List ByteArray)).bind fun y225 => (if y225.length + x0.length < 8796093022208 then (some (y225 ++ x0)) else (none)))
def boltingref07_closed.f (k : Nat) (l0 : List ByteArray) (l1 : List ByteArray) (l2 : List ByteArray) : Option (List ByteArray) := (boltingref07_Found.f k l0 l1 l2).bind fun t218 => (boltingref07_closed.l0 k l0 l1 l2 t218)
set_option maxHeartbeats 8000000 in
set_option maxRecDepth 100000 in
theorem boltingref07_closed.calls (k : Nat) (P0_ : Nat → Prop) (A0 : Option Addr) (c0 : Nat) (l0 : List ByteArray) (A1 : Option Addr) (c1 : Nat) (l1 : List ByteArray) (A2 : Option Addr) (c2 : Nat) (l2 : List ByteArray) (r : List ByteArray) (w : World) (hs0 : Kd.V Kd.string 9 w w.heap.size (fun k_ => P0_ k_) (.slice A0 l0.length c0) l0) (hr1 : Kd.C Kd.string w A1 l1.length l1) (hc1 : l1.length ≤ c1) (hr2 : Kd.C Kd.string w A2 l2.length l2) (hc2 : l2.length ≤ c2) (h : boltingref07_closed.f k l0 l1 l2 = some r) :
 Calls Tryz.prog 106 #[.slice A0 l0.length c0, .slice A1 l1.length c1, .slice A2 l2.length c2] w fun e w' => ∃ v0_ : Value, e = .returned (v0_) ∧ Kd.R Kd.string 9 w' w.heap.size (fun k_ => (w.heap.size ≤ k_)) v0_ r ∧ Below w.heap.size w w' := by
 have HO0 := Aside0.mk (show Kd.V Kd.string 9 w w.heap.size (fun k_ => (P0_ k_ ∨ w.heap.size ≤ k_)) (.slice A0 l0.length c0) l0 from Kd.V_mono hs0 (fun k_ hk => .inl hk))
 have HR1 := Aside0.mk hr1
 have HC1 := Aside0.mk hc1
 clear hr1 hc1
 have HR2 := Aside0.mk hr2
 have HC2 := Aside0.mk hc2
 clear hr2 hc2
 have HB := Aside0.mk (Below.refl w.heap.size w)
 have H : ((boltingref07_Found.f k l0 l1 l2).bind fun t218 => (boltingref07_closed.l0 k l0 l1 l2 t218)) = some r := h
 clear h
 replace H := Option.bind_eq_some_iff.mp H
 obtain ⟨t218, A40, H⟩ := H
 replace H : (boltingref07_closed.l0 k l0 l1 l2 t218) = some r := H
 have A4 := Aside0.mk A40
 clear A40
 have H' := Aside0.mk H
 clear H
 go_enter Tryz.func106, Tryz.ntmps106
 go_wp2_with (first | ((with_reducible refine gate_callee (f := 111) rfl ?_); refine goesL_ (some 11) rfl rfl Tryz.func111 (by kernel_rfl) rfl #[.slice A0 l0.length c0, .slice A1 l1.length c1, .slice A2 l2.length c2] rfl (by (try simp only [List.map_toArray, List.map_cons, List.map_nil]); first | done | rfl | (simp only [List.length_drop, List.length_take]; rfl)) ?_; (with_reducible refine (boltingref07_Found.calls k _ _ l0 _ _ l1 _ _ l2 t218 _ ?side1 ?side2 ?side3 ?side4 ?side5 ?side6 A4.out).mono ?_); (case side1 => exact cz (Kd.V_reads' HO0.out).2.2); (case side2 => exact (Kd.V_reads' HO0.out).2.1); (case side3 => repeat (first | exact HR1.out | (with_reducible refine Kd.C_alloc ?_ _) | (with_reducible refine Kd.C_drewN ?_ _) | (with_reducible refine Kd.C_drew ?_))); (case side4 => exact HC1.out); (case side5 => repeat (first | exact HR2.out | (with_reducible refine Kd.C_alloc ?_ _) | (with_reducible refine Kd.C_drewN ?_ _) | (with_reducible refine Kd.C_drew ?_))); (case side6 => exact HC2.out); rintro e w' ⟨rfl, ⟨nd, rfl⟩⟩; refine ⟨_, rfl, ?_⟩))
 go_loopg [0, 7] k (fun kq v0 v7 w' => ∃ (x0_1 : List ByteArray) (x7_1 : Int), v7 = .int .i64 x7_1 ∧ Aside0 (boltingref07_closed.l0 kq x0_1 l1 l2 x7_1 = some r) ∧ Aside0 (kq ≤ k) ∧ Aside0 (Kd.V Kd.string 9 w' w.heap.size (fun k_ => (P0_ k_ ∨ w.heap.size ≤ k_)) v0 x0_1) ∧ Aside0 (Below w.heap.size w w'))
 case atStart => exact ⟨(l0), (t218), (by first | rfl | (simp; done) | (simp [*]; done) | (simp; generalize ByteArray.toList _ = l_; cases l_ <;> rfl)), H', ⟨Nat.le_refl _⟩, ⟨by (with_reducible repeat (first | apply Kd.V_alloc | apply Kd.V_drewN | apply Kd.V_drew)); exact HO0.out⟩, ⟨bz⟩⟩
 case round =>
  clear H'
  try clear c1
  try clear c2
  try clear p2
  obtain ⟨x0_1, x7_1, rfl, HA, HK1, HO_0, HB⟩ := hrel
  cases gk with
  | zero => exact absurd HA.out (by simp [boltingref07_closed.l0])
  | succ k1 =>
    have H := HA.out
    clear HA
    simp only [boltingref07_closed.l0] at H
    by_cases c5 : x7_1 ≥ 0
    ·rw [if_pos c5] at H
     have c5b0 : decide (0 ≤ x7_1) = true := decide_eq_true c5
     clear c5
     by_cases c6 : 0 ≤ x7_1
     ·rw [if_pos c6] at H
      have c6b0 := eq_true c6
      have c6b1 : decide (0 ≤ x7_1) = true := decide_eq_true c6
      clear c6
      by_cases c7 : x7_1 ≤ (x0_1.length : Int)
      ·rw [if_pos c7] at H
       have c7b0 := eq_true c7
       have c7b1 : decide (x7_1 ≤ (x0_1.length : Int)) = true := decide_eq_true c7
       clear c7
       obtain ⟨y219, hy219⟩ : ∃ y_ : List ByteArray, y_ = (x0_1.take (x7_1 : Int).toNat) := ⟨_, rfl⟩
       replace H : ((boltingref07_Found.f k1 y219 l1 l2).bind fun t224 => (boltingref07_closed.l0 k1 y219 l1 l2 t224)) = some r := by first | (rw [hy219]; with_reducible exact H) | (have H2_ := (Option.bind_some _ _).symm.trans H; rw [hy219]; with_reducible exact H2_) | (have H2_ := (Option.bind_some _ _).symm.trans H; with_reducible exact H2_) | with_reducible exact H | (rw [hy219]; exact H) | exact H
       have Ny219 := Aside0.mk hy219
       clear hy219
       replace H := Option.bind_eq_some_iff.mp H
       obtain ⟨t224, A80, H⟩ := H
       replace H : (boltingref07_closed.l0 k1 y219 l1 l2 t224) = some r := H
       have A8 := Aside0.mk A80
       clear A80
       have H' := Aside0.mk H
       clear H
       obtain ⟨Ao10, co10, eo10⟩ := Kd.V_slice HO_0.out
       subst eo10
       have q9 : (x7_1 : Int) ≤ ((x0_1.length : Int) : Int) := (by first | exact of_decide_eq_true (by first | (with_reducible assumption) | assumption) | assumption | omega)
       obtain ⟨i09, hi09, _, hsz9, _⟩ := info_parts info9
       have hroom9 : x0_1.length ≤ co10 := (Kd.V_reads' HO_0.out).2.1
       have hC9 : Kd.F Kd.string _ _ Ao10 x0_1.length x0_1 := (Kd.V_at (base := w.heap.size) HO_0.out).2.2
       have hcut9 := cut_to (P := Tryz.prog) 41 9 .i64 Tryz.underlying41 hi09 Ao10 x0_1.length co10 x7_1 ((by first | exact of_decide_eq_true (by first | (with_reducible assumption) | assumption) | assumption | omega)) q9 hroom9
       have hr9 := Kd.F_take (m := (x7_1 : Int).toNat) hC9 (by omega)
       have hy9 : y219.length = (x7_1 : Int).toNat := (by rw [Ny219.out, List.length_take]; omega)
       rw [← Ny219.out] at hr9
       rw [← hy9] at hcut9
       have HO223 := Aside0.mk (show Kd.V Kd.string 9 _ w.heap.size _ (.slice Ao10 y219.length co10) y219 from Kd.V_mk (by omega) hr9)
       have HC223 := Aside0.mk (show y219.length ≤ co10 from by omega)
       clear hr9 hC9 hroom9 hi09 hsz9
       have KY9 := Aside0.mk hy9
       clear hy9
       replace q9 := eq_true q9
       go_wp2_with (first | ((with_reducible refine gate_callee (f := 111) rfl ?_); refine goesL_ (some 20) rfl rfl Tryz.func111 (by kernel_rfl) rfl #[.slice Ao10 y219.length co10, .slice A1 l1.length c1, .slice A2 l2.length c2] rfl (by (try simp only [List.map_toArray, List.map_cons, List.map_nil]); first | done | rfl | (simp only [List.length_drop, List.length_take]; rfl)) ?_; (with_reducible refine (boltingref07_Found.calls k1 _ _ y219 _ _ l1 _ _ l2 t224 _ ?side1 ?side2 ?side3 ?side4 ?side5 ?side6 A8.out).mono ?_); (case side1 => exact cz (Kd.V_reads' HO223.out).2.2); (case side2 => exact (Kd.V_reads' HO223.out).2.1); (case side3 => exact cz (Kd.C_below HR1.out HB.out)); (case side4 => exact HC1.out); (case side5 => exact cz (Kd.C_below HR2.out HB.out)); (case side6 => exact HC2.out); rintro e w' ⟨rfl, ⟨nd, rfl⟩⟩; refine ⟨_, rfl, ?_⟩))
       go_roundg k1
       case measure => have := HK1.out; omega
       case rel => exact ⟨(y219), (t224), (by first | rfl | (simp; done) | (simp [*]; done) | (simp; generalize ByteArray.toList _ = l_; cases l_ <;> rfl)), H', ⟨by have := HK1.out; omega⟩, ⟨by (with_reducible repeat (first | apply Kd.V_alloc | apply Kd.V_drewN | apply Kd.V_drew)); exact HO223.out⟩, ⟨bz⟩⟩
      ·rw [if_neg c7] at H
       exact absurd H (by simp)
     ·rw [if_neg c6] at H
      exact absurd H (by simp)
    ·rw [if_neg c5] at H
     have c5b0 : decide (0 ≤ x7_1) = false := decide_eq_false c5
     clear c5
     obtain ⟨y225, hy225⟩ : ∃ y_ : List ByteArray, y_ = (([] : List ByteArray)) := ⟨_, rfl⟩
     replace H : (if y225.length + x0_1.length < 8796093022208 then (some (y225 ++ x0_1)) else (none)) = some r := by first | (rw [hy225]; with_reducible exact H) | (have H2_ := (Option.bind_some _ _).symm.trans H; rw [hy225]; with_reducible exact H2_) | (have H2_ := (Option.bind_some _ _).symm.trans H; with_reducible exact H2_) | with_reducible exact H | (rw [hy225]; exact H) | exact H
     have Ny225 := Aside0.mk hy225
     clear hy225
     by_cases c11 : y225.length + x0_1.length < 8796093022208
     ·rw [if_pos c11] at H
      have LMc11 := Aside0.mk c11
      clear c11
      obtain ⟨y228, hy228⟩ : ∃ y_ : List ByteArray, y_ = (y225 ++ x0_1) := ⟨_, rfl⟩
      replace H : (some y228) = some r := by first | (rw [hy228]; with_reducible exact H) | (have H2_ := (Option.bind_some _ _).symm.trans H; rw [hy228]; with_reducible exact H2_) | (have H2_ := (Option.bind_some _ _).symm.trans H; with_reducible exact H2_) | with_reducible exact H | (rw [hy228]; exact H) | exact H
      have Ny228 := Aside0.mk hy228
      clear hy228
      obtain rfl := Option.some.inj H
      go_wp2_with (first | ((with_reducible refine gate_dst (N := 21) rfl ?_); refine Kd.R_lit Kd.string _ 9 ?hg (N := 21) ?hd (xs := ([] : List ByteArray)) (inner := []) (ok := fun _ => True) (okp := fun _ => True) ?hr ?hp (fun _ hk => hk) trivial (Below.refl _ _) (Nat.le_refl _) (by simp) ?_; (case hd => rfl); (case hg => rfl); (case hr => first | (go_simp; done) | (go_simp; rfl)); (case hp => exact (Reps.none _ _)); intro v226 w12 ho13 hb hg_ hnew_; clear hg_ hnew_; (first | rw [← Ny225.out] at ho13 | (simp only [Int.reduceToNat] at ho13; rw [← Ny225.out] at ho13)); have n0_ := Aside0.mk (Kd.V_elder' (by (with_reducible repeat (first | apply Kd.V_alloc | apply Kd.V_drewN | apply Kd.V_drew)); exact HO_0.out) (Kd.R_base ho13) hb); have n1_ := Aside0.mk (Kd.R_lower (Kd.R_newM (M := fun k_ => (w.heap.size ≤ k_)) ho13 (below_size bz) (fun k_ h_ => h_)) (below_size bz)); have n2_ := Aside0.mk (below_step bz hb); clear HO_0; clear HB; have HO_0 := n0_; have HO227 := n1_; have HB := n2_; clear n0_ n1_ n2_; clear hb ho13; obtain ⟨Ao15, co15, eo15⟩ := Kd.V_slice HO_0.out; subst eo15) | ((with_reducible refine gate_builtin (b := .append) (xs := #[.tmp 21, .tmp 22]) rfl ?_); at_builtin; refine Kd.R_append_rows Kd.string (w0 := w) w.heap.size rfl (.tmp 21) (.tmp 22) 41 9 (.string ⟨#[]⟩) 16 rfl Tryz.underlying41 info9 rfl (by decide) (by omega) v226 y225 x0_1 _ _ _ (fun k_ => (w.heap.size ≤ k_)) (fun _ => False) rfl rfl ?aO ?aR (fun _ _ h => h) (fun _ h => h.elim) ?aF ?aB ?aS ?aL ?_; (case aR => exact cz (Kd.V_reads' HO_0.out).2.2); (case aB => exact bz); (case aF => exact (fun k_ hk => (Nat.le_trans (below_size bz) hk))); (case aO => exact (by (with_reducible repeat (first | apply Kd.R_alloc | apply Kd.R_drewN | apply Kd.R_drew)); exact Kd.R_mono HO227.out (fun _ hk => hk.1))); (case aS => exact (below_size bz)); (case aL => have := LMc11.out; omega); intro v229 w14 ho hb hg hat; rw [← Ny228.out] at ho; have n0_ := Aside0.mk (Kd.V_afterv (ok := (fun k_ => (P0_ k_ ∨ w.heap.size ≤ k_))) (by (with_reducible repeat (first | apply Kd.V_alloc | apply Kd.V_drewN | apply Kd.V_drew)); exact HO_0.out) hg hat); have n1_ := Aside0.mk (hb); have n2_ := Aside0.mk (ho); clear HO_0; clear HB; clear HO227; have HO_0 := n0_; have HB := n1_; have HO230 := n2_; clear n0_ n1_ n2_; clear ho hb hg hat))
      go_ret
      exact ⟨_, by first | rfl | (simp [errW_none, errW_some] <;> rfl) | (simp [*, errW_none, errW_some] <;> rfl), by (with_reducible repeat (first | apply Kd.R_alloc | apply Kd.R_drewN | apply Kd.R_drew)); exact HO230.out, bz⟩
     ·rw [if_neg c11] at H
      exact absurd H (by simp)
end Go.Proofs.YtkcmghlhpbepcaaGreatDoorH.W7
