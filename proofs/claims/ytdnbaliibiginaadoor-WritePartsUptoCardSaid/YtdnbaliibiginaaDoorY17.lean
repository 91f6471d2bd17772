/- Lemmas and walks, part 17: QPW8x33, QPW8x23. -/
import Derived.Test.YtdnbaliibiginaaDoorY4
import Derived.Test.YtdnbaliibiginaaDoorY13
import Derived.Test.YtdnbaliibiginaaDoorY14
import Derived.Test.YtdnbaliibiginaaDoorY16
set_option linter.unusedVariables false
set_option linter.unusedSimpArgs false

/- Words and walks used below. -/
namespace Go.Proofs.YtdnbaliibiginaaDoorH.W8
open Go.RowKit Go.Proofs.YtdnbaliibiginaaDoorW.PrintWords Go.Proofs.YtdnbaliibiginaaDoorW.PrintLast Go.Proofs.YtdnbaliibiginaaDoorW.PrintMore
attribute [local go_sem] max2_int min2_int max_two min_two max_three min_three max_four min_four   -- for this text's walks alone
def build_Nested.f (k : Nat) (a0 : ByteArray) (l1 : List ByteArray) : Option (Bool) := (build_paragraph.f a0).bind fun t242 => (if t242 = true then ((names_Walls.f k (⟨#[112]⟩ : ByteArray)).bind fun t246 => ((build_found.f l1 (([(⟨#[112]⟩ : ByteArray)] : List ByteArray)) t246).bind fun t249 => (if t249 ≥ 0 then (some false) else ((names_Closes.f k a0).bind fun t250 => ((names_Walls.f k a0).bind fun t253 => ((build_found.f l1 t250 t253).bind fun t256 => (some (decide (t256 < 0))))))))) else ((names_Closes.f k a0).bind fun t257 => ((names_Walls.f k a0).bind fun t260 => ((build_found.f l1 t257 t260).bind fun t263 => (some (decide (t263 < 0)))))))
set_option maxHeartbeats 8000000 in
set_option maxRecDepth 100000 in
theorem build_Nested.calls (k : Nat) (a0 : ByteArray) (A1 : Option Addr) (c1 : Nat) (l1 : List ByteArray) (r : Bool) (w : World) (hr1 : Kd.C Kd.string w A1 l1.length l1) (hc1 : l1.length ≤ c1) (h : build_Nested.f k a0 l1 = some r) :
  Calls Tryd.prog 65 #[.string a0, .slice A1 l1.length c1] w fun e w' => e = .returned (.bool r) ∧ Below w.heap.size w w' := by
 have HR1 := Aside0.mk hr1
 have HC1 := Aside0.mk hc1
 clear hr1 hc1
 have HB := Aside0.mk (Below.refl w.heap.size w)
 have H : ((build_paragraph.f a0).bind fun t242 => (if t242 = true then ((names_Walls.f k (⟨#[112]⟩ : ByteArray)).bind fun t246 => ((build_found.f l1 (([(⟨#[112]⟩ : ByteArray)] : List ByteArray)) t246).bind fun t249 => (if t249 ≥ 0 then (some false) else ((names_Closes.f k a0).bind fun t250 => ((names_Walls.f k a0).bind fun t253 => ((build_found.f l1 t250 t253).bind fun t256 => (some (decide (t256 < 0))))))))) else ((names_Closes.f k a0).bind fun t257 => ((names_Walls.f k a0).bind fun t260 => ((build_found.f l1 t257 t260).bind fun t263 => (some (decide (t263 < 0)))))))) = some r := h
 clear h
 replace H := Option.bind_eq_some_iff.mp H
 obtain ⟨t242, A30, H⟩ := H
 replace H : (if t242 = true then ((names_Walls.f k (⟨#[112]⟩ : ByteArray)).bind fun t246 => ((build_found.f l1 (([(⟨#[112]⟩ : ByteArray)] : List ByteArray)) t246).bind fun t249 => (if t249 ≥ 0 then (some false) else ((names_Closes.f k a0).bind fun t250 => ((names_Walls.f k a0).bind fun t253 => ((build_found.f l1 t250 t253).bind fun t256 => (some (decide (t256 < 0))))))))) else ((names_Closes.f k a0).bind fun t257 => ((names_Walls.f k a0).bind fun t260 => ((build_found.f l1 t257 t260).bind fun t263 => (some (decide (t263 < 0))))))) = some r := H
 have A3 := Aside0.mk A30
 clear A30
 by_cases c4 : t242 = true
 ·subst c4
  have H1 : ((names_Walls.f k (⟨#[112]⟩ : ByteArray)).bind fun t246 => ((build_found.f l1 (([(⟨#[112]⟩ : ByteArray)] : List ByteArray)) t246).bind fun t249 => (if t249 ≥ 0 then (some false) else ((names_Closes.f k a0).bind fun t250 => ((names_Walls.f k a0).bind fun t253 => ((build_found.f l1 t250 t253).bind fun t256 => (some (decide (t256 < 0))))))))) = some r := by rw [if_pos rfl] at H; exact H
  clear H
  have H := H1
  clear H1
  obtain ⟨y243, hy243⟩ : ∃ y_ : List ByteArray, y_ = (([(⟨#[112]⟩ : ByteArray)] : List ByteArray)) := ⟨_, rfl⟩
  replace H : ((names_Walls.f k (⟨#[112]⟩ : ByteArray)).bind fun t246 => ((build_found.f l1 y243 t246).bind fun t249 => (if t249 ≥ 0 then (some false) else ((names_Closes.f k a0).bind fun t250 => ((names_Walls.f k a0).bind fun t253 => ((build_found.f l1 t250 t253).bind fun t256 => (some (decide (t256 < 0))))))))) = some r := by first | (rw [hy243]; with_reducible exact H) | (have H2_ := (Option.bind_some _ _).symm.trans H; rw [hy243]; with_reducible exact H2_) | (have H2_ := (Option.bind_some _ _).symm.trans H; with_reducible exact H2_) | with_reducible exact H | (rw [hy243]; exact H) | exact H
  have Ny243 := Aside0.mk hy243
  clear hy243
  replace H := Option.bind_eq_some_iff.mp H
  obtain ⟨t246, A50, H⟩ := H
  replace H : ((build_found.f l1 y243 t246).bind fun t249 => (if t249 ≥ 0 then (some false) else ((names_Closes.f k a0).bind fun t250 => ((names_Walls.f k a0).bind fun t253 => ((build_found.f l1 t250 t253).bind fun t256 => (some (decide (t256 < 0)))))))) = some r := H
  have A5 := Aside0.mk A50
  clear A50
  replace H := Option.bind_eq_some_iff.mp H
  obtain ⟨t249, A60, H⟩ := H
  replace H : (if t249 ≥ 0 then (some false) else ((names_Closes.f k a0).bind fun t250 => ((names_Walls.f k a0).bind fun t253 => ((build_found.f l1 t250 t253).bind fun t256 => (some (decide (t256 < 0))))))) = some r := H
  have A6 := Aside0.mk A60
  clear A60
  by_cases c7 : t249 ≥ 0
  ·rw [if_pos c7] at H
   have c7b0 : decide (0 ≤ t249) = true := decide_eq_true c7
   clear c7
   obtain rfl := Option.some.inj H
   go_enter Tryd.func65, Tryd.ntmps65
   go_wp2_with (first | ((with_reducible refine gate_callee (f := 86) rfl ?_); refine goesL_ (some 7) rfl rfl Tryd.func86 (by kernel_rfl) rfl #[.string a0] rfl (by (try simp only [List.map_toArray, List.map_cons, List.map_nil]); first | done | rfl | (simp only [List.length_drop, List.length_take]; rfl)) ?_; (with_reducible refine (build_paragraph.calls a0 true _ A3.out).mono ?_); rintro e w' ⟨rfl, ⟨nd, rfl⟩⟩; refine ⟨_, rfl, ?_⟩) | ((with_reducible refine gate_dst (N := 10) rfl ?_); (try (refine gate_guard (by rfl) ?_; dsimp only)); refine Kd.R_lit Kd.string _ 9 ?hg (N := 10) ?hd (xs := ([(⟨#[112]⟩ : ByteArray)] : List ByteArray)) (inner := [.string (⟨#[112]⟩ : ByteArray)]) (ok := fun _ => True) (okp := fun _ => True) ?hr ?hp (fun _ hk => hk) trivial (Below.refl _ _) (Nat.le_refl _) (by simp) ?_; (case hd => rfl); (case hg => rfl); (case hr => first | (go_simp; done) | (go_simp; rfl)); (case hp => exact (Reps.one (show Kd.M Kd.string _ _ _ (⟨#[112]⟩ : ByteArray) [.string (⟨#[112]⟩ : ByteArray)] from rfl) (Reps.none _ _))); intro v244 w8 ho9 hb hg_ hnew_; clear hg_ hnew_; (first | rw [← Ny243.out] at ho9 | (simp only [Int.reduceToNat] at ho9; rw [← Ny243.out] at ho9)); have n0_ := Aside0.mk (Kd.R_lower ho9 (below_size bz)); have n1_ := Aside0.mk (below_step bz hb); clear HB; have HO245 := n0_; have HB := n1_; clear n0_ n1_; clear hb ho9) | (go_at_call 88; (fail_if_success (have zz_ := Ao12)); (with_reducible refine (names_Walls.calls k (⟨#[112]⟩ : ByteArray) t246 _ A5.out).mono ?_); rintro e w10 ⟨v247, rfl, ho0, hb⟩; have n0_ := Aside0.mk (Kd.R_elder' (rz HO245.out) (Kd.R_base ho0) hb); have n1_ := Aside0.mk (Kd.R_lower (Kd.R_new' ho0 (Kd.R_lt (rz HO245.out))) (below_size bz)); have n2_ := Aside0.mk (below_step bz hb); clear HO245; clear HB; have HO245 := n0_; have HO248 := n1_; have HB := n2_; clear n0_ n1_ n2_; (try clear hb); (try clear hb2); (try clear hk); (try clear hi); (try clear ho0); obtain ⟨Ao11, co11, eo11⟩ := Kd.R_slice HO245.out; subst eo11; obtain ⟨Ao12, co12, eo12⟩ := Kd.R_slice HO248.out; subst eo12) | (go_at_call 87; (with_reducible refine (build_found.calls _ _ l1 _ _ y243 _ _ t246 t249 _ ?side1 ?side2 ?side3 ?side4 ?side5 ?side6 A6.out).mono ?_); (case side1 => exact cz (Kd.C_below HR1.out HB.out)); (case side2 => exact HC1.out); (case side3 => exact cz (Kd.R_reads' HO245.out).2.2); (case side4 => exact (Kd.R_reads' HO245.out).2.1); (case side5 => exact cz (Kd.R_reads' HO248.out).2.2); (case side6 => exact (Kd.R_reads' HO248.out).2.1); rintro e w13 ⟨rfl, hb⟩; have n0_ := Aside0.mk (Kd.R_below (rz HO245.out) hb); have n1_ := Aside0.mk (Kd.R_below (rz HO248.out) hb); have n2_ := Aside0.mk (below_step bz hb); clear HO245; clear HO248; clear HB; have HO245 := n0_; have HO248 := n1_; have HB := n2_; clear n0_ n1_ n2_; (try clear hb); (try clear hb2); (try clear hk); (try clear hi)))
   go_ret
   exact ⟨by first | rfl | (simp [errW_none, errW_some] <;> rfl) | (simp [*, errW_none, errW_some] <;> rfl), bz⟩
  ·rw [if_neg c7] at H
   have c7b0 : decide (0 ≤ t249) = false := decide_eq_false c7
   clear c7
   replace H := Option.bind_eq_some_iff.mp H
   obtain ⟨t250, A140, H⟩ := H
   replace H : ((names_Walls.f k a0).bind fun t253 => ((build_found.f l1 t250 t253).bind fun t256 => (some (decide (t256 < 0))))) = some r := H
   have A14 := Aside0.mk A140
   clear A140
   replace H := Option.bind_eq_some_iff.mp H
   obtain ⟨t253, A150, H⟩ := H
   replace H : ((build_found.f l1 t250 t253).bind fun t256 => (some (decide (t256 < 0)))) = some r := H
   have A15 := Aside0.mk A150
   clear A150
   replace H := Option.bind_eq_some_iff.mp H
   obtain ⟨t256, A160, H⟩ := H
   replace H : (some (decide (t256 < 0))) = some r := H
   have A16 := Aside0.mk A160
   clear A160
   obtain rfl := Option.some.inj H
   go_enter Tryd.func65, Tryd.ntmps65
   go_wp2_with (first | ((with_reducible refine gate_callee (f := 86) rfl ?_); refine goesL_ (some 7) rfl rfl Tryd.func86 (by kernel_rfl) rfl #[.string a0] rfl (by (try simp only [List.map_toArray, List.map_cons, List.map_nil]); first | done | rfl | (simp only [List.length_drop, List.length_take]; rfl)) ?_; (with_reducible refine (build_paragraph.calls a0 true _ A3.out).mono ?_); rintro e w' ⟨rfl, ⟨nd, rfl⟩⟩; refine ⟨_, rfl, ?_⟩) | ((with_reducible refine gate_dst (N := 10) rfl ?_); (try (refine gate_guard (by rfl) ?_; dsimp only)); refine Kd.R_lit Kd.string _ 9 ?hg (N := 10) ?hd (xs := ([(⟨#[112]⟩ : ByteArray)] : List ByteArray)) (inner := [.string (⟨#[112]⟩ : ByteArray)]) (ok := fun _ => True) (okp := fun _ => True) ?hr ?hp (fun _ hk => hk) trivial (Below.refl _ _) (Nat.le_refl _) (by simp) ?_; (case hd => rfl); (case hg => rfl); (case hr => first | (go_simp; done) | (go_simp; rfl)); (case hp => exact (Reps.one (show Kd.M Kd.string _ _ _ (⟨#[112]⟩ : ByteArray) [.string (⟨#[112]⟩ : ByteArray)] from rfl) (Reps.none _ _))); intro v244 w17 ho18 hb hg_ hnew_; clear hg_ hnew_; (first | rw [← Ny243.out] at ho18 | (simp only [Int.reduceToNat] at ho18; rw [← Ny243.out] at ho18)); have n0_ := Aside0.mk (Kd.R_lower ho18 (below_size bz)); have n1_ := Aside0.mk (below_step bz hb); clear HB; have HO245 := n0_; have HB := n1_; clear n0_ n1_; clear hb ho18) | (go_at_call 88; (fail_if_success (have zz_ := Ao21)); (with_reducible refine (names_Walls.calls k (⟨#[112]⟩ : ByteArray) t246 _ A5.out).mono ?_); rintro e w19 ⟨v247, rfl, ho0, hb⟩; have n0_ := Aside0.mk (Kd.R_elder' (rz HO245.out) (Kd.R_base ho0) hb); have n1_ := Aside0.mk (Kd.R_lower (Kd.R_new' ho0 (Kd.R_lt (rz HO245.out))) (below_size bz)); have n2_ := Aside0.mk (below_step bz hb); clear HO245; clear HB; have HO245 := n0_; have HO248 := n1_; have HB := n2_; clear n0_ n1_ n2_; (try clear hb); (try clear hb2); (try clear hk); (try clear hi); (try clear ho0); obtain ⟨Ao20, co20, eo20⟩ := Kd.R_slice HO245.out; subst eo20; obtain ⟨Ao21, co21, eo21⟩ := Kd.R_slice HO248.out; subst eo21) | (go_at_call 87; (with_reducible refine (build_found.calls _ _ l1 _ _ y243 _ _ t246 t249 _ ?side1 ?side2 ?side3 ?side4 ?side5 ?side6 A6.out).mono ?_); (case side1 => exact cz (Kd.C_below HR1.out HB.out)); (case side2 => exact HC1.out); (case side3 => exact cz (Kd.R_reads' HO245.out).2.2); (case side4 => exact (Kd.R_reads' HO245.out).2.1); (case side5 => exact cz (Kd.R_reads' HO248.out).2.2); (case side6 => exact (Kd.R_reads' HO248.out).2.1); rintro e w22 ⟨rfl, hb⟩; have n0_ := Aside0.mk (Kd.R_below (rz HO245.out) hb); have n1_ := Aside0.mk (Kd.R_below (rz HO248.out) hb); have n2_ := Aside0.mk (below_step bz hb); clear HO245; clear HO248; clear HB; have HO245 := n0_; have HO248 := n1_; have HB := n2_; clear n0_ n1_ n2_; (try clear hb); (try clear hb2); (try clear hk); (try clear hi)) | (go_at_call 89; (with_reducible refine (names_Closes.calls k a0 t250 _ A14.out).mono ?_); rintro e w23 ⟨v251, rfl, ho0, hb⟩; have n0_ := Aside0.mk (Kd.R_elder' (rz HO245.out) (Kd.R_base ho0) hb); have n1_ := Aside0.mk (Kd.R_elder' (rz HO248.out) (Kd.R_base ho0) hb); have n2_ := Aside0.mk (Kd.R_lower (Kd.R_new' (Kd.R_new' ho0 (Kd.R_lt (rz HO245.out))) (Kd.R_lt (rz HO248.out))) (below_size bz)); have n3_ := Aside0.mk (below_step bz hb); clear HO245; clear HO248; clear HB; have HO245 := n0_; have HO248 := n1_; have HO252 := n2_; have HB := n3_; clear n0_ n1_ n2_ n3_; (try clear hb); (try clear hb2); (try clear hk); (try clear hi); (try clear ho0)) | (go_at_call 88; (fail_if_success (have zz_ := Ao26)); (with_reducible refine (names_Walls.calls k a0 t253 _ A15.out).mono ?_); rintro e w24 ⟨v254, rfl, ho0, hb⟩; have n0_ := Aside0.mk (Kd.R_elder' (rz HO245.out) (Kd.R_base ho0) hb); have n1_ := Aside0.mk (Kd.R_elder' (rz HO248.out) (Kd.R_base ho0) hb); have n2_ := Aside0.mk (Kd.R_elder' (rz HO252.out) (Kd.R_base ho0) hb); have n3_ := Aside0.mk (Kd.R_lower (Kd.R_new' (Kd.R_new' (Kd.R_new' ho0 (Kd.R_lt (rz HO245.out))) (Kd.R_lt (rz HO248.out))) (Kd.R_lt (rz HO252.out))) (below_size bz)); have n4_ := Aside0.mk (below_step bz hb); clear HO245; clear HO248; clear HO252; clear HB; have HO245 := n0_; have HO248 := n1_; have HO252 := n2_; have HO255 := n3_; have HB := n4_; clear n0_ n1_ n2_ n3_ n4_; (try clear hb); (try clear hb2); (try clear hk); (try clear hi); (try clear ho0); obtain ⟨Ao25, co25, eo25⟩ := Kd.R_slice HO252.out; subst eo25; obtain ⟨Ao26, co26, eo26⟩ := Kd.R_slice HO255.out; subst eo26) | (go_at_call 87; (with_reducible refine (build_found.calls _ _ l1 _ _ t250 _ _ t253 t256 _ ?side1 ?side2 ?side3 ?side4 ?side5 ?side6 A16.out).mono ?_); (case side1 => exact cz (Kd.C_below HR1.out HB.out)); (case side2 => exact HC1.out); (case side3 => exact cz (Kd.R_reads' HO252.out).2.2); (case side4 => exact (Kd.R_reads' HO252.out).2.1); (case side5 => exact cz (Kd.R_reads' HO255.out).2.2); (case side6 => exact (Kd.R_reads' HO255.out).2.1); rintro e w27 ⟨rfl, hb⟩; have n0_ := Aside0.mk (Kd.R_below (rz HO245.out) hb); have n1_ := Aside0.mk (Kd.R_below (rz HO248.out) hb); have n2_ := Aside0.mk (Kd.R_below (rz HO252.out) hb); have n3_ := Aside0.mk (Kd.R_below (rz HO255.out) hb); have n4_ := Aside0.mk (below_step bz hb); clear HO245; clear HO248; clear HO252; clear HO255; clear HB; have HO245 := n0_; have HO248 := n1_; have HO252 := n2_; have HO255 := n3_; have HB := n4_; clear n0_ n1_ n2_ n3_ n4_; (try clear hb); (try clear hb2); (try clear hk); (try clear hi)))
   go_ret
   exact ⟨by first | rfl | (simp [errW_none, errW_some] <;> rfl) | (simp [*, errW_none, errW_some] <;> rfl), bz⟩
 ·replace c4 := Bool.eq_false_iff.mpr c4
  subst c4
  have H1 : ((names_Closes.f k a0).bind fun t257 => ((names_Walls.f k a0).bind fun t260 => ((build_found.f l1 t257 t260).bind fun t263 => (some (decide (t263 < 0)))))) = some r := by rw [if_neg (show ¬ (false = true) by decide)] at H; first | exact H | (simp only [eq_self] at H ⊢; exact H) | (simp only [eq_self, if_true] at H ⊢; exact H)
  clear H
  have H := H1
  clear H1
  replace H := Option.bind_eq_some_iff.mp H
  obtain ⟨t257, A280, H⟩ := H
  replace H : ((names_Walls.f k a0).bind fun t260 => ((build_found.f l1 t257 t260).bind fun t263 => (some (decide (t263 < 0))))) = some r := H
  have A28 := Aside0.mk A280
  clear A280
  replace H := Option.bind_eq_some_iff.mp H
  obtain ⟨t260, A290, H⟩ := H
  replace H : ((build_found.f l1 t257 t260).bind fun t263 => (some (decide (t263 < 0)))) = some r := H
  have A29 := Aside0.mk A290
  clear A290
  replace H := Option.bind_eq_some_iff.mp H
  obtain ⟨t263, A300, H⟩ := H
  replace H : (some (decide (t263 < 0))) = some r := H
  have A30 := Aside0.mk A300
  clear A300
  obtain rfl := Option.some.inj H
  go_enter Tryd.func65, Tryd.ntmps65
  go_wp2_with (first | ((with_reducible refine gate_callee (f := 86) rfl ?_); refine goesL_ (some 7) rfl rfl Tryd.func86 (by kernel_rfl) rfl #[.string a0] rfl (by (try simp only [List.map_toArray, List.map_cons, List.map_nil]); first | done | rfl | (simp only [List.length_drop, List.length_take]; rfl)) ?_; (with_reducible refine (build_paragraph.calls a0 false _ A3.out).mono ?_); rintro e w' ⟨rfl, ⟨nd, rfl⟩⟩; refine ⟨_, rfl, ?_⟩) | (go_at_call 89; (with_reducible refine (names_Closes.calls k a0 t257 _ A28.out).mono ?_); rintro e w31 ⟨v258, rfl, ho0, hb⟩; have n0_ := Aside0.mk (Kd.R_lower ho0 (below_size bz)); have n1_ := Aside0.mk (below_step bz hb); clear HB; have HO259 := n0_; have HB := n1_; clear n0_ n1_; (try clear hb); (try clear hb2); (try clear hk); (try clear hi); (try clear ho0)) | (go_at_call 88; (fail_if_success (have zz_ := Ao34)); (with_reducible refine (names_Walls.calls k a0 t260 _ A29.out).mono ?_); rintro e w32 ⟨v261, rfl, ho0, hb⟩; have n0_ := Aside0.mk (Kd.R_elder' (rz HO259.out) (Kd.R_base ho0) hb); have n1_ := Aside0.mk (Kd.R_lower (Kd.R_new' ho0 (Kd.R_lt (rz HO259.out))) (below_size bz)); have n2_ := Aside0.mk (below_step bz hb); clear HO259; clear HB; have HO259 := n0_; have HO262 := n1_; have HB := n2_; clear n0_ n1_ n2_; (try clear hb); (try clear hb2); (try clear hk); (try clear hi); (try clear ho0); obtain ⟨Ao33, co33, eo33⟩ := Kd.R_slice HO259.out; subst eo33; obtain ⟨Ao34, co34, eo34⟩ := Kd.R_slice HO262.out; subst eo34) | (go_at_call 87; (with_reducible refine (build_found.calls _ _ l1 _ _ t257 _ _ t260 t263 _ ?side1 ?side2 ?side3 ?side4 ?side5 ?side6 A30.out).mono ?_); (case side1 => exact cz (Kd.C_below HR1.out HB.out)); (case side2 => exact HC1.out); (case side3 => exact cz (Kd.R_reads' HO259.out).2.2); (case side4 => exact (Kd.R_reads' HO259.out).2.1); (case side5 => exact cz (Kd.R_reads' HO262.out).2.2); (case side6 => exact (Kd.R_reads' HO262.out).2.1); rintro e w35 ⟨rfl, hb⟩; have n0_ := Aside0.mk (Kd.R_below (rz HO259.out) hb); have n1_ := Aside0.mk (Kd.R_below (rz HO262.out) hb); have n2_ := Aside0.mk (below_step bz hb); clear HO259; clear HO262; clear HB; have HO259 := n0_; have HO262 := n1_; have HB := n2_; clear n0_ n1_ n2_; (try clear hb); (try clear hb2); (try clear hk); (try clear hi)))
  go_ret
  exact ⟨by first | rfl | (simp [errW_none, errW_some] <;> rfl) | (simp [*, errW_none, errW_some] <;> rfl), bz⟩
end Go.Proofs.YtdnbaliibiginaaDoorH.W8

/- Words and walks used below. -/
namespace Go.Proofs.YtdnbaliibiginaaDoorH.W8
open Go.RowKit Go.Proofs.YtdnbaliibiginaaDoorW.PrintWords Go.Proofs.YtdnbaliibiginaaDoorW.PrintLast Go.Proofs.YtdnbaliibiginaaDoorW.PrintMore
attribute [local go_sem] max2_int min2_int max_two min_two max_three min_three max_four min_four   -- for this text's walks alone
def fold_Space.f (a0 : Int) : Option (Bool) := if a0 = 32 then (some true) else (if a0 = 9 then (some true) else (if a0 = 10 then (some true) else (if a0 = 12 then (some true) else (some (a0 == 13)))))
set_option maxHeartbeats 8000000 in
set_option maxRecDepth 100000 in
theorem fold_Space.calls (a0 : Int) (r : Bool) (w : World) (h : fold_Space.f a0 = some r) :
  Calls Tryd.prog 109 #[.int .u8 a0] w fun e w' => e = .returned (.bool r) ∧ Drawn0 w w' := by
 have H : (if a0 = 32 then (some true) else (if a0 = 9 then (some true) else (if a0 = 10 then (some true) else (if a0 = 12 then (some true) else (some (a0 == 13)))))) = some r := h
 clear h
 by_cases c2 : a0 = 32
 ·rw [if_pos c2] at H
  have c2b0 : (a0 == 32) = true := beq_iff_eq.mpr c2
  have c2b1 : (a0 != 32) = false := bne_eq_false_iff_eq.mpr c2
  clear c2
  obtain rfl := Option.some.inj H
  go_enter Tryd.func109, Tryd.ntmps109
  go_wp2
  go_ret
  exact ⟨by first | rfl | (simp; done) | (simp [*]; done) | (simp; generalize ByteArray.toList _ = l_; cases l_ <;> rfl), by repeat (first | exact Drawn0.refl _ | apply Drawn0.step)⟩
 ·rw [if_neg c2] at H
  have c2b0 : (a0 == 32) = false := beq_eq_false_iff_ne.mpr c2
  have c2b1 : (a0 != 32) = true := bne_iff_ne.mpr c2
  by_cases c3 : a0 = 9
  ·rw [if_pos c3] at H
   have c3b0 : (a0 == 9) = true := beq_iff_eq.mpr c3
   have c3b1 : (a0 != 9) = false := bne_eq_false_iff_eq.mpr c3
   clear c3
   obtain rfl := Option.some.inj H
   go_enter Tryd.func109, Tryd.ntmps109
   go_wp2
   go_ret
   exact ⟨by first | rfl | (simp; done) | (simp [*]; done) | (simp; generalize ByteArray.toList _ = l_; cases l_ <;> rfl), by repeat (first | exact Drawn0.refl _ | apply Drawn0.step)⟩
  ·rw [if_neg c3] at H
   have c3b0 : (a0 == 9) = false := beq_eq_false_iff_ne.mpr c3
   have c3b1 : (a0 != 9) = true := bne_iff_ne.mpr c3
   by_cases c4 : a0 = 10
   ·rw [if_pos c4] at H
    have c4b0 : (a0 == 10) = true := beq_iff_eq.mpr c4
    have c4b1 : (a0 != 10) = false := bne_eq_false_iff_eq.mpr c4
    clear c4
    obtain rfl := Option.some.inj H
    go_enter Tryd.func109, Tryd.ntmps109
    go_wp2
    go_ret
    exact ⟨by first | rfl | (simp; done) | (simp [*]; done) | (simp; generalize ByteArray.toList _ = l_; cases l_ <;> rfl), by repeat (first | exact Drawn0.refl _ | apply Drawn0.step)⟩
   ·rw [if_neg c4] at H
    have c4b0 : (a0 == 10) = false := beq_eq_false_iff_ne.mpr c4
    have c4b1 : (a0 != 10) = true := bne_iff_ne.mpr c4
    by_cases c5 : a0 = 12
    ·rw [if_pos c5] at H
     have c5b0 : (a0 == 12) = true := beq_iff_eq.mpr c5
     have c5b1 : (a0 != 12) = false := bne_eq_false_iff_eq.mpr c5
     clear c5
     obtain rfl := Option.some.inj H
     go_enter Tryd.func109, Tryd.ntmps109
     go_wp2
     go_ret
     exact ⟨by first | rfl | (simp; done) | (simp [*]; done) | (simp; generalize ByteArray.toList _ = l_; cases l_ <;> rfl), by repeat (first | exact Drawn0.refl _ | apply Drawn0.step)⟩
    ·rw [if_neg c5] at H
     have c5b0 : (a0 == 12) = false := beq_eq_false_iff_ne.mpr c5
     have c5b1 : (a0 != 12) = true := bne_iff_ne.mpr c5
     obtain rfl := Option.some.inj H
     go_enter Tryd.func109, Tryd.ntmps109
     go_wp2
     go_ret
     exact ⟨by first | rfl | (simp; done) | (simp [*]; done) | (simp; generalize ByteArray.toList _ = l_; cases l_ <;> rfl), by repeat (first | exact Drawn0.refl _ | apply Drawn0.step)⟩
end Go.Proofs.YtdnbaliibiginaaDoorH.W8
