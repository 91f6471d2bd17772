/- Lemmas and walks, part 25: QPW7x29, QPW7x30, QPW7x17, QPW7x1, QPW7x2, QPW7x3, QR8B, QPW7x6, QPW7x7, QR8K, QE8K, QPW7x4. -/
import Derived.Test.YtkcmghlhpbepcaaGreatDoorB79
import Derived.Test.YtkcmghlhpbepcaaGreatDoorB724
import Derived.Test.YtkcmghlhpbepcaaGreatDoorB723
import Derived.Test.YtkcmghlhpbepcaaGreatDoorB711
import Derived.Test.YtkcmghlhpbepcaaGreatDoorB716
import Derived.Test.YtkcmghlhpbepcaaGreatDoorB714
import Derived.Test.YtkcmghlhpbepcaaGreatDoorB715
import Derived.Test.YtkcmghlhpbepcaaGreatDoorB710
import Derived.RangeFuncNested
import Derived.RangeFuncBound
import Derived.RangeFuncCalls
import Derived.RangeFuncLeaves
import Derived.RangeFuncBox
import Derived.Shelf.Abstract
import Derived.Shelf.RegionOpen
import Derived.WalkKit
import Derived.OwnWalkIn
import Derived.TacticsInMore
import Derived.LoopNIn
import Derived.LoopIn
import Derived.Maps.AppendAt
set_option linter.unusedVariables false
set_option linter.unusedSimpArgs false

/- Words and walks used below. -/
namespace Go.Proofs.YtkcmghlhpbepcaaGreatDoorH.W7
open Go.RowKit Go.Proofs.YtkcmghlhpbepcaaGreatDoorW.PrintWords Go.Proofs.YtkcmghlhpbepcaaGreatDoorW.PrintLast Go.Proofs.YtkcmghlhpbepcaaGreatDoorW.PrintMore
attribute [local go_sem] max2_int min2_int max_two min_two max_three min_three max_four min_four   -- for this text's walks alone
def build_In.f (a0 : ByteArray) (a1 : ByteArray) : Option ((List (S34)) × Int) := if (a0.size : Int) > 65536 then (some (([] : List (S34)), 2)) else ((chars_Ready.f a0).bind fun t314 => ((token_In.f t314 a1).bind fun t315 => ((build_Tree.f t315).bind fun bt318 => (some (bt318.1, bt318.2)))))
set_option maxHeartbeats 8000000 in
set_option maxRecDepth 100000 in
theorem build_In.calls (a0 : ByteArray) (a1 : ByteArray) (r1 : List (S34)) (r2 : Int) (w : World) (h : build_In.f a0 a1 = some (r1, r2)) (hS_ : Go.Proofs.YtkcmghlhpbepcaaGreatDoor.Std w) :
 Calls Tryz.prog 24 #[.string a0, .string a1] w fun e w' => ∃ v0_ : Value, e = .returned (.tuple #[v0_, .int .i64 r2]) ∧ Kd.R k34 34 w' w.heap.size (fun _ => True) v0_ r1 ∧ Below w.heap.size w w' := by
 have HS_ := Aside0.mk hS_
 clear hS_
 have HB := Aside0.mk (Below.refl w.heap.size w)
 have H : (if (a0.size : Int) > 65536 then (some (([] : List (S34)), 2)) else ((chars_Ready.f a0).bind fun t314 => ((token_In.f t314 a1).bind fun t315 => ((build_Tree.f t315).bind fun bt318 => (some (bt318.1, bt318.2)))))) = some (r1, r2) := h
 clear h
 by_cases c3 : (a0.size : Int) > 65536
 ·rw [if_pos c3] at H
  have c3b0 : decide (65536 < (a0.size : Int)) = true := decide_eq_true c3
  have c3b1 : decide (65536 < a0.size) = true := decide_eq_true (by omega)
  clear c3
  simp only [Option.some.injEq, Prod.mk.injEq] at H
  obtain ⟨rfl, rfl⟩ := H
  go_enter Tryz.func24, Tryz.ntmps24
  go_wp2
  go_ret2
  exact ⟨_, by first | rfl | (simp [errW_none, errW_some] <;> rfl) | (simp [*, errW_none, errW_some] <;> rfl), by first | exact Kd.R_nil _ _ _ _ _ | exact Kd.N_nil _ _ _ _ _ | exact Kd.V_nil _ _ _ _ _ | exact Kd.Q_nil _ _ _ _ _ | exact Kd.S_nil _ _ _ _ _, bz⟩
 ·rw [if_neg c3] at H
  have c3b0 : decide (65536 < (a0.size : Int)) = false := decide_eq_false c3
  have c3b1 : decide (65536 < a0.size) = false := decide_eq_false (by omega)
  clear c3
  replace H := Option.bind_eq_some_iff.mp H
  obtain ⟨t314, A40, H⟩ := H
  replace H : ((token_In.f t314 a1).bind fun t315 => ((build_Tree.f t315).bind fun bt318 => (some (bt318.1, bt318.2)))) = some (r1, r2) := H
  have A4 := Aside0.mk A40
  clear A40
  replace H := Option.bind_eq_some_iff.mp H
  obtain ⟨t315, A50, H⟩ := H
  replace H : ((build_Tree.f t315).bind fun bt318 => (some (bt318.1, bt318.2))) = some (r1, r2) := H
  have A5 := Aside0.mk A50
  clear A50
  replace H := Option.bind_eq_some_iff.mp H
  obtain ⟨⟨t318, t319⟩, A60, H⟩ := H
  replace H : (some (t318, t319)) = some (r1, r2) := H
  have A6 := Aside0.mk A60
  clear A60
  simp only [Option.some.injEq, Prod.mk.injEq] at H
  obtain ⟨rfl, rfl⟩ := H
  go_enter Tryz.func24, Tryz.ntmps24
  go_wp2_with (first | ((with_reducible refine gate_callee (f := 73) rfl ?_); refine goesL_ (some 10) rfl rfl Tryz.func73 (by kernel_rfl) rfl #[.string a0] rfl (by (try simp only [List.map_toArray, List.map_cons, List.map_nil]); first | done | rfl | (simp only [List.length_drop, List.length_take]; rfl)) ?_; (with_reducible refine (chars_Ready.calls a0 t314 _ A4.out (Go.Proofs.YtkcmghlhpbepcaaGreatDoor.Std.below HS_.out bz)).mono ?_); rintro e w7 ⟨rfl, hb⟩; refine ⟨_, rfl, ?_⟩; have n0_ := Aside0.mk (below_step bz hb); clear HB; have HB := n0_; clear n0_; (try clear hb); (try clear hb2); (try clear hk); (try clear hi)) | ((with_reducible refine gate_callee (f := 72) rfl ?_); refine goesL_ (some 12) rfl rfl Tryz.func72 (by kernel_rfl) rfl #[.string t314, .string a1] rfl (by (try simp only [List.map_toArray, List.map_cons, List.map_nil]); first | done | rfl | (simp only [List.length_drop, List.length_take]; rfl)) ?_; (with_reducible refine (token_In.calls t314 a1 t315 _ A5.out (Go.Proofs.YtkcmghlhpbepcaaGreatDoor.Std.below HS_.out bz)).mono ?_); rintro e w8 ⟨v316, rfl, ho0, hb⟩; refine ⟨_, rfl, ?_⟩; have n0_ := Aside0.mk (Kd.R_lower ho0 (below_size bz)); have n1_ := Aside0.mk (below_step bz hb); clear HB; have HO317 := n0_; have HB := n1_; clear n0_ n1_; (try clear hb); (try clear hb2); (try clear hk); (try clear hi); (try clear ho0); obtain ⟨Ao9, co9, eo9⟩ := Kd.R_slice HO317.out; subst eo9) | ((with_reducible refine gate_callee (f := 21) rfl ?_); refine goesL_ (some 13) rfl rfl Tryz.func21 (by kernel_rfl) rfl #[.slice Ao9 t315.length co9] rfl (by (try simp only [List.map_toArray, List.map_cons, List.map_nil]); first | done | rfl | (simp only [List.length_drop, List.length_take]; rfl)) ?_; (with_reducible refine (build_Tree.calls _ _ t315 t318 t319 _ ?side1 ?side2 A6.out).mono ?_); (case side1 => exact cz (Kd.R_reads' HO317.out).2.2); (case side2 => exact (Kd.R_reads' HO317.out).2.1); rintro e w10 ⟨v320, rfl, ho0, hb⟩; refine ⟨_, rfl, ?_⟩; have n0_ := Aside0.mk (Kd.R_below (rz HO317.out) hb); have n1_ := Aside0.mk (Kd.R_lower ho0 (below_size bz)); have n2_ := Aside0.mk (below_step bz hb); clear HO317; clear HB; have HO317 := n0_; have HO321 := n1_; have HB := n2_; clear n0_ n1_ n2_; (try clear hb); (try clear hb2); (try clear hk); (try clear hi); (try clear ho0)))
  go_ret2
  exact ⟨_, by first | rfl | (simp [errW_none, errW_some] <;> rfl) | (simp [*, errW_none, errW_some] <;> rfl), by (with_reducible repeat (first | apply Kd.R_alloc | apply Kd.R_drewN | apply Kd.R_drew)); exact HO321.out, bz⟩
end Go.Proofs.YtkcmghlhpbepcaaGreatDoorH.W7

/- Words and walks used below. -/
namespace Go.Proofs.YtkcmghlhpbepcaaGreatDoorH.W7
open Go.RowKit Go.Proofs.YtkcmghlhpbepcaaGreatDoorW.PrintWords Go.Proofs.YtkcmghlhpbepcaaGreatDoorW.PrintLast Go.Proofs.YtkcmghlhpbepcaaGreatDoorW.PrintMore
attribute [local go_sem] max2_int min2_int max_two min_two max_three min_three max_four min_four   -- for this text's walks alone
def build_Parse.f (a0 : ByteArray) : Option ((List (S34)) × Int) := (build_In.f a0 (⟨#[]⟩ : ByteArray)).bind fun bt322 => (some (bt322.1, bt322.2))
set_option maxHeartbeats 8000000 in
set_option maxRecDepth 100000 in
theorem build_Parse.calls (a0 : ByteArray) (r1 : List (S34)) (r2 : Int) (w : World) (h : build_Parse.f a0 = some (r1, r2)) (hS_ : Go.Proofs.YtkcmghlhpbepcaaGreatDoor.Std w) :
 Calls Tryz.prog 26 #[.string a0] w fun e w' => ∃ v0_ : Value, e = .returned (.tuple #[v0_, .int .i64 r2]) ∧ Kd.R k34 34 w' w.heap.size (fun _ => True) v0_ r1 ∧ Below w.heap.size w w' := by
 have HS_ := Aside0.mk hS_
 clear hS_
 have HB := Aside0.mk (Below.refl w.heap.size w)
 have H : ((build_In.f a0 (⟨#[]⟩ : ByteArray)).bind fun bt322 => (some (bt322.1, bt322.2))) = some (r1, r2) := h
 clear h
 replace H := Option.bind_eq_some_iff.mp H
 obtain ⟨⟨t322, t323⟩, A20, H⟩ := H
 replace H : (some (t322, t323)) = some (r1, r2) := H
 have A2 := Aside0.mk A20
 clear A20
 simp only [Option.some.injEq, Prod.mk.injEq] at H
 obtain ⟨rfl, rfl⟩ := H
 go_enter Tryz.func26, Tryz.ntmps26
 go_wp2_with (first | ((with_reducible refine gate_callee (f := 24) rfl ?_); refine goesL_ (some 5) rfl rfl Tryz.func24 (by kernel_rfl) rfl #[.string a0, .string (⟨#[]⟩ : ByteArray)] rfl (by (try simp only [List.map_toArray, List.map_cons, List.map_nil]); first | done | rfl | (simp only [List.length_drop, List.length_take]; rfl)) ?_; (with_reducible refine (build_In.calls a0 (⟨#[]⟩ : ByteArray) t322 t323 _ A2.out (Go.Proofs.YtkcmghlhpbepcaaGreatDoor.Std.below HS_.out bz)).mono ?_); rintro e w3 ⟨v324, rfl, ho0, hb⟩; refine ⟨_, rfl, ?_⟩; have n0_ := Aside0.mk (Kd.R_lower ho0 (below_size bz)); have n1_ := Aside0.mk (below_step bz hb); clear HB; have HO325 := n0_; have HB := n1_; clear n0_ n1_; (try clear hb); (try clear hb2); (try clear hk); (try clear hi); (try clear ho0)))
 go_ret2
 exact ⟨_, by first | rfl | (simp [errW_none, errW_some] <;> rfl) | (simp [*, errW_none, errW_some] <;> rfl), by (with_reducible repeat (first | apply Kd.R_alloc | apply Kd.R_drewN | apply Kd.R_drew)); exact HO325.out, bz⟩
end Go.Proofs.YtkcmghlhpbepcaaGreatDoorH.W7

/- Words and walks used below. -/
namespace Go.Proofs.YtkcmghlhpbepcaaGreatDoorH.W7
open Go.RowKit Go.Proofs.YtkcmghlhpbepcaaGreatDoorW.PrintWords Go.Proofs.YtkcmghlhpbepcaaGreatDoorW.PrintLast Go.Proofs.YtkcmghlhpbepcaaGreatDoorW.PrintMore
attribute [local go_sem] max2_int min2_int max_two min_two max_three min_three max_four min_four   -- for this text's walks alone
def build_Nested.f (k : Nat) (a0 : ByteArray) (l1 : List ByteArray) : Option (Bool) := (build_paragraph.f a0).bind fun t191 => (if t191 = true then ((names_Walls.f k (⟨#[112]⟩ : ByteArray)).bind fun t195 => ((build_found.f l1 (([(⟨#[112]⟩ : ByteArray)] : List ByteArray)) t195).bind fun t198 => (if t198 ≥ 0 then (some false) else ((names_Closes.f k a0).bind fun t199 => ((names_Walls.f k a0).bind fun t202 => ((build_found.f l1 t199 t202).bind fun t205 => (some (decide (t205 < 0))))))))) else ((names_Closes.f k a0).bind fun t206 => ((names_Walls.f k a0).bind fun t209 => ((build_found.f l1 t206 t209).bind fun t212 => (some (decide (t212 < 0)))))))
set_option maxHeartbeats 8000000 in
set_option maxRecDepth 100000 in
theorem build_Nested.calls (k : Nat) (a0 : ByteArray) (A1 : Option Addr) (c1 : Nat) (l1 : List ByteArray) (r : Bool) (w : World) (hr1 : Kd.C Kd.string w A1 l1.length l1) (hc1 : l1.length ≤ c1) (h : build_Nested.f k a0 l1 = some r) :
 Calls Tryz.prog 27 #[.string a0, .slice A1 l1.length c1] w fun e w' => e = .returned (.bool r) ∧ Below w.heap.size w w' := by
 have HR1 := Aside0.mk hr1
 have HC1 := Aside0.mk hc1
 clear hr1 hc1
 have HB := Aside0.mk (Below.refl w.heap.size w)
 have H : ((build_paragraph.f a0).bind fun t191 => (if t191 = true then ((names_Walls.f k (⟨#[112]⟩ : ByteArray)).bind fun t195 => ((build_found.f l1 (([(⟨#[112]⟩ : ByteArray)] : List ByteArray)) t195).bind fun t198 => (if t198 ≥ 0 then (some false) else ((names_Closes.f k a0).bind fun t199 => ((names_Walls.f k a0).bind fun t202 => ((build_found.f l1 t199 t202).bind fun t205 => (some (decide (t205 < 0))))))))) else ((names_Closes.f k a0).bind fun t206 => ((names_Walls.f k a0).bind fun t209 => ((build_found.f l1 t206 t209).bind fun t212 => (some (decide (t212 < 0)))))))) = some r := h
 clear h
 replace H := Option.bind_eq_some_iff.mp H
 obtain ⟨t191, A30, H⟩ := H
 replace H : (if t191 = true then ((names_Walls.f k (⟨#[112]⟩ : ByteArray)).bind fun t195 => ((build_found.f l1 (([(⟨#[112]⟩ : ByteArray)] : List ByteArray)) t195).bind fun t198 => (if t198 ≥ 0 then (some false) else ((names_Closes.f k a0).bind fun t199 => ((names_Walls.f k a0).bind fun t202 => ((build_found.f l1 t199 t202).bind fun t205 => (some (decide (t205 < 0))))))))) else ((names_Closes.f k a0).bind fun t206 => ((names_Walls.f k a0).bind fun t209 => ((build_found.f l1 t206 t209).bind fun t212 => (some (decide (t212 < 0))))))) = some r := H
 have A3 := Aside0.mk A30
 clear A30
 by_cases c4 : t191 = true
 ·subst c4
  have H1 : ((names_Walls.f k (⟨#[112]⟩ : ByteArray)).bind fun t195 => ((build_found.f l1 (([(⟨#[112]⟩ : ByteArray)] : List ByteArray)) t195).bind fun t198 => (if t198 ≥ 0 then (some false) else ((names_Closes.f k a0).bind fun t199 => ((names_Walls.f k a0).bind fun t202 => ((build_found.f l1 t199 t202).bind fun t205 => (some (decide (t205 < 0))))))))) = some r := by rw [if_pos rfl] at H; exact H
  clear H
  have H := H1
  clear H1
  obtain ⟨y192, hy192⟩ : ∃ y_ : List ByteArray, y_ = (([(⟨#[112]⟩ : ByteArray)] : List ByteArray)) := ⟨_, rfl⟩
  replace H : ((names_Walls.f k (⟨#[112]⟩ : ByteArray)).bind fun t195 => ((build_found.f l1 y192 t195).bind fun t198 => (if t198 ≥ 0 then (some false) else ((names_Closes.f k a0).bind fun t199 => ((names_Walls.f k a0).bind fun t202 => ((build_found.f l1 t199 t202).bind fun t205 => (some (decide (t205 < 0))))))))) = some r := by first | (rw [hy192]; with_reducible exact H) | (have H2_ := (Option.bind_some _ _).symm.trans H; rw [hy192]; with_reducible exact H2_) | (have H2_ := (Option.bind_some _ _).symm.trans H; with_reducible exact H2_) | with_reducible exact H | (rw [hy192]; exact H) | exact H
  have Ny192 := Aside0.mk hy192
  clear hy192
  replace H := Option.bind_eq_some_iff.mp H
  obtain ⟨t195, A50, H⟩ := H
  replace H : ((build_found.f l1 y192 t195).bind fun t198 => (if t198 ≥ 0 then (some false) else ((names_Closes.f k a0).bind fun t199 => ((names_Walls.f k a0).bind fun t202 => ((build_found.f l1 t199 t202).bind fun t205 => (some (decide (t205 < 0)))))))) = some r := H
  have A5 := Aside0.mk A50
  clear A50
  replace H := Option.bind_eq_some_iff.mp H
  obtain ⟨t198, A60, H⟩ := H
  replace H : (if t198 ≥ 0 then (some false) else ((names_Closes.f k a0).bind fun t199 => ((names_Walls.f k a0).bind fun t202 => ((build_found.f l1 t199 t202).bind fun t205 => (some (decide (t205 < 0))))))) = some r := H
  have A6 := Aside0.mk A60
  clear A60
  by_cases c7 : t198 ≥ 0
  ·rw [if_pos c7] at H
   have c7b0 : decide (0 ≤ t198) = true := decide_eq_true c7
   clear c7
   obtain rfl := Option.some.inj H
   go_enter Tryz.func27, Tryz.ntmps27
   go_wp2_with (first | ((with_reducible refine gate_callee (f := 76) rfl ?_); refine goesL_ (some 7) rfl rfl Tryz.func76 (by kernel_rfl) rfl #[.string a0] rfl (by (try simp only [List.map_toArray, List.map_cons, List.map_nil]); first | done | rfl | (simp only [List.length_drop, List.length_take]; rfl)) ?_; (with_reducible refine (build_paragraph.calls a0 true _ A3.out).mono ?_); rintro e w' ⟨rfl, ⟨nd, rfl⟩⟩; refine ⟨_, rfl, ?_⟩) | ((with_reducible refine gate_dst (N := 10) rfl ?_); (try (refine gate_guard (by rfl) ?_; dsimp only)); refine Kd.R_lit Kd.string _ 9 ?hg (N := 10) ?hd (xs := ([(⟨#[112]⟩ : ByteArray)] : List ByteArray)) (inner := [.string (⟨#[112]⟩ : ByteArray)]) (ok := fun _ => True) (okp := fun _ => True) ?hr ?hp (fun _ hk => hk) trivial (Below.refl _ _) (Nat.le_refl _) (by simp) ?_; (case hd => rfl); (case hg => rfl); (case hr => first | (go_simp; done) | (go_simp; rfl)); (case hp => exact (Reps.one (show Kd.M Kd.string _ _ _ (⟨#[112]⟩ : ByteArray) [.string (⟨#[112]⟩ : ByteArray)] from rfl) (Reps.none _ _))); intro v193 w8 ho9 hb hg_ hnew_; clear hg_ hnew_; (first | rw [← Ny192.out] at ho9 | (simp only [Int.reduceToNat] at ho9; rw [← Ny192.out] at ho9)); have n0_ := Aside0.mk (Kd.R_lower ho9 (below_size bz)); have n1_ := Aside0.mk (below_step bz hb); clear HB; have HO194 := n0_; have HB := n1_; clear n0_ n1_; clear hb ho9) | (go_at_call 78; (fail_if_success (have zz_ := Ao12)); (with_reducible refine (names_Walls.calls k (⟨#[112]⟩ : ByteArray) t195 _ A5.out).mono ?_); rintro e w10 ⟨v196, rfl, ho0, hb⟩; have n0_ := Aside0.mk (Kd.R_elder' (rz HO194.out) (Kd.R_base ho0) hb); have n1_ := Aside0.mk (Kd.R_lower (Kd.R_new' ho0 (Kd.R_lt (rz HO194.out))) (below_size bz)); have n2_ := Aside0.mk (below_step bz hb); clear HO194; clear HB; have HO194 := n0_; have HO197 := n1_; have HB := n2_; clear n0_ n1_ n2_; (try clear hb); (try clear hb2); (try clear hk); (try clear hi); (try clear ho0); obtain ⟨Ao11, co11, eo11⟩ := Kd.R_slice HO194.out; subst eo11; obtain ⟨Ao12, co12, eo12⟩ := Kd.R_slice HO197.out; subst eo12) | (go_at_call 77; (with_reducible refine (build_found.calls _ _ l1 _ _ y192 _ _ t195 t198 _ ?side1 ?side2 ?side3 ?side4 ?side5 ?side6 A6.out).mono ?_); (case side1 => exact cz (Kd.C_below HR1.out HB.out)); (case side2 => exact HC1.out); (case side3 => exact cz (Kd.R_reads' HO194.out).2.2); (case side4 => exact (Kd.R_reads' HO194.out).2.1); (case side5 => exact cz (Kd.R_reads' HO197.out).2.2); (case side6 => exact (Kd.R_reads' HO197.out).2.1); rintro e w13 ⟨rfl, hb⟩; have n0_ := Aside0.mk (Kd.R_below (rz HO194.out) hb); have n1_ := Aside0.mk (Kd.R_below (rz HO197.out) hb); have n2_ := Aside0.mk (below_step bz hb); clear HO194; clear HO197; clear HB; have HO194 := n0_; have HO197 := n1_; have HB := n2_; clear n0_ n1_ n2_; (try clear hb); (try clear hb2); (try clear hk); (try clear hi)))
   go_ret
   exact ⟨by first | rfl | (simp [errW_none, errW_some] <;> rfl) | (simp [*, errW_none, errW_some] <;> rfl), bz⟩
  ·rw [if_neg c7] at H
   have c7b0 : decide (0 ≤ t198) = false := decide_eq_false c7
   clear c7
   replace H := Option.bind_eq_some_iff.mp H
   obtain ⟨t199, A140, H⟩ := H
   replace H : ((names_Walls.f k a0).bind fun t202 => ((build_found.f l1 t199 t202).bind fun t205 => (some (decide (t205 < 0))))) = some r := H
   have A14 := Aside0.mk A140
   clear A140
   replace H := Option.bind_eq_some_iff.mp H
   obtain ⟨t202, A150, H⟩ := H
   replace H : ((build_found.f l1 t199 t202).bind fun t205 => (some (decide (t205 < 0)))) = some r := H
   have A15 := Aside0.mk A150
   clear A150
   replace H := Option.bind_eq_some_iff.mp H
   obtain ⟨t205, A160, H⟩ := H
   replace H : (some (decide (t205 < 0))) = some r := H
   have A16 := Aside0.mk A160
   clear A160
   obtain rfl := Option.some.inj H
   go_enter Tryz.func27, Tryz.ntmps27
   go_wp2_with (first | ((with_reducible refine gate_callee (f := 76) rfl ?_); refine goesL_ (some 7) rfl rfl Tryz.func76 (by kernel_rfl) rfl #[.string a0] rfl (by (try simp only [List.map_toArray, List.map_cons, List.map_nil]); first | done | rfl | (simp only [List.length_drop, List.length_take]; rfl)) ?_; (with_reducible refine (build_paragraph.calls a0 true _ A3.out).mono ?_); rintro e w' ⟨rfl, ⟨nd, rfl⟩⟩; refine ⟨_, rfl, ?_⟩) | ((with_reducible refine gate_dst (N := 10) rfl ?_); (try (refine gate_guard (by rfl) ?_; dsimp only)); refine Kd.R_lit Kd.string _ 9 ?hg (N := 10) ?hd (xs := ([(⟨#[112]⟩ : ByteArray)] : List ByteArray)) (inner := [.string (⟨#[112]⟩ : ByteArray)]) (ok := fun _ => True) (okp := fun _ => True) ?hr ?hp (fun _ hk => hk) trivial (Below.refl _ _) (Nat.le_refl _) (by simp) ?_; (case hd => rfl); (case hg => rfl); (case hr => first | (go_simp; done) | (go_simp; rfl)); (case hp => exact (Reps.one (show Kd.M Kd.string _ _ _ (⟨#[112]⟩ : ByteArray) [.string (⟨#[112]⟩ : ByteArray)] from rfl) (Reps.none _ _))); intro v193 w17 ho18 hb hg_ hnew_; clear hg_ hnew_; (first | rw [← Ny192.out] at ho18 | (simp only [Int.reduceToNat] at ho18; rw [← Ny192.out] at ho18)); have n0_ := Aside0.mk (Kd.R_lower ho18 (below_size bz)); have n1_ := Aside0.mk (below_step bz hb); clear HB; have HO194 := n0_; have HB := n1_; clear n0_ n1_; clear hb ho18) | (go_at_call 78; (fail_if_success (have zz_ := Ao21)); (with_reducible refine (names_Walls.calls k (⟨#[112]⟩ : ByteArray) t195 _ A5.out).mono ?_); rintro e w19 ⟨v196, rfl, ho0, hb⟩; have n0_ := Aside0.mk (Kd.R_elder' (rz HO194.out) (Kd.R_base ho0) hb); have n1_ := Aside0.mk (Kd.R_lower (Kd.R_new' ho0 (Kd.R_lt (rz HO194.out))) (below_size bz)); have n2_ := Aside0.mk (below_step bz hb); clear HO194; clear HB; have HO194 := n0_; have HO197 := n1_; have HB := n2_; clear n0_ n1_ n2_; (try clear hb); (try clear hb2); (try clear hk); (try clear hi); (try clear ho0); obtain ⟨Ao20, co20, eo20⟩ := Kd.R_slice HO194.out; subst eo20; obtain ⟨Ao21, co21, eo21⟩ := Kd.R_slice HO197.out; subst eo21) | (go_at_call 77; (with_reducible refine (build_found.calls _ _ l1 _ _ y192 _ _ t195 t198 _ ?side1 ?side2 ?side3 ?side4 ?side5 ?side6 A6.out).mono ?_); (case side1 => exact cz (Kd.C_below HR1.out HB.out)); (case side2 => exact HC1.out); (case side3 => exact cz (Kd.R_reads' HO194.out).2.2); (case side4 => exact (Kd.R_reads' HO194.out).2.1); (case side5 => exact cz (Kd.R_reads' HO197.out).2.2); (case side6 => exact (Kd.R_reads' HO197.out).2.1); rintro e w22 ⟨rfl, hb⟩; have n0_ := Aside0.mk (Kd.R_below (rz HO194.out) hb); have n1_ := Aside0.mk (Kd.R_below (rz HO197.out) hb); have n2_ := Aside0.mk (below_step bz hb); clear HO194; clear HO197; clear HB; have HO194 := n0_; have HO197 := n1_; have HB := n2_; clear n0_ n1_ n2_; (try clear hb); (try clear hb2); (try clear hk); (try clear hi)) | (go_at_call 35; (with_reducible refine (names_Closes.calls k a0 t199 _ A14.out).mono ?_); rintro e w23 ⟨v200, rfl, ho0, hb⟩; have n0_ := Aside0.mk (Kd.R_elder' (rz HO194.out) (Kd.R_base ho0) hb); have n1_ := Aside0.mk (Kd.R_elder' (rz HO197.out) (Kd.R_base ho0) hb); have n2_ := Aside0.mk (Kd.R_lower (Kd.R_new' (Kd.R_new' ho0 (Kd.R_lt (rz HO194.out))) (Kd.R_lt (rz HO197.out))) (below_size bz)); have n3_ := Aside0.mk (below_step bz hb); clear HO194; clear HO197; clear HB; have HO194 := n0_; have HO197 := n1_; have HO201 := n2_; have HB := n3_; clear n0_ n1_ n2_ n3_; (try clear hb); (try clear hb2); (try clear hk); (try clear hi); (try clear ho0)) | (go_at_call 78; (fail_if_success (have zz_ := Ao26)); (with_reducible refine (names_Walls.calls k a0 t202 _ A15.out).mono ?_); rintro e w24 ⟨v203, rfl, ho0, hb⟩; have n0_ := Aside0.mk (Kd.R_elder' (rz HO194.out) (Kd.R_base ho0) hb); have n1_ := Aside0.mk (Kd.R_elder' (rz HO197.out) (Kd.R_base ho0) hb); have n2_ := Aside0.mk (Kd.R_elder' (rz HO201.out) (Kd.R_base ho0) hb); have n3_ := Aside0.mk (Kd.R_lower (Kd.R_new' (Kd.R_new' (Kd.R_new' ho0 (Kd.R_lt (rz HO194.out))) (Kd.R_lt (rz HO197.out))) (Kd.R_lt (rz HO201.out))) (below_size bz)); have n4_ := Aside0.mk (below_step bz hb); clear HO194; clear HO197; clear HO201; clear HB; have HO194 := n0_; have HO197 := n1_; have HO201 := n2_; have HO204 := n3_; have HB := n4_; clear n0_ n1_ n2_ n3_ n4_; (try clear hb); (try clear hb2); (try clear hk); (try clear hi); (try clear ho0); obtain ⟨Ao25, co25, eo25⟩ := Kd.R_slice HO201.out; subst eo25; obtain ⟨Ao26, co26, eo26⟩ := Kd.R_slice HO204.out; subst eo26) | (go_at_call 77; (with_reducible refine (build_found.calls _ _ l1 _ _ t199 _ _ t202 t205 _ ?side1 ?side2 ?side3 ?side4 ?side5 ?side6 A16.out).mono ?_); (case side1 => exact cz (Kd.C_below HR1.out HB.out)); (case side2 => exact HC1.out); (case side3 => exact cz (Kd.R_reads' HO201.out).2.2); (case side4 => exact (Kd.R_reads' HO201.out).2.1); (case side5 => exact cz (Kd.R_reads' HO204.out).2.2); (case side6 => exact (Kd.R_reads' HO204.out).2.1); rintro e w27 ⟨rfl, hb⟩; have n0_ := Aside0.mk (Kd.R_below (rz HO194.out) hb); have n1_ := Aside0.mk (Kd.R_below (rz HO197.out) hb); have n2_ := Aside0.mk (Kd.R_below (rz HO201.out) hb); have n3_ := Aside0.mk (Kd.R_below (rz HO204.out) hb); have n4_ := Aside0.mk (below_step bz hb); clear HO194; clear HO197; clear HO201; clear HO204; clear HB; have HO194 := n0_; have HO197 := n1_; have HO201 := n2_; have HO204 := n3_; have HB := n4_; clear n0_ n1_ n2_ n3_ n4_; (try clear hb); (try clear hb2); (try clear hk); (try clear hi)))
   go_ret
   exact ⟨by first | rfl | (simp [errW_none, errW_some] <;> rfl) | (simp [*, errW_none, errW_some] <;> rfl), bz⟩
 ·replace c4 := Bool.eq_false_iff.mpr c4
  subst c4
  have H1 : ((names_Closes.f k a0).bind fun t206 => ((names_Walls.f k a0).bind fun t209 => ((build_found.f l1 t206 t209).bind fun t212 => (some (decide (t212 < 0)))))) = some r := by rw [if_neg (show ¬ (false = true) by decide)] at H; first | exact H | (simp only [eq_self] at H ⊢; exact H) | (simp only [eq_self, if_true] at H ⊢; exact H)
  clear H
  have H := H1
  clear H1
  replace H := Option.bind_eq_some_iff.mp H
  obtain ⟨t206, A280, H⟩ := H
  replace H : ((names_Walls.f k a0).bind fun t209 => ((build_found.f l1 t206 t209).bind fun t212 => (some (decide (t212 < 0))))) = some r := H
  have A28 := Aside0.mk A280
  clear A280
  replace H := Option.bind_eq_some_iff.mp H
  obtain ⟨t209, A290, H⟩ := H
  replace H : ((build_found.f l1 t206 t209).bind fun t212 => (some (decide (t212 < 0)))) = some r := H
  have A29 := Aside0.mk A290
  clear A290
  replace H := Option.bind_eq_some_iff.mp H
  obtain ⟨t212, A300, H⟩ := H
  replace H : (some (decide (t212 < 0))) = some r := H
  have A30 := Aside0.mk A300
  clear A300
  obtain rfl := Option.some.inj H
  go_enter Tryz.func27, Tryz.ntmps27
  go_wp2_with (first | ((with_reducible refine gate_callee (f := 76) rfl ?_); refine goesL_ (some 7) rfl rfl Tryz.func76 (by kernel_rfl) rfl #[.string a0] rfl (by (try simp only [List.map_toArray, List.map_cons, List.map_nil]); first | done | rfl | (simp only [List.length_drop, List.length_take]; rfl)) ?_; (with_reducible refine (build_paragraph.calls a0 false _ A3.out).mono ?_); rintro e w' ⟨rfl, ⟨nd, rfl⟩⟩; refine ⟨_, rfl, ?_⟩) | (go_at_call 35; (with_reducible refine (names_Closes.calls k a0 t206 _ A28.out).mono ?_); rintro e w31 ⟨v207, rfl, ho0, hb⟩; have n0_ := Aside0.mk (Kd.R_lower ho0 (below_size bz)); have n1_ := Aside0.mk (below_step bz hb); clear HB; have HO208 := n0_; have HB := n1_; clear n0_ n1_; (try clear hb); (try clear hb2); (try clear hk); (try clear hi); (try clear ho0)) | (go_at_call 78; (fail_if_success (have zz_ := Ao34)); (with_reducible refine (names_Walls.calls k a0 t209 _ A29.out).mono ?_); rintro e w32 ⟨v210, rfl, ho0, hb⟩; have n0_ := Aside0.mk (Kd.R_elder' (rz HO208.out) (Kd.R_base ho0) hb); have n1_ := Aside0.mk (Kd.R_lower (Kd.R_new' ho0 (Kd.R_lt (rz HO208.out))) (below_size bz)); have n2_ := Aside0.mk (below_step bz hb); clear HO208; clear HB; have HO208 := n0_; have HO211 := n1_; have HB := n2_; clear n0_ n1_ n2_; (try clear hb); (try clear hb2); (try clear hk); (try clear hi); (try clear ho0); obtain ⟨Ao33, co33, eo33⟩ := Kd.R_slice HO208.out; subst eo33; obtain ⟨Ao34, co34, eo34⟩ := Kd.R_slice HO211.out; subst eo34) | (go_at_call 77; (with_reducible refine (build_found.calls _ _ l1 _ _ t206 _ _ t209 t212 _ ?side1 ?side2 ?side3 ?side4 ?side5 ?side6 A30.out).mono ?_); (case side1 => exact cz (Kd.C_below HR1.out HB.out)); (case side2 => exact HC1.out); (case side3 => exact cz (Kd.R_reads' HO208.out).2.2); (case side4 => exact (Kd.R_reads' HO208.out).2.1); (case side5 => exact cz (Kd.R_reads' HO211.out).2.2); (case side6 => exact (Kd.R_reads' HO211.out).2.1); rintro e w35 ⟨rfl, hb⟩; have n0_ := Aside0.mk (Kd.R_below (rz HO208.out) hb); have n1_ := Aside0.mk (Kd.R_below (rz HO211.out) hb); have n2_ := Aside0.mk (below_step bz hb); clear HO208; clear HO211; clear HB; have HO208 := n0_; have HO211 := n1_; have HB := n2_; clear n0_ n1_ n2_; (try clear hb); (try clear hb2); (try clear hk); (try clear hi)))
  go_ret
  exact ⟨by first | rfl | (simp [errW_none, errW_some] <;> rfl) | (simp [*, errW_none, errW_some] <;> rfl), bz⟩
end Go.Proofs.YtkcmghlhpbepcaaGreatDoorH.W7

/- Words and walks used below. -/
namespace Go.Proofs.YtkcmghlhpbepcaaGreatDoorH.W7
open Go.RowKit Go.Proofs.YtkcmghlhpbepcaaGreatDoorW.PrintWords Go.Proofs.YtkcmghlhpbepcaaGreatDoorW.PrintLast Go.Proofs.YtkcmghlhpbepcaaGreatDoorW.PrintMore
attribute [local go_sem] max2_int min2_int max_two min_two max_three min_three max_four min_four   -- for this text's walks alone
theorem eqA36 (d : Nat) (w : World) (x0 y0 : ByteArray) (x1 y1 : ByteArray) :
 (Op.equalIn (d + 2) 36 (.agg #[.string x0, .string x1]) (.agg #[.string y0, .string y1])).run Tryz.prog w = .ok (x0.toList == y0.toList && (x1.toList == y1.toList)) w := by
 refine eqA_of Tryz.underlying36 (by kernel_rfl) ?_
 refine eqf_cons (by rfl) (by go_simp; rfl) (by go_simp; rfl) (by go_simp) ?_
 exact eqf_last (by rfl) (by go_simp; rfl) (by go_simp; rfl) (by go_simp)
end Go.Proofs.YtkcmghlhpbepcaaGreatDoorH.W7

/- Words and walks used below. -/
namespace Go.Proofs.YtkcmghlhpbepcaaGreatDoorH.W7
open Go.RowKit Go.Proofs.YtkcmghlhpbepcaaGreatDoorW.PrintWords Go.Proofs.YtkcmghlhpbepcaaGreatDoorW.PrintLast Go.Proofs.YtkcmghlhpbepcaaGreatDoorW.PrintMore
attribute [local go_sem] max2_int min2_int max_two min_two max_three min_three max_four min_four   -- for this text's walks alone
attribute [local go_sem high] eqA36
def rows_attrs.l0 : Nat → List (S36) → List (S36) → Int → Int → Option (Bool)
 | 0, _, _, _, _ => none
 | k + 1, x0, x1, x10, x11 => if x11 < x10 then (if 0 ≤ x11 then (if x11 < (x0.length : Int) then (if x11 < (x1.length : Int) then (if (!((((rd_T36 x0 x11).f0).toList) == (((rd_T36 x1 x11).f0).toList)) || (!((((rd_T36 x0 x11).f1).toList) == (((rd_T36 x1 x11).f1).toList)))) = true then (some false) else (rows_attrs.l0 k x0 x1 x10 (wrap64 (x11 + 1)))) else (none)) else (none)) else (none)) else (some ((x0.length : Int) == (x1.length : Int)))
def rows_attrs.f (k : Nat) (l0 : List (S36)) (l1 : List (S36)) : Option (Bool) := rows_attrs.l0 k l0 l1 (mn (l0.length : Int) (l1.length : Int)) 0
end Go.Proofs.YtkcmghlhpbepcaaGreatDoorH.W7

/- Words and walks used below. -/
namespace Go.Proofs.YtkcmghlhpbepcaaGreatDoorH.W7
open Go.RowKit Go.Proofs.YtkcmghlhpbepcaaGreatDoorW.PrintWords Go.Proofs.YtkcmghlhpbepcaaGreatDoorW.PrintLast Go.Proofs.YtkcmghlhpbepcaaGreatDoorW.PrintMore
attribute [local go_sem] max2_int min2_int max_two min_two max_three min_three max_four min_four   -- for this text's walks alone
def rows_Same_1.f (k : Nat) (a0_0 : Int) (a0_1 : Int) (a0_2 : ByteArray) (a0_3 : ByteArray) (l0_4 : List (S36)) (a1_0 : Int) (a1_1 : Int) (a1_2 : ByteArray) (a1_3 : ByteArray) (l1_4 : List (S36)) : Option (Bool) := if a0_0 = a1_0 then (if a0_1 = a1_1 then (if a0_2.toList = a1_2.toList then (if a0_3.toList = a1_3.toList then ((rows_attrs.f k l0_4 l1_4).bind fun t105 => (some t105)) else (some false)) else (some false)) else (some false)) else (some false)
end Go.Proofs.YtkcmghlhpbepcaaGreatDoorH.W7

/- Contract of rows.Same: whether rows are the same. Nothing that lay in memory turns. -/
namespace Go.Proofs.YtkcmghlhpbepcaaGreatDoorH.W7
open Go.RowKit Go.Proofs Go.Proofs.YtkcmghlhpbepcaaGreatDoor
structure Rr where
 depth : Int
 kind : Int
 name : Txt
 data : Txt
 attrs : List (Txt × Txt)
 deriving DecidableEq
def prS (a : S36) : Txt × Txt := (a.f0.data.toList, a.f1.data.toList)
def rowS (x : Rw) : Rr := ⟨x.f0, x.f1, x.f2.data.toList, x.f3.data.toList, x.f4.map prS⟩
theorem w64 {x : Int} (h0 : -9223372036854775808 ≤ x) (h1 : x ≤ 9223372036854775807) : wrap64 x = x := by unfold wrap64; omega
theorem bytes_iff (a b : ByteArray) : a.toList = b.toList ↔ a.data.toList = b.data.toList := by rw [Lib.toList_data, Lib.toList_data]
theorem bytes_beq (a b : ByteArray) : (a.toList == b.toList) = (a.data.toList == b.data.toList) := by rw [Lib.toList_data, Lib.toList_data]
def rows_Same.f (l0 l1 : List Rw) : Option Bool := some (decide (l0.map rowS = l1.map rowS))
end Go.Proofs.YtkcmghlhpbepcaaGreatDoorH.W7

/- Words and walks used below. -/
namespace Go.Proofs.YtkcmghlhpbepcaaGreatDoorH.W7
open Go.RowKit Go.Proofs.YtkcmghlhpbepcaaGreatDoorW.PrintWords Go.Proofs.YtkcmghlhpbepcaaGreatDoorW.PrintLast Go.Proofs.YtkcmghlhpbepcaaGreatDoorW.PrintMore
attribute [local go_sem] max2_int min2_int max_two min_two max_three min_three max_four min_four   -- for this text's walks alone
def rows_is.f (l0 : List (S34)) (a1 : Int) : Option (Bool) := if a1 ≥ 0 then (some (decide (a1 < (l0.length : Int)))) else (some false)
end Go.Proofs.YtkcmghlhpbepcaaGreatDoorH.W7

/- Words and walks used below. -/
namespace Go.Proofs.YtkcmghlhpbepcaaGreatDoorH.W7
open Go.RowKit Go.Proofs.YtkcmghlhpbepcaaGreatDoorW.PrintWords Go.Proofs.YtkcmghlhpbepcaaGreatDoorW.PrintLast Go.Proofs.YtkcmghlhpbepcaaGreatDoorW.PrintMore
attribute [local go_sem] max2_int min2_int max_two min_two max_three min_three max_four min_four   -- for this text's walks alone
def rows_End.l0 : Nat → List (S34) → Int → Int → Option (Int)
 | 0, _, _, _ => none
 | k + 1, x0, x1, x5 => if x5 < (x0.length : Int) then (if 0 ≤ x5 then (if 0 ≤ x1 then (if x1 < (x0.length : Int) then (if ((rd_T34 x0 x5).f0) > ((rd_T34 x0 x1).f0) then (rows_End.l0 k x0 x1 (wrap64 (x5 + 1))) else (some x5)) else (none)) else (none)) else (none)) else (some x5)
def rows_End.f (k : Nat) (l0 : List (S34)) (a1 : Int) : Option (Int) := (rows_is.f l0 a1).bind fun t110 => (if t110 = true then (rows_End.l0 k l0 a1 (wrap64 (a1 + 1))) else (some 0))
end Go.Proofs.YtkcmghlhpbepcaaGreatDoorH.W7

/- Contract of rows.Kids: a loop over a function. Nothing that lay in memory turns. -/
namespace Go.Proofs.YtkcmghlhpbepcaaGreatDoorH.W7
open Go.RowKit Go.Shelf Go.Proofs Go.Proofs.YtkcmghlhpbepcaaGreatDoor
attribute [local go_sem] Oper.semAt_some
def spanN (d : Int) : List Rw → Nat
 | [] => 0
 | y :: ys => if d < y.f0 then spanN d ys + 1 else 0
def endN (xs : List Rw) (i : Nat) : Nat := i + 1 + spanN (rd_T34 xs i).f0 (xs.drop (i + 1))
theorem endN_gt (xs : List Rw) (i : Nat) : i < endN xs i := by unfold endN; omega
def kidsW (xs : List Rw) (t j : Nat) : List Nat :=
 if h : j < t ∧ j < xs.length then j :: kidsW xs t (endN xs j) else []
termination_by xs.length - j
decreasing_by have := endN_gt xs j; omega
def kidsF (xs : List Rw) (i : Int) : List Nat :=
 if i = -1 then kidsW xs xs.length 0 else if 0 ≤ i ∧ i < xs.length then kidsW xs (endN xs i.toNat) (i.toNat + 1) else []
def fromI (i : Int) : Nat := if i = -1 then 0 else i.toNat + 1
def toI (xs : List Rw) (i : Int) : Nat := if i = -1 then xs.length else endN xs i.toNat
def KpK (n₀ B : Nat) (v : Value) (W W' : World) : Prop := Below n₀ W W' ∧ (Boxed W B 22 v → Boxed W' B 22 v)
end Go.Proofs.YtkcmghlhpbepcaaGreatDoorH.W7

/- Contract of rows.Kids: its loop over a function. Nothing that lay in memory turns. -/
namespace Go.Proofs.YtkcmghlhpbepcaaGreatDoorH.W7
open Go.RowKit Go.Shelf Go.Proofs Go.Proofs.YtkcmghlhpbepcaaGreatDoor
attribute [local go_sem] Oper.semAt_some
def rows_Kids.f (l0 : List Rw) (a1 : Int) : Option (List Int) := if l0.length * 8 ≤ 140737488355328 then some ((kidsF l0 a1).map (fun x : Nat => (x : Int))) else none
end Go.Proofs.YtkcmghlhpbepcaaGreatDoorH.W7

/- Words and walks used below. -/
namespace Go.Proofs.YtkcmghlhpbepcaaGreatDoorH.W7
open Go.RowKit Go.Proofs.YtkcmghlhpbepcaaGreatDoorW.PrintWords Go.Proofs.YtkcmghlhpbepcaaGreatDoorW.PrintLast Go.Proofs.YtkcmghlhpbepcaaGreatDoorW.PrintMore
attribute [local go_sem] max2_int min2_int max_two min_two max_three min_three max_four min_four   -- for this text's walks alone
attribute [local go_sem high] eqA36
def boltingref04_Attrs.l0 : Nat → List (S36) → List (S36) → Int → Option (Bool)
 | 0, _, _, _ => none
 | k + 1, x0, x1, x5 => if x5 < (x0.length : Int) then (if 0 ≤ x5 then (if x5 < (x1.length : Int) then (if (!((((rd_T36 x0 x5).f0).toList) == (((rd_T36 x1 x5).f0).toList)) || (!((((rd_T36 x0 x5).f1).toList) == (((rd_T36 x1 x5).f1).toList)))) = true then (some false) else (boltingref04_Attrs.l0 k x0 x1 (wrap64 (x5 + 1)))) else (none)) else (none)) else (some true)
def boltingref04_Attrs.f (k : Nat) (l0 : List (S36)) (l1 : List (S36)) : Option (Bool) := if (l0.length : Int) = (l1.length : Int) then (boltingref04_Attrs.l0 k l0 l1 0) else (some false)
set_option maxHeartbeats 8000000 in
set_option maxRecDepth 100000 in
theorem boltingref04_Attrs.calls (k : Nat) (A0 : Option Addr) (c0 : Nat) (l0 : List (S36)) (A1 : Option Addr) (c1 : Nat) (l1 : List (S36)) (r : Bool) (w : World) (hr0 : Kd.C k36 w A0 l0.length l0) (hc0 : l0.length ≤ c0) (hr1 : Kd.C k36 w A1 l1.length l1) (hc1 : l1.length ≤ c1) (h : boltingref04_Attrs.f k l0 l1 = some r) :
 Calls Tryz.prog 71 #[.slice A0 l0.length c0, .slice A1 l1.length c1] w fun e w' => e = .returned (.bool r) ∧ Drawn0 w w' := by
 have hu36 := Tryz.underlying36
 have HR0 := Aside0.mk hr0
 have HC0 := Aside0.mk hc0
 clear hr0 hc0
 have HR1 := Aside0.mk hr1
 have HC1 := Aside0.mk hc1
 clear hr1 hc1
 have H : (if (l0.length : Int) = (l1.length : Int) then (boltingref04_Attrs.l0 k l0 l1 0) else (some false)) = some r := h
 clear h
 by_cases c3 : (l0.length : Int) = (l1.length : Int)
 ·rw [if_pos c3] at H
  have c3b0 : ((l0.length : Int) == (l1.length : Int)) = true := beq_iff_eq.mpr c3
  have c3b1 : ((l0.length : Int) != (l1.length : Int)) = false := bne_eq_false_iff_eq.mpr c3
  have c3b2 : (l0.length == l1.length) = true := by first | simpa using c3 | (simp at c3 ⊢; omega)
  clear c3
  have H' := Aside0.mk H
  clear H
  go_enter Tryz.func71, Tryz.ntmps71
  go_wp2
  repeat (go_quiet (fail); try go_wp2)
  go_loopg [5] k (fun kq v5 w' => ∃ (x5_1 : Int), v5 = .int .i64 x5_1 ∧ Aside0 (boltingref04_Attrs.l0 kq l0 l1 x5_1 = some r) ∧ Aside0 (kq ≤ k) ∧ Drawn0 w w')
  case atStart => exact ⟨(0), (by first | rfl | (simp; done) | (simp [*]; done) | (simp; generalize ByteArray.toList _ = l_; cases l_ <;> rfl)), H', ⟨Nat.le_refl _⟩, by repeat (first | exact Drawn0.refl _ | apply Drawn0.step)⟩
  case round =>
   clear H'
   try clear c1
   try clear p2
   try clear c3
   try clear c3b0
   try clear c3b1
   try clear c3b2
   obtain ⟨x5_1, rfl, HA, HK1, ⟨m1, rfl⟩⟩ := hrel
   cases gk with
   | zero => exact absurd HA.out (by simp [boltingref04_Attrs.l0])
   | succ k1 =>
     have H := HA.out
     clear HA
     simp only [boltingref04_Attrs.l0] at H
     by_cases c4 : x5_1 < (l0.length : Int)
     ·rw [if_pos c4] at H
      have c4b0 : decide (x5_1 < (l0.length : Int)) = true := decide_eq_true c4
      clear c4
      by_cases c5 : 0 ≤ x5_1
      ·rw [if_pos c5] at H
       have c5b0 : decide (0 ≤ x5_1) = true := decide_eq_true c5
       clear c5
       by_cases c6 : x5_1 < (l1.length : Int)
       ·rw [if_pos c6] at H
        have c6b0 : decide (x5_1 < (l1.length : Int)) = true := decide_eq_true c6
        clear c6
        by_cases c7 : (!((((rd_T36 l0 x5_1).f0).toList) == (((rd_T36 l1 x5_1).f0).toList)) || (!((((rd_T36 l0 x5_1).f1).toList) == (((rd_T36 l1 x5_1).f1).toList)))) = true
        ·rw [if_pos c7] at H
         have c7b0 : (!((((rd_T36 l0 x5_1).f0).toList) == (((rd_T36 l1 x5_1).f0).toList)) || (!((((rd_T36 l0 x5_1).f1).toList) == (((rd_T36 l1 x5_1).f1).toList)))) = true := c7
         clear c7
         obtain rfl := Option.some.inj H
         have p106 : 0 ≤ (x5_1 : Int) := (by first | exact of_decide_eq_true (by first | (with_reducible assumption) | assumption) | assumption | omega)
         have q106 : x5_1 < (l0.length : Int) := (by first | exact of_decide_eq_true (by first | (with_reducible assumption) | assumption) | assumption | omega)
         obtain ⟨ad106, e106, hx106_0, hx106_1⟩ := at_T36 HR0.out x5_1 p106 q106
         cases e106
         replace p106 := eq_true p106
         replace q106 := eq_true q106
         have p107 : 0 ≤ (x5_1 : Int) := (by first | exact of_decide_eq_true (by first | (with_reducible assumption) | assumption) | assumption | omega)
         have q107 : x5_1 < (l1.length : Int) := (by first | exact of_decide_eq_true (by first | (with_reducible assumption) | assumption) | assumption | omega)
         obtain ⟨ad107, e107, hx107_0, hx107_1⟩ := at_T36 HR1.out x5_1 p107 q107
         cases e107
         replace p107 := eq_true p107
         replace q107 := eq_true q107
         go_wp2
         repeat (go_quiet (fail); try go_wp2)
         go_ret
         exact ⟨by first | rfl | (simp; done) | (simp [*]; done) | (simp; generalize ByteArray.toList _ = l_; cases l_ <;> rfl), by repeat (first | exact Drawn0.refl _ | apply Drawn0.step)⟩
        ·rw [if_neg c7] at H
         have c7b0 : (!((((rd_T36 l0 x5_1).f0).toList) == (((rd_T36 l1 x5_1).f0).toList)) || (!((((rd_T36 l0 x5_1).f1).toList) == (((rd_T36 l1 x5_1).f1).toList)))) = false := by simpa using c7
         clear c7
         have H' := Aside0.mk H
         clear H
         have p106 : 0 ≤ (x5_1 : Int) := (by first | exact of_decide_eq_true (by first | (with_reducible assumption) | assumption) | assumption | omega)
         have q106 : x5_1 < (l0.length : Int) := (by first | exact of_decide_eq_true (by first | (with_reducible assumption) | assumption) | assumption | omega)
         obtain ⟨ad106, e106, hx106_0, hx106_1⟩ := at_T36 HR0.out x5_1 p106 q106
         cases e106
         replace p106 := eq_true p106
         replace q106 := eq_true q106
         have p107 : 0 ≤ (x5_1 : Int) := (by first | exact of_decide_eq_true (by first | (with_reducible assumption) | assumption) | assumption | omega)
         have q107 : x5_1 < (l1.length : Int) := (by first | exact of_decide_eq_true (by first | (with_reducible assumption) | assumption) | assumption | omega)
         obtain ⟨ad107, e107, hx107_0, hx107_1⟩ := at_T36 HR1.out x5_1 p107 q107
         cases e107
         replace p107 := eq_true p107
         replace q107 := eq_true q107
         go_wp2
         repeat (go_quiet (fail); try go_wp2)
         go_roundg k1
         case measure => have := HK1.out; omega
         case rel => exact ⟨(wrap64 (x5_1 + 1)), (by first | rfl | (simp; done) | (simp [*]; done) | (simp; generalize ByteArray.toList _ = l_; cases l_ <;> rfl)), H', ⟨by have := HK1.out; omega⟩, by repeat (first | exact Drawn0.refl _ | apply Drawn0.step)⟩
       ·rw [if_neg c6] at H
        exact absurd H (by simp)
      ·rw [if_neg c5] at H
       exact absurd H (by simp)
     ·rw [if_neg c4] at H
      have c4b0 : decide (x5_1 < (l0.length : Int)) = false := decide_eq_false c4
      clear c4
      obtain rfl := Option.some.inj H
      go_wp2
      repeat (go_quiet (fail); try go_wp2)
      go_ret
      exact ⟨by first | rfl | (simp; done) | (simp [*]; done) | (simp; generalize ByteArray.toList _ = l_; cases l_ <;> rfl), by repeat (first | exact Drawn0.refl _ | apply Drawn0.step)⟩
 ·rw [if_neg c3] at H
  have c3b0 : ((l0.length : Int) == (l1.length : Int)) = false := beq_eq_false_iff_ne.mpr c3
  have c3b1 : ((l0.length : Int) != (l1.length : Int)) = true := bne_iff_ne.mpr c3
  have c3b2 : (l0.length == l1.length) = false := by first | simpa using c3 | (simp at c3 ⊢; omega)
  obtain rfl := Option.some.inj H
  go_enter Tryz.func71, Tryz.ntmps71
  go_wp2
  repeat (go_quiet (fail); try go_wp2)
  go_ret
  exact ⟨by first | rfl | (simp; done) | (simp [*]; done) | (simp; generalize ByteArray.toList _ = l_; cases l_ <;> rfl), by repeat (first | exact Drawn0.refl _ | apply Drawn0.step)⟩
end Go.Proofs.YtkcmghlhpbepcaaGreatDoorH.W7
