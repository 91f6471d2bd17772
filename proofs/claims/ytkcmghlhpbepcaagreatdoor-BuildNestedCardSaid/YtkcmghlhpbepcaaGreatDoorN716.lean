/- Lemmas and walks, part 16: QPW7x23. -/
import Derived.Test.YtkcmghlhpbepcaaGreatDoorN73
import Derived.Test.YtkcmghlhpbepcaaGreatDoorN710
import Derived.Test.YtkcmghlhpbepcaaGreatDoorN715
set_option linter.unusedVariables false
set_option linter.unusedSimpArgs false

/- Words and walks used below. -/
namespace Go.Proofs.YtkcmghlhpbepcaaGreatDoorH.W7
open Go.RowKit Go.Proofs.YtkcmghlhpbepcaaGreatDoorW.PrintWords Go.Proofs.YtkcmghlhpbepcaaGreatDoorW.PrintLast Go.Proofs.YtkcmghlhpbepcaaGreatDoorW.PrintMore
attribute [local go_sem] max2_int min2_int max_two min_two max_three min_three max_four min_four   -- for this text's walks alone
mutual
def boltingref05_Closes.j0 : Nat → ByteArray → Bool → Option (List ByteArray)
 | 0, _, _ => none
 | k + 1, x0, x8 => if x8 = true then (some (([x0] : List ByteArray))) else (if x0.toList = ([100, 100] : List UInt8) then (boltingref05_Closes.j1 k x0 true) else (boltingref05_Closes.j1 k x0 (x0.toList == ([100, 116] : List UInt8))))
def boltingref05_Closes.j1 : Nat → ByteArray → Bool → Option (List ByteArray)
 | 0, _, _ => none
 | k + 1, x0, x16 => if x16 = true then (some (([(⟨#[100, 100]⟩ : ByteArray), (⟨#[100, 116]⟩ : ByteArray)] : List ByteArray))) else (if x0.toList = ([111, 112, 116, 103, 114, 111, 117, 112] : List UInt8) then (some (([(⟨#[111, 112, 116, 103, 114, 111, 117, 112]⟩ : ByteArray), (⟨#[111, 112, 116, 105, 111, 110]⟩ : ByteArray)] : List ByteArray))) else (if x0.toList = ([116, 114] : List UInt8) then (some (([(⟨#[116, 100]⟩ : ByteArray), (⟨#[116, 104]⟩ : ByteArray), (⟨#[116, 114]⟩ : ByteArray)] : List ByteArray))) else (if x0.toList = ([116, 100] : List UInt8) then (boltingref05_Closes.j2 k x0 true) else (boltingref05_Closes.j2 k x0 (x0.toList == ([116, 104] : List UInt8))))))
def boltingref05_Closes.j2 : Nat → ByteArray → Bool → Option (List ByteArray)
 | 0, _, _ => none
 | k + 1, x0, x29 => if x29 = true then (some (([(⟨#[116, 100]⟩ : ByteArray), (⟨#[116, 104]⟩ : ByteArray)] : List ByteArray))) else ((boltingref05_Table.f).bind fun t252 => ((boltingref02_Has.f k t252 x0).bind fun t255 => (if t255 = true then ((boltingref05_Table.f).bind fun t256 => (some t256)) else ((boltingref05_Block.f).bind fun t259 => ((boltingref02_Has.f k t259 x0).bind fun t262 => (if t262 = true then (some (([(⟨#[112]⟩ : ByteArray)] : List ByteArray))) else (some (([] : List ByteArray)))))))))
end
def boltingref05_Closes.f (k : Nat) (a0 : ByteArray) : Option (List ByteArray) := if a0.toList = ([108, 105] : List UInt8) then (boltingref05_Closes.j0 k a0 true) else (boltingref05_Closes.j0 k a0 (a0.toList == ([111, 112, 116, 105, 111, 110] : List UInt8)))
set_option maxHeartbeats 8000000 in
set_option maxRecDepth 100000 in
theorem boltingref05_Closes.calls (k : Nat) (a0 : ByteArray) (r : List ByteArray) (w : World) (h : boltingref05_Closes.f k a0 = some r) :
 Calls Tryz.prog 107 #[.string a0] w fun e w' => ∃ v0_ : Value, e = .returned (v0_) ∧ Kd.R Kd.string 9 w' w.heap.size (fun _ => True) v0_ r ∧ Below w.heap.size w w' := by
 have HB := Aside0.mk (Below.refl w.heap.size w)
 have H : (if a0.toList = ([108, 105] : List UInt8) then (boltingref05_Closes.j0 k a0 true) else (boltingref05_Closes.j0 k a0 (a0.toList == ([111, 112, 116, 105, 111, 110] : List UInt8)))) = some r := h
 clear h
 have HC2 := Aside0.mk H
 clear H
 go_enter Tryz.func107, Tryz.ntmps107
 go_upto_region 1 with (fail)
 go_cut [8] (fun v8 wc => ∃ (kq : Nat) (x8_1 : Bool), v8 = .bool x8_1 ∧ Aside0 (boltingref05_Closes.j0 kq a0 x8_1 = some r) ∧ Aside0 (kq ≤ k) ∧ Aside0 (Below w.heap.size w wc))
 case first =>
  have H := HC2.out
  clear HC2
  by_cases c3 : a0.toList = ([108, 105] : List UInt8)
  ·rw [if_pos c3] at H
   have c3b0 : (a0.toList == ([108, 105] : List UInt8)) = true := beq_iff_eq.mpr c3
   have c3b1 : (a0.toList != ([108, 105] : List UInt8)) = false := bne_eq_false_iff_eq.mpr c3
   clear c3
   (first | rw [c3b0] | (simp only [i64_w, i32_w]; rw [c3b0]) | skip)
   have H' := Aside0.mk H
   clear H
   go_wp2
   go_meet
   case rel => exact ⟨_, (true), (by first | rfl | (simp; done) | (simp [*]; done) | (simp; generalize ByteArray.toList _ = l_; cases l_ <;> rfl)), H', ⟨by first | omega | exact Nat.le_refl _⟩, ⟨bz⟩⟩
  ·rw [if_neg c3] at H
   have c3b0 : (a0.toList == ([108, 105] : List UInt8)) = false := beq_eq_false_iff_ne.mpr c3
   have c3b1 : (a0.toList != ([108, 105] : List UInt8)) = true := bne_iff_ne.mpr c3
   (first | rw [c3b0] | (simp only [i64_w, i32_w]; rw [c3b0]) | skip)
   have H' := Aside0.mk H
   clear H
   go_wp2
   go_meet
   case rel => exact ⟨_, ((a0.toList == ([111, 112, 116, 105, 111, 110] : List UInt8))), (by first | rfl | (simp; done) | (simp [*]; done) | (simp; generalize ByteArray.toList _ = l_; cases l_ <;> rfl)), H', ⟨by first | omega | exact Nat.le_refl _⟩, ⟨bz⟩⟩
 case rest =>
  clear HC2
  try clear c1
  try clear p2
  try clear c3
  try clear c3b0
  try clear c3b1
  obtain ⟨kq, x8_1, rfl, HA, HJ1, HB⟩ := hcut
  cases kq with
  | zero => exact absurd HA.out (by simp [boltingref05_Closes.j0])
  | succ kj1 =>
    have H := HA.out
    clear HA
    simp only [boltingref05_Closes.j0] at H
    by_cases c4 : x8_1 = true
    ·subst c4
     have H1 : (some (([a0] : List ByteArray))) = some r := by rw [if_pos rfl] at H; exact H
     clear H
     have H := H1
     clear H1
     obtain ⟨y237, hy237⟩ : ∃ y_ : List ByteArray, y_ = (([a0] : List ByteArray)) := ⟨_, rfl⟩
     replace H : (some y237) = some r := by first | (rw [hy237]; with_reducible exact H) | (have H2_ := (Option.bind_some _ _).symm.trans H; rw [hy237]; with_reducible exact H2_) | (have H2_ := (Option.bind_some _ _).symm.trans H; with_reducible exact H2_) | with_reducible exact H | (rw [hy237]; exact H) | exact H
     have Ny237 := Aside0.mk hy237
     clear hy237
     obtain rfl := Option.some.inj H
     go_wp2_with (first | ((with_reducible refine gate_dst (N := 10) rfl ?_); refine Kd.R_lit Kd.string _ 9 ?hg (N := 10) ?hd (xs := ([a0] : List ByteArray)) (inner := [.string a0]) (ok := fun _ => True) (okp := fun _ => True) ?hr ?hp (fun _ hk => hk) trivial (Below.refl _ _) (Nat.le_refl _) (by simp) ?_; (case hd => rfl); (case hg => rfl); (case hr => first | (go_simp; done) | (go_simp; rfl)); (case hp => exact (Reps.one (show Kd.M Kd.string _ _ _ a0 [.string a0] from rfl) (Reps.none _ _))); intro v238 w5 ho6 hb hg_ hnew_; clear hg_ hnew_; (first | rw [← Ny237.out] at ho6 | (simp only [Int.reduceToNat] at ho6; rw [← Ny237.out] at ho6)); have n0_ := Aside0.mk (Kd.R_lower ho6 (below_size bz)); have n1_ := Aside0.mk (below_step bz hb); clear HB; have HO239 := n0_; have HB := n1_; clear n0_ n1_; clear hb ho6))
     go_ret
     exact ⟨_, by first | rfl | (simp [errW_none, errW_some] <;> rfl) | (simp [*, errW_none, errW_some] <;> rfl), by (with_reducible repeat (first | apply Kd.R_alloc | apply Kd.R_drewN | apply Kd.R_drew)); exact HO239.out, bz⟩
    ·replace c4 := Bool.eq_false_iff.mpr c4
     subst c4
     have H1 : (if a0.toList = ([100, 100] : List UInt8) then (boltingref05_Closes.j1 kj1 a0 true) else (boltingref05_Closes.j1 kj1 a0 (a0.toList == ([100, 116] : List UInt8)))) = some r := by rw [if_neg (show ¬ (false = true) by decide)] at H; first | exact H | (simp only [eq_self] at H ⊢; exact H) | (simp only [eq_self, if_true] at H ⊢; exact H)
     clear H
     have H := H1
     clear H1
     have HC7 := Aside0.mk H
     clear H
     go_upto_region 3 with (fail)
     go_cut [16] (fun v16 wc => ∃ (kq : Nat) (x16_6 : Bool), v16 = .bool x16_6 ∧ Aside0 (boltingref05_Closes.j1 kq a0 x16_6 = some r) ∧ Aside0 (kq ≤ kj1) ∧ Aside0 (Below w.heap.size w wc))
     case first =>
      have H := HC7.out
      clear HC7
      by_cases c8 : a0.toList = ([100, 100] : List UInt8)
      ·rw [if_pos c8] at H
       have c8b0 : (a0.toList == ([100, 100] : List UInt8)) = true := beq_iff_eq.mpr c8
       have c8b1 : (a0.toList != ([100, 100] : List UInt8)) = false := bne_eq_false_iff_eq.mpr c8
       clear c8
       (first | rw [c8b0] | (simp only [i64_w, i32_w]; rw [c8b0]) | skip)
       have H' := Aside0.mk H
       clear H
       go_wp2
       go_meet
       case rel => exact ⟨_, (true), (by first | rfl | (simp; done) | (simp [*]; done) | (simp; generalize ByteArray.toList _ = l_; cases l_ <;> rfl)), H', ⟨by have := HJ1.out; first | omega | exact Nat.le_refl _⟩, ⟨bz⟩⟩
      ·rw [if_neg c8] at H
       have c8b0 : (a0.toList == ([100, 100] : List UInt8)) = false := beq_eq_false_iff_ne.mpr c8
       have c8b1 : (a0.toList != ([100, 100] : List UInt8)) = true := bne_iff_ne.mpr c8
       (first | rw [c8b0] | (simp only [i64_w, i32_w]; rw [c8b0]) | skip)
       have H' := Aside0.mk H
       clear H
       go_wp2
       go_meet
       case rel => exact ⟨_, ((a0.toList == ([100, 116] : List UInt8))), (by first | rfl | (simp; done) | (simp [*]; done) | (simp; generalize ByteArray.toList _ = l_; cases l_ <;> rfl)), H', ⟨by have := HJ1.out; first | omega | exact Nat.le_refl _⟩, ⟨bz⟩⟩
     case rest =>
      clear HC7
      try clear c1
      try clear p2
      try clear c3
      try clear c3b0
      try clear c3b1
      try clear c4
      try clear c8
      try clear c8b0
      try clear c8b1
      try clear p2
      obtain ⟨kq, x16_6, rfl, HA, HJ6, HB⟩ := hcut
      cases kq with
      | zero => exact absurd HA.out (by simp [boltingref05_Closes.j1])
      | succ kj6 =>
        have H := HA.out
        clear HA
        simp only [boltingref05_Closes.j1] at H
        by_cases c9 : x16_6 = true
        ·subst c9
         have H1 : (some (([(⟨#[100, 100]⟩ : ByteArray), (⟨#[100, 116]⟩ : ByteArray)] : List ByteArray))) = some r := by rw [if_pos rfl] at H; exact H
         clear H
         have H := H1
         clear H1
         obtain ⟨y240, hy240⟩ : ∃ y_ : List ByteArray, y_ = (([(⟨#[100, 100]⟩ : ByteArray), (⟨#[100, 116]⟩ : ByteArray)] : List ByteArray)) := ⟨_, rfl⟩
         replace H : (some y240) = some r := by first | (rw [hy240]; with_reducible exact H) | (have H2_ := (Option.bind_some _ _).symm.trans H; rw [hy240]; with_reducible exact H2_) | (have H2_ := (Option.bind_some _ _).symm.trans H; with_reducible exact H2_) | with_reducible exact H | (rw [hy240]; exact H) | exact H
         have Ny240 := Aside0.mk hy240
         clear hy240
         obtain rfl := Option.some.inj H
         go_wp2_with (first | ((with_reducible refine gate_dst (N := 17) rfl ?_); refine Kd.R_lit Kd.string _ 9 ?hg (N := 17) ?hd (xs := ([(⟨#[100, 100]⟩ : ByteArray), (⟨#[100, 116]⟩ : ByteArray)] : List ByteArray)) (inner := [.string (⟨#[100, 100]⟩ : ByteArray), .string (⟨#[100, 116]⟩ : ByteArray)]) (ok := fun _ => True) (okp := fun _ => True) ?hr ?hp (fun _ hk => hk) trivial (Below.refl _ _) (Nat.le_refl _) (by simp) ?_; (case hd => rfl); (case hg => rfl); (case hr => first | (go_simp; done) | (go_simp; rfl)); (case hp => exact (Reps.one (show Kd.M Kd.string _ _ _ (⟨#[100, 100]⟩ : ByteArray) [.string (⟨#[100, 100]⟩ : ByteArray)] from rfl) (Reps.one (show Kd.M Kd.string _ _ _ (⟨#[100, 116]⟩ : ByteArray) [.string (⟨#[100, 116]⟩ : ByteArray)] from rfl) (Reps.none _ _)))); intro v241 w10 ho11 hb hg_ hnew_; clear hg_ hnew_; (first | rw [← Ny240.out] at ho11 | (simp only [Int.reduceToNat] at ho11; rw [← Ny240.out] at ho11)); have n0_ := Aside0.mk (Kd.R_lower ho11 (below_size bz)); have n1_ := Aside0.mk (below_step bz hb); clear HB; have HO242 := n0_; have HB := n1_; clear n0_ n1_; clear hb ho11))
         go_ret
         exact ⟨_, by first | rfl | (simp [errW_none, errW_some] <;> rfl) | (simp [*, errW_none, errW_some] <;> rfl), by (with_reducible repeat (first | apply Kd.R_alloc | apply Kd.R_drewN | apply Kd.R_drew)); exact HO242.out, bz⟩
        ·replace c9 := Bool.eq_false_iff.mpr c9
         subst c9
         have H1 : (if a0.toList = ([111, 112, 116, 103, 114, 111, 117, 112] : List UInt8) then (some (([(⟨#[111, 112, 116, 103, 114, 111, 117, 112]⟩ : ByteArray), (⟨#[111, 112, 116, 105, 111, 110]⟩ : ByteArray)] : List ByteArray))) else (if a0.toList = ([116, 114] : List UInt8) then (some (([(⟨#[116, 100]⟩ : ByteArray), (⟨#[116, 104]⟩ : ByteArray), (⟨#[116, 114]⟩ : ByteArray)] : List ByteArray))) else (if a0.toList = ([116, 100] : List UInt8) then (boltingref05_Closes.j2 kj6 a0 true) else (boltingref05_Closes.j2 kj6 a0 (a0.toList == ([116, 104] : List UInt8)))))) = some r := by rw [if_neg (show ¬ (false = true) by decide)] at H; first | exact H | (simp only [eq_self] at H ⊢; exact H) | (simp only [eq_self, if_true] at H ⊢; exact H)
         clear H
         have H := H1
         clear H1
         by_cases c12 : a0.toList = ([111, 112, 116, 103, 114, 111, 117, 112] : List UInt8)
         ·rw [if_pos c12] at H
          have c12b0 : (a0.toList == ([111, 112, 116, 103, 114, 111, 117, 112] : List UInt8)) = true := beq_iff_eq.mpr c12
          have c12b1 : (a0.toList != ([111, 112, 116, 103, 114, 111, 117, 112] : List UInt8)) = false := bne_eq_false_iff_eq.mpr c12
          clear c12
          obtain ⟨y243, hy243⟩ : ∃ y_ : List ByteArray, y_ = (([(⟨#[111, 112, 116, 103, 114, 111, 117, 112]⟩ : ByteArray), (⟨#[111, 112, 116, 105, 111, 110]⟩ : ByteArray)] : List ByteArray)) := ⟨_, rfl⟩
          replace H : (some y243) = some r := by first | (rw [hy243]; with_reducible exact H) | (have H2_ := (Option.bind_some _ _).symm.trans H; rw [hy243]; with_reducible exact H2_) | (have H2_ := (Option.bind_some _ _).symm.trans H; with_reducible exact H2_) | with_reducible exact H | (rw [hy243]; exact H) | exact H
          have Ny243 := Aside0.mk hy243
          clear hy243
          obtain rfl := Option.some.inj H
          go_wp2_with (first | ((with_reducible refine gate_dst (N := 20) rfl ?_); refine Kd.R_lit Kd.string _ 9 ?hg (N := 20) ?hd (xs := ([(⟨#[111, 112, 116, 103, 114, 111, 117, 112]⟩ : ByteArray), (⟨#[111, 112, 116, 105, 111, 110]⟩ : ByteArray)] : List ByteArray)) (inner := [.string (⟨#[111, 112, 116, 103, 114, 111, 117, 112]⟩ : ByteArray), .string (⟨#[111, 112, 116, 105, 111, 110]⟩ : ByteArray)]) (ok := fun _ => True) (okp := fun _ => True) ?hr ?hp (fun _ hk => hk) trivial (Below.refl _ _) (Nat.le_refl _) (by simp) ?_; (case hd => rfl); (case hg => rfl); (case hr => first | (go_simp; done) | (go_simp; rfl)); (case hp => exact (Reps.one (show Kd.M Kd.string _ _ _ (⟨#[111, 112, 116, 103, 114, 111, 117, 112]⟩ : ByteArray) [.string (⟨#[111, 112, 116, 103, 114, 111, 117, 112]⟩ : ByteArray)] from rfl) (Reps.one (show Kd.M Kd.string _ _ _ (⟨#[111, 112, 116, 105, 111, 110]⟩ : ByteArray) [.string (⟨#[111, 112, 116, 105, 111, 110]⟩ : ByteArray)] from rfl) (Reps.none _ _)))); intro v244 w13 ho14 hb hg_ hnew_; clear hg_ hnew_; (first | rw [← Ny243.out] at ho14 | (simp only [Int.reduceToNat] at ho14; rw [← Ny243.out] at ho14)); have n0_ := Aside0.mk (Kd.R_lower ho14 (below_size bz)); have n1_ := Aside0.mk (below_step bz hb); clear HB; have HO245 := n0_; have HB := n1_; clear n0_ n1_; clear hb ho14))
          go_ret
          exact ⟨_, by first | rfl | (simp [errW_none, errW_some] <;> rfl) | (simp [*, errW_none, errW_some] <;> rfl), by (with_reducible repeat (first | apply Kd.R_alloc | apply Kd.R_drewN | apply Kd.R_drew)); exact HO245.out, bz⟩
         ·rw [if_neg c12] at H
          have c12b0 : (a0.toList == ([111, 112, 116, 103, 114, 111, 117, 112] : List UInt8)) = false := beq_eq_false_iff_ne.mpr c12
          have c12b1 : (a0.toList != ([111, 112, 116, 103, 114, 111, 117, 112] : List UInt8)) = true := bne_iff_ne.mpr c12
          by_cases c15 : a0.toList = ([116, 114] : List UInt8)
          ·rw [if_pos c15] at H
           have c15b0 : (a0.toList == ([116, 114] : List UInt8)) = true := beq_iff_eq.mpr c15
           have c15b1 : (a0.toList != ([116, 114] : List UInt8)) = false := bne_eq_false_iff_eq.mpr c15
           clear c15
           obtain ⟨y246, hy246⟩ : ∃ y_ : List ByteArray, y_ = (([(⟨#[116, 100]⟩ : ByteArray), (⟨#[116, 104]⟩ : ByteArray), (⟨#[116, 114]⟩ : ByteArray)] : List ByteArray)) := ⟨_, rfl⟩
           replace H : (some y246) = some r := by first | (rw [hy246]; with_reducible exact H) | (have H2_ := (Option.bind_some _ _).symm.trans H; rw [hy246]; with_reducible exact H2_) | (have H2_ := (Option.bind_some _ _).symm.trans H; with_reducible exact H2_) | with_reducible exact H | (rw [hy246]; exact H) | exact H
           have Ny246 := Aside0.mk hy246
           clear hy246
           obtain rfl := Option.some.inj H
           go_wp2_with (first | ((with_reducible refine gate_dst (N := 23) rfl ?_); refine Kd.R_lit Kd.string _ 9 ?hg (N := 23) ?hd (xs := ([(⟨#[116, 100]⟩ : ByteArray), (⟨#[116, 104]⟩ : ByteArray), (⟨#[116, 114]⟩ : ByteArray)] : List ByteArray)) (inner := [.string (⟨#[116, 100]⟩ : ByteArray), .string (⟨#[116, 104]⟩ : ByteArray), .string (⟨#[116, 114]⟩ : ByteArray)]) (ok := fun _ => True) (okp := fun _ => True) ?hr ?hp (fun _ hk => hk) trivial (Below.refl _ _) (Nat.le_refl _) (by simp) ?_; (case hd => rfl); (case hg => rfl); (case hr => first | (go_simp; done) | (go_simp; rfl)); (case hp => exact (Reps.one (show Kd.M Kd.string _ _ _ (⟨#[116, 100]⟩ : ByteArray) [.string (⟨#[116, 100]⟩ : ByteArray)] from rfl) (Reps.one (show Kd.M Kd.string _ _ _ (⟨#[116, 104]⟩ : ByteArray) [.string (⟨#[116, 104]⟩ : ByteArray)] from rfl) (Reps.one (show Kd.M Kd.string _ _ _ (⟨#[116, 114]⟩ : ByteArray) [.string (⟨#[116, 114]⟩ : ByteArray)] from rfl) (Reps.none _ _))))); intro v247 w16 ho17 hb hg_ hnew_; clear hg_ hnew_; (first | rw [← Ny246.out] at ho17 | (simp only [Int.reduceToNat] at ho17; rw [← Ny246.out] at ho17)); have n0_ := Aside0.mk (Kd.R_lower ho17 (below_size bz)); have n1_ := Aside0.mk (below_step bz hb); clear HB; have HO248 := n0_; have HB := n1_; clear n0_ n1_; clear hb ho17))
           go_ret
           exact ⟨_, by first | rfl | (simp [errW_none, errW_some] <;> rfl) | (simp [*, errW_none, errW_some] <;> rfl), by (with_reducible repeat (first | apply Kd.R_alloc | apply Kd.R_drewN | apply Kd.R_drew)); exact HO248.out, bz⟩
          ·rw [if_neg c15] at H
           have c15b0 : (a0.toList == ([116, 114] : List UInt8)) = false := beq_eq_false_iff_ne.mpr c15
           have c15b1 : (a0.toList != ([116, 114] : List UInt8)) = true := bne_iff_ne.mpr c15
           have HC18 := Aside0.mk H
           clear H
           go_upto_region 9 with (fail)
           go_cut [29] (fun v29 wc => ∃ (kq : Nat) (x29_17 : Bool), v29 = .bool x29_17 ∧ Aside0 (boltingref05_Closes.j2 kq a0 x29_17 = some r) ∧ Aside0 (kq ≤ kj6) ∧ Aside0 (Below w.heap.size w wc))
           case first =>
            have H := HC18.out
            clear HC18
            by_cases c19 : a0.toList = ([116, 100] : List UInt8)
            ·rw [if_pos c19] at H
             have c19b0 : (a0.toList == ([116, 100] : List UInt8)) = true := beq_iff_eq.mpr c19
             have c19b1 : (a0.toList != ([116, 100] : List UInt8)) = false := bne_eq_false_iff_eq.mpr c19
             clear c19
             (first | rw [c19b0] | (simp only [i64_w, i32_w]; rw [c19b0]) | skip)
             have H' := Aside0.mk H
             clear H
             go_wp2
             go_meet
             case rel => exact ⟨_, (true), (by first | rfl | (simp; done) | (simp [*]; done) | (simp; generalize ByteArray.toList _ = l_; cases l_ <;> rfl)), H', ⟨by have := HJ1.out; have := HJ6.out; first | omega | exact Nat.le_refl _⟩, ⟨bz⟩⟩
            ·rw [if_neg c19] at H
             have c19b0 : (a0.toList == ([116, 100] : List UInt8)) = false := beq_eq_false_iff_ne.mpr c19
             have c19b1 : (a0.toList != ([116, 100] : List UInt8)) = true := bne_iff_ne.mpr c19
             (first | rw [c19b0] | (simp only [i64_w, i32_w]; rw [c19b0]) | skip)
             have H' := Aside0.mk H
             clear H
             go_wp2
             go_meet
             case rel => exact ⟨_, ((a0.toList == ([116, 104] : List UInt8))), (by first | rfl | (simp; done) | (simp [*]; done) | (simp; generalize ByteArray.toList _ = l_; cases l_ <;> rfl)), H', ⟨by have := HJ1.out; have := HJ6.out; first | omega | exact Nat.le_refl _⟩, ⟨bz⟩⟩
           case rest =>
            clear HC18
            try clear c1
            try clear p2
            try clear c3
            try clear c3b0
            try clear c3b1
            try clear c4
            try clear c8
            try clear c8b0
            try clear c8b1
            try clear c9
            try clear c10
            try clear c12
            try clear c12b0
            try clear c12b1
            try clear c15
            try clear c15b0
            try clear c15b1
            try clear c19
            try clear c19b0
            try clear c19b1
            try clear p2
            obtain ⟨kq, x29_17, rfl, HA, HJ17, HB⟩ := hcut
            cases kq with
            | zero => exact absurd HA.out (by simp [boltingref05_Closes.j2])
            | succ kj17 =>
              have H := HA.out
              clear HA
              simp only [boltingref05_Closes.j2] at H
              by_cases c20 : x29_17 = true
              ·subst c20
               have H1 : (some (([(⟨#[116, 100]⟩ : ByteArray), (⟨#[116, 104]⟩ : ByteArray)] : List ByteArray))) = some r := by rw [if_pos rfl] at H; exact H
               clear H
               have H := H1
               clear H1
               obtain ⟨y249, hy249⟩ : ∃ y_ : List ByteArray, y_ = (([(⟨#[116, 100]⟩ : ByteArray), (⟨#[116, 104]⟩ : ByteArray)] : List ByteArray)) := ⟨_, rfl⟩
               replace H : (some y249) = some r := by first | (rw [hy249]; with_reducible exact H) | (have H2_ := (Option.bind_some _ _).symm.trans H; rw [hy249]; with_reducible exact H2_) | (have H2_ := (Option.bind_some _ _).symm.trans H; with_reducible exact H2_) | with_reducible exact H | (rw [hy249]; exact H) | exact H
               have Ny249 := Aside0.mk hy249
               clear hy249
               obtain rfl := Option.some.inj H
               go_wp2_with (first | ((with_reducible refine gate_dst (N := 30) rfl ?_); refine Kd.R_lit Kd.string _ 9 ?hg (N := 30) ?hd (xs := ([(⟨#[116, 100]⟩ : ByteArray), (⟨#[116, 104]⟩ : ByteArray)] : List ByteArray)) (inner := [.string (⟨#[116, 100]⟩ : ByteArray), .string (⟨#[116, 104]⟩ : ByteArray)]) (ok := fun _ => True) (okp := fun _ => True) ?hr ?hp (fun _ hk => hk) trivial (Below.refl _ _) (Nat.le_refl _) (by simp) ?_; (case hd => rfl); (case hg => rfl); (case hr => first | (go_simp; done) | (go_simp; rfl)); (case hp => exact (Reps.one (show Kd.M Kd.string _ _ _ (⟨#[116, 100]⟩ : ByteArray) [.string (⟨#[116, 100]⟩ : ByteArray)] from rfl) (Reps.one (show Kd.M Kd.string _ _ _ (⟨#[116, 104]⟩ : ByteArray) [.string (⟨#[116, 104]⟩ : ByteArray)] from rfl) (Reps.none _ _)))); intro v250 w21 ho22 hb hg_ hnew_; clear hg_ hnew_; (first | rw [← Ny249.out] at ho22 | (simp only [Int.reduceToNat] at ho22; rw [← Ny249.out] at ho22)); have n0_ := Aside0.mk (Kd.R_lower ho22 (below_size bz)); have n1_ := Aside0.mk (below_step bz hb); clear HB; have HO251 := n0_; have HB := n1_; clear n0_ n1_; clear hb ho22))
               go_ret
               exact ⟨_, by first | rfl | (simp [errW_none, errW_some] <;> rfl) | (simp [*, errW_none, errW_some] <;> rfl), by (with_reducible repeat (first | apply Kd.R_alloc | apply Kd.R_drewN | apply Kd.R_drew)); exact HO251.out, bz⟩
              ·replace c20 := Bool.eq_false_iff.mpr c20
               subst c20
               have H1 : ((boltingref05_Table.f).bind fun t252 => ((boltingref02_Has.f kj17 t252 a0).bind fun t255 => (if t255 = true then ((boltingref05_Table.f).bind fun t256 => (some t256)) else ((boltingref05_Block.f).bind fun t259 => ((boltingref02_Has.f kj17 t259 a0).bind fun t262 => (if t262 = true then (some (([(⟨#[112]⟩ : ByteArray)] : List ByteArray))) else (some (([] : List ByteArray))))))))) = some r := by rw [if_neg (show ¬ (false = true) by decide)] at H; first | exact H | (simp only [eq_self] at H ⊢; exact H) | (simp only [eq_self, if_true] at H ⊢; exact H)
               clear H
               have H := H1
               clear H1
               replace H := Option.bind_eq_some_iff.mp H
               obtain ⟨t252, A230, H⟩ := H
               replace H : ((boltingref02_Has.f kj17 t252 a0).bind fun t255 => (if t255 = true then ((boltingref05_Table.f).bind fun t256 => (some t256)) else ((boltingref05_Block.f).bind fun t259 => ((boltingref02_Has.f kj17 t259 a0).bind fun t262 => (if t262 = true then (some (([(⟨#[112]⟩ : ByteArray)] : List ByteArray))) else (some (([] : List ByteArray)))))))) = some r := H
               have A23 := Aside0.mk A230
               clear A230
               replace H := Option.bind_eq_some_iff.mp H
               obtain ⟨t255, A240, H⟩ := H
               replace H : (if t255 = true then ((boltingref05_Table.f).bind fun t256 => (some t256)) else ((boltingref05_Block.f).bind fun t259 => ((boltingref02_Has.f kj17 t259 a0).bind fun t262 => (if t262 = true then (some (([(⟨#[112]⟩ : ByteArray)] : List ByteArray))) else (some (([] : List ByteArray))))))) = some r := H
               have A24 := Aside0.mk A240
               clear A240
               by_cases c25 : t255 = true
               ·subst c25
                have H1 : ((boltingref05_Table.f).bind fun t256 => (some t256)) = some r := by rw [if_pos rfl] at H; exact H
                clear H
                have H := H1
                clear H1
                replace H := Option.bind_eq_some_iff.mp H
                obtain ⟨t256, A260, H⟩ := H
                replace H : (some t256) = some r := H
                have A26 := Aside0.mk A260
                clear A260
                obtain rfl := Option.some.inj H
                go_wp2_with (first | ((with_reducible refine gate_callee (f := 110) rfl ?_); refine goesL_ (some 31) rfl rfl Tryz.func110 (by kernel_rfl) rfl #[] rfl (by (try simp only [List.map_toArray, List.map_cons, List.map_nil]); first | done | rfl | (simp only [List.length_drop, List.length_take]; rfl)) ?_; (with_reducible refine (boltingref05_Table.calls  t252 _ A23.out).mono ?_); rintro e w27 ⟨v253, rfl, ho0, hb⟩; refine ⟨_, rfl, ?_⟩; have n0_ := Aside0.mk (Kd.R_lower ho0 (below_size bz)); have n1_ := Aside0.mk (below_step bz hb); clear HB; have HO254 := n0_; have HB := n1_; clear n0_ n1_; (try clear hb); (try clear hb2); (try clear hk); (try clear hi); (try clear ho0); obtain ⟨Ao28, co28, eo28⟩ := Kd.R_slice HO254.out; subst eo28) | ((with_reducible refine gate_callee (f := 57) rfl ?_); refine goesL_ (some 33) rfl rfl Tryz.func57 (by kernel_rfl) rfl #[.slice Ao28 t252.length co28, .string a0] rfl (by (try simp only [List.map_toArray, List.map_cons, List.map_nil]); first | done | rfl | (simp only [List.length_drop, List.length_take]; rfl)) ?_; (with_reducible refine (boltingref02_Has.calls kj17 _ _ t252 a0 true _ ?side1 ?side2 A24.out).mono ?_); (case side1 => exact cz (Kd.R_reads' HO254.out).2.2); (case side2 => exact (Kd.R_reads' HO254.out).2.1); rintro e w' ⟨rfl, ⟨nd, rfl⟩⟩; refine ⟨_, rfl, ?_⟩) | ((with_reducible refine gate_callee (f := 110) rfl ?_); refine goesL_ (some 34) rfl rfl Tryz.func110 (by kernel_rfl) rfl #[] rfl (by (try simp only [List.map_toArray, List.map_cons, List.map_nil]); first | done | rfl | (simp only [List.length_drop, List.length_take]; rfl)) ?_; (with_reducible refine (boltingref05_Table.calls  t256 _ A26.out).mono ?_); rintro e w29 ⟨v257, rfl, ho0, hb⟩; refine ⟨_, rfl, ?_⟩; have n0_ := Aside0.mk (Kd.R_elder' (rz HO254.out) (Kd.R_base ho0) hb); have n1_ := Aside0.mk (Kd.R_lower (Kd.R_new' ho0 (Kd.R_lt (rz HO254.out))) (below_size bz)); have n2_ := Aside0.mk (below_step bz hb); clear HO254; clear HB; have HO254 := n0_; have HO258 := n1_; have HB := n2_; clear n0_ n1_ n2_; (try clear hb); (try clear hb2); (try clear hk); (try clear hi); (try clear ho0)))
                go_ret
                exact ⟨_, by first | rfl | (simp [errW_none, errW_some] <;> rfl) | (simp [*, errW_none, errW_some] <;> rfl), by (with_reducible repeat (first | apply Kd.R_alloc | apply Kd.R_drewN | apply Kd.R_drew)); exact Kd.R_mono HO258.out (fun _ hk => trivial), bz⟩
               ·replace c25 := Bool.eq_false_iff.mpr c25
                subst c25
                have H1 : ((boltingref05_Block.f).bind fun t259 => ((boltingref02_Has.f kj17 t259 a0).bind fun t262 => (if t262 = true then (some (([(⟨#[112]⟩ : ByteArray)] : List ByteArray))) else (some (([] : List ByteArray)))))) = some r := by rw [if_neg (show ¬ (false = true) by decide)] at H; first | exact H | (simp only [eq_self] at H ⊢; exact H) | (simp only [eq_self, if_true] at H ⊢; exact H)
                clear H
                have H := H1
                clear H1
                replace H := Option.bind_eq_some_iff.mp H
                obtain ⟨t259, A300, H⟩ := H
                replace H : ((boltingref02_Has.f kj17 t259 a0).bind fun t262 => (if t262 = true then (some (([(⟨#[112]⟩ : ByteArray)] : List ByteArray))) else (some (([] : List ByteArray))))) = some r := H
                have A30 := Aside0.mk A300
                clear A300
                replace H := Option.bind_eq_some_iff.mp H
                obtain ⟨t262, A310, H⟩ := H
                replace H : (if t262 = true then (some (([(⟨#[112]⟩ : ByteArray)] : List ByteArray))) else (some (([] : List ByteArray)))) = some r := H
                have A31 := Aside0.mk A310
                clear A310
                by_cases c32 : t262 = true
                ·subst c32
                 have H1 : (some (([(⟨#[112]⟩ : ByteArray)] : List ByteArray))) = some r := by rw [if_pos rfl] at H; exact H
                 clear H
                 have H := H1
                 clear H1
                 obtain ⟨y263, hy263⟩ : ∃ y_ : List ByteArray, y_ = (([(⟨#[112]⟩ : ByteArray)] : List ByteArray)) := ⟨_, rfl⟩
                 replace H : (some y263) = some r := by first | (rw [hy263]; with_reducible exact H) | (have H2_ := (Option.bind_some _ _).symm.trans H; rw [hy263]; with_reducible exact H2_) | (have H2_ := (Option.bind_some _ _).symm.trans H; with_reducible exact H2_) | with_reducible exact H | (rw [hy263]; exact H) | exact H
                 have Ny263 := Aside0.mk hy263
                 clear hy263
                 obtain rfl := Option.some.inj H
                 go_wp2_with (first | ((with_reducible refine gate_callee (f := 110) rfl ?_); refine goesL_ (some 31) rfl rfl Tryz.func110 (by kernel_rfl) rfl #[] rfl (by (try simp only [List.map_toArray, List.map_cons, List.map_nil]); first | done | rfl | (simp only [List.length_drop, List.length_take]; rfl)) ?_; (with_reducible refine (boltingref05_Table.calls  t252 _ A23.out).mono ?_); rintro e w33 ⟨v253, rfl, ho0, hb⟩; refine ⟨_, rfl, ?_⟩; have n0_ := Aside0.mk (Kd.R_lower ho0 (below_size bz)); have n1_ := Aside0.mk (below_step bz hb); clear HB; have HO254 := n0_; have HB := n1_; clear n0_ n1_; (try clear hb); (try clear hb2); (try clear hk); (try clear hi); (try clear ho0); obtain ⟨Ao34, co34, eo34⟩ := Kd.R_slice HO254.out; subst eo34) | ((with_reducible refine gate_callee (f := 57) rfl ?_); refine goesL_ (some 33) rfl rfl Tryz.func57 (by kernel_rfl) rfl #[.slice Ao34 t252.length co34, .string a0] rfl (by (try simp only [List.map_toArray, List.map_cons, List.map_nil]); first | done | rfl | (simp only [List.length_drop, List.length_take]; rfl)) ?_; (with_reducible refine (boltingref02_Has.calls kj17 _ _ t252 a0 false _ ?side1 ?side2 A24.out).mono ?_); (case side1 => exact cz (Kd.R_reads' HO254.out).2.2); (case side2 => exact (Kd.R_reads' HO254.out).2.1); rintro e w' ⟨rfl, ⟨nd, rfl⟩⟩; refine ⟨_, rfl, ?_⟩) | ((with_reducible refine gate_callee (f := 149) rfl ?_); refine goesL_ (some 35) rfl rfl Tryz.func149 (by kernel_rfl) rfl #[] rfl (by (try simp only [List.map_toArray, List.map_cons, List.map_nil]); first | done | rfl | (simp only [List.length_drop, List.length_take]; rfl)) ?_; (with_reducible refine (boltingref05_Block.calls  t259 _ A30.out).mono ?_); rintro e w35 ⟨v260, rfl, ho0, hb⟩; refine ⟨_, rfl, ?_⟩; have n0_ := Aside0.mk (Kd.R_elder' (rz HO254.out) (Kd.R_base ho0) hb); have n1_ := Aside0.mk (Kd.R_lower (Kd.R_new' ho0 (Kd.R_lt (rz HO254.out))) (below_size bz)); have n2_ := Aside0.mk (below_step bz hb); clear HO254; clear HB; have HO254 := n0_; have HO261 := n1_; have HB := n2_; clear n0_ n1_ n2_; (try clear hb); (try clear hb2); (try clear hk); (try clear hi); (try clear ho0); obtain ⟨Ao36, co36, eo36⟩ := Kd.R_slice HO261.out; subst eo36) | ((with_reducible refine gate_callee (f := 57) rfl ?_); refine goesL_ (some 37) rfl rfl Tryz.func57 (by kernel_rfl) rfl #[.slice Ao36 t259.length co36, .string a0] rfl (by (try simp only [List.map_toArray, List.map_cons, List.map_nil]); first | done | rfl | (simp only [List.length_drop, List.length_take]; rfl)) ?_; (with_reducible refine (boltingref02_Has.calls kj17 _ _ t259 a0 true _ ?side1 ?side2 A31.out).mono ?_); (case side1 => exact cz (Kd.R_reads' HO261.out).2.2); (case side2 => exact (Kd.R_reads' HO261.out).2.1); rintro e w' ⟨rfl, ⟨nd, rfl⟩⟩; refine ⟨_, rfl, ?_⟩) | ((with_reducible refine gate_dst (N := 38) rfl ?_); refine Kd.R_lit Kd.string _ 9 ?hg (N := 38) ?hd (xs := ([(⟨#[112]⟩ : ByteArray)] : List ByteArray)) (inner := [.string (⟨#[112]⟩ : ByteArray)]) (ok := fun _ => True) (okp := fun _ => True) ?hr ?hp (fun _ hk => hk) trivial (Below.refl _ _) (Nat.le_refl _) (by simp) ?_; (case hd => rfl); (case hg => rfl); (case hr => first | (go_simp; done) | (go_simp; rfl)); (case hp => exact (Reps.one (show Kd.M Kd.string _ _ _ (⟨#[112]⟩ : ByteArray) [.string (⟨#[112]⟩ : ByteArray)] from rfl) (Reps.none _ _))); intro v264 w37 ho38 hb hg_ hnew_; clear hg_ hnew_; (first | rw [← Ny263.out] at ho38 | (simp only [Int.reduceToNat] at ho38; rw [← Ny263.out] at ho38)); have n0_ := Aside0.mk (Kd.R_elder' (rz HO254.out) (Kd.R_base ho38) hb); have n1_ := Aside0.mk (Kd.R_elder' (rz HO261.out) (Kd.R_base ho38) hb); have n2_ := Aside0.mk (Kd.R_lower (Kd.R_new' (Kd.R_new' ho38 (Kd.R_lt (rz HO254.out))) (Kd.R_lt (rz HO261.out))) (below_size bz)); have n3_ := Aside0.mk (below_step bz hb); clear HO254; clear HO261; clear HB; have HO254 := n0_; have HO261 := n1_; have HO265 := n2_; have HB := n3_; clear n0_ n1_ n2_ n3_; clear hb ho38))
                 go_ret
                 exact ⟨_, by first | rfl | (simp [errW_none, errW_some] <;> rfl) | (simp [*, errW_none, errW_some] <;> rfl), by (with_reducible repeat (first | apply Kd.R_alloc | apply Kd.R_drewN | apply Kd.R_drew)); exact Kd.R_mono HO265.out (fun _ hk => trivial), bz⟩
                ·replace c32 := Bool.eq_false_iff.mpr c32
                 subst c32
                 have H1 : (some (([] : List ByteArray))) = some r := by rw [if_neg (show ¬ (false = true) by decide)] at H; first | exact H | (simp only [eq_self] at H ⊢; exact H) | (simp only [eq_self, if_true] at H ⊢; exact H)
                 clear H
                 have H := H1
                 clear H1
                 obtain ⟨y266, hy266⟩ : ∃ y_ : List ByteArray, y_ = (([] : List ByteArray)) := ⟨_, rfl⟩
                 replace H : (some y266) = some r := by first | (rw [hy266]; with_reducible exact H) | (have H2_ := (Option.bind_some _ _).symm.trans H; rw [hy266]; with_reducible exact H2_) | (have H2_ := (Option.bind_some _ _).symm.trans H; with_reducible exact H2_) | with_reducible exact H | (rw [hy266]; exact H) | exact H
                 have Ny266 := Aside0.mk hy266
                 clear hy266
                 obtain rfl := Option.some.inj H
                 go_wp2_with (first | ((with_reducible refine gate_callee (f := 110) rfl ?_); refine goesL_ (some 31) rfl rfl Tryz.func110 (by kernel_rfl) rfl #[] rfl (by (try simp only [List.map_toArray, List.map_cons, List.map_nil]); first | done | rfl | (simp only [List.length_drop, List.length_take]; rfl)) ?_; (with_reducible refine (boltingref05_Table.calls  t252 _ A23.out).mono ?_); rintro e w39 ⟨v253, rfl, ho0, hb⟩; refine ⟨_, rfl, ?_⟩; have n0_ := Aside0.mk (Kd.R_lower ho0 (below_size bz)); have n1_ := Aside0.mk (below_step bz hb); clear HB; have HO254 := n0_; have HB := n1_; clear n0_ n1_; (try clear hb); (try clear hb2); (try clear hk); (try clear hi); (try clear ho0); obtain ⟨Ao40, co40, eo40⟩ := Kd.R_slice HO254.out; subst eo40) | ((with_reducible refine gate_callee (f := 57) rfl ?_); refine goesL_ (some 33) rfl rfl Tryz.func57 (by kernel_rfl) rfl #[.slice Ao40 t252.length co40, .string a0] rfl (by (try simp only [List.map_toArray, List.map_cons, List.map_nil]); first | done | rfl | (simp only [List.length_drop, List.length_take]; rfl)) ?_; (with_reducible refine (boltingref02_Has.calls kj17 _ _ t252 a0 false _ ?side1 ?side2 A24.out).mono ?_); (case side1 => exact cz (Kd.R_reads' HO254.out).2.2); (case side2 => exact (Kd.R_reads' HO254.out).2.1); rintro e w' ⟨rfl, ⟨nd, rfl⟩⟩; refine ⟨_, rfl, ?_⟩) | ((with_reducible refine gate_callee (f := 149) rfl ?_); refine goesL_ (some 35) rfl rfl Tryz.func149 (by kernel_rfl) rfl #[] rfl (by (try simp only [List.map_toArray, List.map_cons, List.map_nil]); first | done | rfl | (simp only [List.length_drop, List.length_take]; rfl)) ?_; (with_reducible refine (boltingref05_Block.calls  t259 _ A30.out).mono ?_); rintro e w41 ⟨v260, rfl, ho0, hb⟩; refine ⟨_, rfl, ?_⟩; have n0_ := Aside0.mk (Kd.R_elder' (rz HO254.out) (Kd.R_base ho0) hb); have n1_ := Aside0.mk (Kd.R_lower (Kd.R_new' ho0 (Kd.R_lt (rz HO254.out))) (below_size bz)); have n2_ := Aside0.mk (below_step bz hb); clear HO254; clear HB; have HO254 := n0_; have HO261 := n1_; have HB := n2_; clear n0_ n1_ n2_; (try clear hb); (try clear hb2); (try clear hk); (try clear hi); (try clear ho0); obtain ⟨Ao42, co42, eo42⟩ := Kd.R_slice HO261.out; subst eo42) | ((with_reducible refine gate_callee (f := 57) rfl ?_); refine goesL_ (some 37) rfl rfl Tryz.func57 (by kernel_rfl) rfl #[.slice Ao42 t259.length co42, .string a0] rfl (by (try simp only [List.map_toArray, List.map_cons, List.map_nil]); first | done | rfl | (simp only [List.length_drop, List.length_take]; rfl)) ?_; (with_reducible refine (boltingref02_Has.calls kj17 _ _ t259 a0 false _ ?side1 ?side2 A31.out).mono ?_); (case side1 => exact cz (Kd.R_reads' HO261.out).2.2); (case side2 => exact (Kd.R_reads' HO261.out).2.1); rintro e w' ⟨rfl, ⟨nd, rfl⟩⟩; refine ⟨_, rfl, ?_⟩) | ((with_reducible refine gate_dst (N := 39) rfl ?_); refine Kd.R_lit Kd.string _ 9 ?hg (N := 39) ?hd (xs := ([] : List ByteArray)) (inner := []) (ok := fun _ => True) (okp := fun _ => True) ?hr ?hp (fun _ hk => hk) trivial (Below.refl _ _) (Nat.le_refl _) (by simp) ?_; (case hd => rfl); (case hg => rfl); (case hr => first | (go_simp; done) | (go_simp; rfl)); (case hp => exact (Reps.none _ _)); intro v267 w43 ho44 hb hg_ hnew_; clear hg_ hnew_; (first | rw [← Ny266.out] at ho44 | (simp only [Int.reduceToNat] at ho44; rw [← Ny266.out] at ho44)); have n0_ := Aside0.mk (Kd.R_elder' (rz HO254.out) (Kd.R_base ho44) hb); have n1_ := Aside0.mk (Kd.R_elder' (rz HO261.out) (Kd.R_base ho44) hb); have n2_ := Aside0.mk (Kd.R_lower (Kd.R_new' (Kd.R_new' ho44 (Kd.R_lt (rz HO254.out))) (Kd.R_lt (rz HO261.out))) (below_size bz)); have n3_ := Aside0.mk (below_step bz hb); clear HO254; clear HO261; clear HB; have HO254 := n0_; have HO261 := n1_; have HO268 := n2_; have HB := n3_; clear n0_ n1_ n2_ n3_; clear hb ho44))
                 go_ret
                 exact ⟨_, by first | rfl | (simp [errW_none, errW_some] <;> rfl) | (simp [*, errW_none, errW_some] <;> rfl), by (with_reducible repeat (first | apply Kd.R_alloc | apply Kd.R_drewN | apply Kd.R_drew)); exact Kd.R_mono HO268.out (fun _ hk => trivial), bz⟩
end Go.Proofs.YtkcmghlhpbepcaaGreatDoorH.W7
