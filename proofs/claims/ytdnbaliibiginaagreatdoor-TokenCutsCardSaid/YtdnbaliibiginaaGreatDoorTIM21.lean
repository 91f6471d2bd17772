/- Lemmas and walks, part 21: ETJ, PTIx6. -/
import Derived.Test.YtdnbaliibiginaaGreatDoorTIM20
import Derived.Test.YtdnbaliibiginaaGreatDoorTIM13
import Derived.Test.YtdnbaliibiginaaGreatDoorTIM1
set_option linter.unusedVariables false
set_option linter.unusedSimpArgs false

/- The document's In and Same, given to the printed walks. -/
namespace Go.Proofs.YtdnbaliibiginaaGreatDoorH.TI
open Go.RowKit Go.Proofs Go.Proofs.YtdnbaliibiginaaGreatDoor Go.Proofs.YtdnbaliibiginaaGreatDoorW.PrintWords

def boltingref06_In.f (a0 a1 : ByteArray) : Option (List S59) := if a0.size ≤ 900000000 then some ((inL a0.data.toList a1.data.toList).map tokT) else none
theorem boltingref06_In.calls (a0 a1 : ByteArray) (r : List S59) (w : World) (h : boltingref06_In.f a0 a1 = some r) :
    Calls Tryz.prog 10 #[.string a0, .string a1] w fun e w' => ∃ v0_ : Value, e = .returned v0_ ∧ Kd.R k59 59 w' w.heap.size (fun _ => True) v0_ r ∧ Below w.heap.size w w' := by
  unfold boltingref06_In.f at h
  split at h
  · rename_i hz
    obtain rfl := Option.some.inj h
    have := rin_c a0.data.toList a1.data.toList hz w
    rw [mk_toList, mk_toList] at this
    exact this.mono fun e w' ⟨v, h1, h2, h3⟩ => ⟨v, h1, R_of_toks h2, h3⟩
  · cases h
def boltingref06_Same.f (l0 l1 : List S59) : Option Bool := if l0.map tokS = l1.map tokS ∧ ∀ t ∈ l0.map tokS, t.attrs.length ≤ 9223372036854775807 then some true else none
theorem boltingref06_Same.calls (A0 : Option Addr) (c0 : Nat) (l0 : List S59) (A1 : Option Addr) (c1 : Nat) (l1 : List S59) (r : Bool) (w : World) (hr0 : Kd.C k59 w A0 l0.length l0) (hc0 : l0.length ≤ c0) (hr1 : Kd.C k59 w A1 l1.length l1) (hc1 : l1.length ≤ c1) (h : boltingref06_Same.f l0 l1 = some r) :
    Calls Tryz.prog 12 #[.slice A0 l0.length c0, .slice A1 l1.length c1] w fun e w' => e = .returned (.bool r) ∧ Below w.heap.size w w' := by
  have hl := hr0.2.1
  unfold boltingref06_Same.f at h
  split at h
  · rename_i hz
    obtain rfl := Option.some.inj h
    have h0 := rdT_of (c := c0) hr0
    have h1 := rdT_of (c := c1) hr1
    rw [← hz.1] at h1
    exact same_c _ _ (l0.map tokS) (by rw [List.length_map]; exact hl) hz.2 w h0 h1
  · cases h
end Go.Proofs.YtdnbaliibiginaaGreatDoorH.TI

-- Walks of Go functions by a program (wip/hook/hook.py over the kit's printer): each as a Lean function, and that the call comes to what it tells. Not trusted: Lean checks it.
namespace Go.Proofs.YtdnbaliibiginaaGreatDoorH.TI
open Go.RowKit Go.Proofs.YtdnbaliibiginaaGreatDoorW.PrintWords Go.Proofs.YtdnbaliibiginaaGreatDoorW.PrintLast Go.Proofs.YtdnbaliibiginaaGreatDoorW.PrintMore
attribute [local go_sem] max2_int min2_int max_two min_two max_three min_three max_four min_four   -- for this text's walks alone

/-! ### boltinglaw06_TokenIns: function 5 -/
def boltinglaw06_TokenIns.f (a0 : ByteArray) (a1 : ByteArray) : Option (Bool) := if 0 ≤ (mn (a0.size : Int) 500) then (if (mn (a0.size : Int) 500) ≤ (a0.size : Int) then ((boltinglaw06_fixed.f).bind fun t161 => (if t161 = true then ((token_In.f (a0.extract 0 ((mn (a0.size : Int) 500) : Int).toNat) a1).bind fun t162 => ((boltingref06_In.f (a0.extract 0 ((mn (a0.size : Int) 500) : Int).toNat) a1).bind fun t165 => ((boltingref06_Same.f t162 t165).bind fun t168 => (some t168)))) else (some false))) else (none)) else (none)
set_option maxHeartbeats 8000000 in
set_option maxRecDepth 100000 in
theorem boltinglaw06_TokenIns.calls (a0 : ByteArray) (a1 : ByteArray) (r : Bool) (w : World) (h : boltinglaw06_TokenIns.f a0 a1 = some r) (hS_ : Go.Proofs.YtdnbaliibiginaaGreatDoor.Std w) :
    Calls Tryz.prog 5 #[.string a0, .string a1] w fun e w' => e = .returned (.bool r) ∧ Below w.heap.size w w' := by
  have HS_ := Aside0.mk hS_
  clear hS_
  have HB := Aside0.mk (Below.refl w.heap.size w)
  have H : (if 0 ≤ (mn (a0.size : Int) 500) then (if (mn (a0.size : Int) 500) ≤ (a0.size : Int) then ((boltinglaw06_fixed.f).bind fun t161 => (if t161 = true then ((token_In.f (a0.extract 0 ((mn (a0.size : Int) 500) : Int).toNat) a1).bind fun t162 => ((boltingref06_In.f (a0.extract 0 ((mn (a0.size : Int) 500) : Int).toNat) a1).bind fun t165 => ((boltingref06_Same.f t162 t165).bind fun t168 => (some t168)))) else (some false))) else (none)) else (none)) = some r := h
  clear h
  obtain ⟨ji3, hji3⟩ : ∃ j_ : Int, (mn (a0.size : Int) 500) = j_ := ⟨_, rfl⟩
  replace H : (if 0 ≤ (ji3) then (if (ji3) ≤ (a0.size : Int) then ((boltinglaw06_fixed.f).bind fun t161 => (if t161 = true then ((token_In.f (a0.extract 0 ((ji3) : Int).toNat) a1).bind fun t162 => ((boltingref06_In.f (a0.extract 0 ((ji3) : Int).toNat) a1).bind fun t165 => ((boltingref06_Same.f t162 t165).bind fun t168 => (some t168)))) else (some false))) else (none)) else (none)) = some r := by first | (rw [hji3] at H; exact H) | (simp only [hji3] at H ⊢; exact H)
  (try (have hji3h : ji3 ≤ 500 := by (rw [← hji3]; unfold mn; (repeat' split) <;> omega)))
  (try (have hji3g : ji3 ≤ 64 := by omega))
  (try (have hji3l : 0 ≤ ji3 := by (rw [← hji3]; unfold mn; (repeat' split) <;> omega)))
  (try (have hji3m : 0 ≤ ji3 := by omega))
  have hji3_ : (if 500 < (a0.size : Int) then 500 else (a0.size : Int)) = ji3 := hji3
  by_cases c4 : 0 ≤ (ji3)
  · rw [if_pos c4] at H
    have c4b0 := eq_true c4
    have c4b1 : decide (0 ≤ (ji3)) = true := decide_eq_true c4
    clear c4
    by_cases c5 : (ji3) ≤ (a0.size : Int)
    · rw [if_pos c5] at H
      have c5b0 := eq_true c5
      have c5b1 : decide ((ji3) ≤ (a0.size : Int)) = true := decide_eq_true c5
      clear c5
      replace H := Option.bind_eq_some_iff.mp H
      obtain ⟨t161, A60, H⟩ := H
      replace H : (if t161 = true then ((token_In.f (a0.extract 0 ((ji3) : Int).toNat) a1).bind fun t162 => ((boltingref06_In.f (a0.extract 0 ((ji3) : Int).toNat) a1).bind fun t165 => ((boltingref06_Same.f t162 t165).bind fun t168 => (some t168)))) else (some false)) = some r := H
      have A6 := Aside0.mk A60
      clear A60
      by_cases c7 : t161 = true
      · subst c7
        have H1 : ((token_In.f (a0.extract 0 ((ji3) : Int).toNat) a1).bind fun t162 => ((boltingref06_In.f (a0.extract 0 ((ji3) : Int).toNat) a1).bind fun t165 => ((boltingref06_Same.f t162 t165).bind fun t168 => (some t168)))) = some r := by rw [if_pos rfl] at H; exact H
        clear H
        have H := H1
        clear H1
        replace H := Option.bind_eq_some_iff.mp H
        obtain ⟨t162, A80, H⟩ := H
        replace H : ((boltingref06_In.f (a0.extract 0 ((ji3) : Int).toNat) a1).bind fun t165 => ((boltingref06_Same.f t162 t165).bind fun t168 => (some t168))) = some r := H
        have A8 := Aside0.mk A80
        clear A80
        replace H := Option.bind_eq_some_iff.mp H
        obtain ⟨t165, A90, H⟩ := H
        replace H : ((boltingref06_Same.f t162 t165).bind fun t168 => (some t168)) = some r := H
        have A9 := Aside0.mk A90
        clear A90
        replace H := Option.bind_eq_some_iff.mp H
        obtain ⟨t168, A100, H⟩ := H
        replace H : (some t168) = some r := H
        have A10 := Aside0.mk A100
        clear A100
        obtain rfl := Option.some.inj H
        go_enter Tryz.func5, Tryz.ntmps5
        go_wp2_with (first | ((with_reducible refine gate_callee (f := 14) rfl ?_); refine goesL_ (some 10) rfl rfl Tryz.func14 (by kernel_rfl) rfl #[] rfl (by (try simp only [List.map_toArray, List.map_cons, List.map_nil]); first | done | rfl | (simp only [List.length_drop, List.length_take]; rfl)) ?_; (with_reducible refine (boltinglaw06_fixed.calls  true _ A6.out (Go.Proofs.YtdnbaliibiginaaGreatDoor.Std.below HS_.out (by repeat (first | (with_reducible first | exact HB.out | apply below_alloc | apply pw_below_drewN | apply below_drew1) | exact HB.out)))).mono ?_); rintro e w11 ⟨rfl, hb⟩; refine ⟨_, rfl, ?_⟩; have n0_ := Aside0.mk (below_step (by repeat (first | (with_reducible first | exact HB.out | apply below_alloc | apply pw_below_drewN | apply below_drew1) | exact HB.out)) hb); clear HB; have HB := n0_; clear n0_; (try clear hb); (try clear hb2); (try clear hk); (try clear hi)) | (go_at_call 15; (with_reducible refine (token_In.calls (a0.extract 0 ((ji3) : Int).toNat) a1 t162 _ A8.out (Go.Proofs.YtdnbaliibiginaaGreatDoor.Std.below HS_.out (by repeat (first | (with_reducible first | exact HB.out | apply below_alloc | apply pw_below_drewN | apply below_drew1) | exact HB.out)))).mono ?_); rintro e w12 ⟨v163, rfl, ho0, hb⟩; have n0_ := Aside0.mk (Kd.R_lower ho0 (below_size (by repeat (first | (with_reducible first | exact HB.out | apply below_alloc | apply pw_below_drewN | apply below_drew1) | exact HB.out)))); have n1_ := Aside0.mk (below_step (by repeat (first | (with_reducible first | exact HB.out | apply below_alloc | apply pw_below_drewN | apply below_drew1) | exact HB.out)) hb); clear HB; have HO164 := n0_; have HB := n1_; clear n0_ n1_; (try clear hb); (try clear hb2); (try clear hk); (try clear hi); (try clear ho0)) | (go_at_call 10; (with_reducible refine (boltingref06_In.calls (a0.extract 0 ((ji3) : Int).toNat) a1 t165 _ A9.out).mono ?_); rintro e w13 ⟨v166, rfl, ho0, hb⟩; have n0_ := Aside0.mk (Kd.R_elder' (by (with_reducible repeat (first | apply Kd.R_alloc | apply Kd.R_drewN | apply Kd.R_drew)); exact HO164.out) (Kd.R_base ho0) hb); have n1_ := Aside0.mk (Kd.R_lower (Kd.R_new' ho0 (Kd.R_lt (by (with_reducible repeat (first | apply Kd.R_alloc | apply Kd.R_drewN | apply Kd.R_drew)); exact HO164.out))) (below_size (by repeat (first | (with_reducible first | exact HB.out | apply below_alloc | apply pw_below_drewN | apply below_drew1) | exact HB.out)))); have n2_ := Aside0.mk (below_step (by repeat (first | (with_reducible first | exact HB.out | apply below_alloc | apply pw_below_drewN | apply below_drew1) | exact HB.out)) hb); clear HO164; clear HB; have HO164 := n0_; have HO167 := n1_; have HB := n2_; clear n0_ n1_ n2_; (try clear hb); (try clear hb2); (try clear hk); (try clear hi); (try clear ho0); obtain ⟨Ao14, co14, eo14⟩ := Kd.R_slice HO164.out; subst eo14; obtain ⟨Ao15, co15, eo15⟩ := Kd.R_slice HO167.out; subst eo15) | (go_at_call 12; (with_reducible refine (boltingref06_Same.calls _ _ t162 _ _ t165 t168 _ ?side1 ?side2 ?side3 ?side4 A10.out).mono ?_); (case side1 => repeat (first | exact (Kd.R_reads' HO164.out).2.2 | (with_reducible refine Kd.C_alloc ?_ _) | (with_reducible refine Kd.C_drewN ?_ _) | (with_reducible refine Kd.C_drew ?_))); (case side2 => exact (Kd.R_reads' HO164.out).2.1); (case side3 => repeat (first | exact (Kd.R_reads' HO167.out).2.2 | (with_reducible refine Kd.C_alloc ?_ _) | (with_reducible refine Kd.C_drewN ?_ _) | (with_reducible refine Kd.C_drew ?_))); (case side4 => exact (Kd.R_reads' HO167.out).2.1); rintro e w16 ⟨rfl, hb⟩; have n0_ := Aside0.mk (Kd.R_below (by (with_reducible repeat (first | apply Kd.R_alloc | apply Kd.R_drewN | apply Kd.R_drew)); exact HO164.out) hb); have n1_ := Aside0.mk (Kd.R_below (by (with_reducible repeat (first | apply Kd.R_alloc | apply Kd.R_drewN | apply Kd.R_drew)); exact HO167.out) hb); have n2_ := Aside0.mk (below_step (by repeat (first | (with_reducible first | exact HB.out | apply below_alloc | apply pw_below_drewN | apply below_drew1) | exact HB.out)) hb); clear HO164; clear HO167; clear HB; have HO164 := n0_; have HO167 := n1_; have HB := n2_; clear n0_ n1_ n2_; (try clear hb); (try clear hb2); (try clear hk); (try clear hi)))
        go_ret
        exact ⟨by first | rfl | (simp [errW_none, errW_some] <;> rfl) | (simp only [← hji3]; first | rfl | (simp [errW_none, errW_some] <;> rfl)) | (simp [*, errW_none, errW_some] <;> rfl), by repeat (first | (with_reducible first | exact HB.out | apply below_alloc | apply pw_below_drewN | apply below_drew1) | exact HB.out)⟩
      · replace c7 := Bool.eq_false_iff.mpr c7
        subst c7
        have H1 : (some false) = some r := by rw [if_neg (show ¬ (false = true) by decide)] at H; first | exact H | (simp only [eq_self] at H ⊢; exact H) | (simp only [eq_self, if_true] at H ⊢; exact H)
        clear H
        have H := H1
        clear H1
        obtain rfl := Option.some.inj H
        go_enter Tryz.func5, Tryz.ntmps5
        go_wp2_with (first | ((with_reducible refine gate_callee (f := 14) rfl ?_); refine goesL_ (some 10) rfl rfl Tryz.func14 (by kernel_rfl) rfl #[] rfl (by (try simp only [List.map_toArray, List.map_cons, List.map_nil]); first | done | rfl | (simp only [List.length_drop, List.length_take]; rfl)) ?_; (with_reducible refine (boltinglaw06_fixed.calls  false _ A6.out (Go.Proofs.YtdnbaliibiginaaGreatDoor.Std.below HS_.out (by repeat (first | (with_reducible first | exact HB.out | apply below_alloc | apply pw_below_drewN | apply below_drew1) | exact HB.out)))).mono ?_); rintro e w17 ⟨rfl, hb⟩; refine ⟨_, rfl, ?_⟩; have n0_ := Aside0.mk (below_step (by repeat (first | (with_reducible first | exact HB.out | apply below_alloc | apply pw_below_drewN | apply below_drew1) | exact HB.out)) hb); clear HB; have HB := n0_; clear n0_; (try clear hb); (try clear hb2); (try clear hk); (try clear hi)))
        go_ret
        exact ⟨by first | rfl | (simp [errW_none, errW_some] <;> rfl) | (simp only [← hji3]; first | rfl | (simp [errW_none, errW_some] <;> rfl)) | (simp [*, errW_none, errW_some] <;> rfl), by repeat (first | (with_reducible first | exact HB.out | apply below_alloc | apply pw_below_drewN | apply below_drew1) | exact HB.out)⟩
    · rw [if_neg c5] at H
      exact absurd H (by simp)
  · rw [if_neg c4] at H
    exact absurd H (by simp)

end Go.Proofs.YtdnbaliibiginaaGreatDoorH.TI
