/- Lemmas and walks, part 35: QPW8x44. -/
import Derived.Test.YtdnbaliibiginaaDoorY4
import Derived.Test.YtdnbaliibiginaaDoorY10
import Derived.Test.YtdnbaliibiginaaDoorY32
import Derived.Test.YtdnbaliibiginaaDoorY33
import Derived.Test.YtdnbaliibiginaaDoorY21
import Derived.Test.YtdnbaliibiginaaDoorY34
import Derived.Test.YtdnbaliibiginaaDoorY11
import Derived.Test.YtdnbaliibiginaaDoorY12
set_option linter.unusedVariables false
set_option linter.unusedSimpArgs false

/- Words and walks used below. -/
namespace Go.Proofs.YtdnbaliibiginaaDoorH.W8
open Go.RowKit Go.Proofs.YtdnbaliibiginaaDoorW.PrintWords Go.Proofs.YtdnbaliibiginaaDoorW.PrintLast Go.Proofs.YtdnbaliibiginaaDoorW.PrintMore
attribute [local go_sem] max2_int min2_int max_two min_two max_three min_three max_four min_four   -- for this text's walks alone
def boltinglaw08_WriteParts.l0 : Nat → List (S35) → ByteArray → List Int → Int → Option (Bool)
 | 0, _, _, _, _ => none
 | k + 1, x0, x3, x4, x5 => if x5 < (x4.length : Int) then (if 0 ≤ x5 then ((boltingref04_End.f k x0 (rd x4 x5)).bind fun t354 => (if 0 ≤ (rd x4 x5) then (if (rd x4 x5) ≤ t354 then (if t354 ≤ (x0.length : Int) then ((boltingref04_Moved.f k ((x0.take (t354 : Int).toNat).drop ((rd x4 x5) : Int).toNat) 0).bind fun t360 => ((write_Rows.f t360).bind fun t363 => (if x3.size + t363.size ≤ 9223372036854775807 then ((write_Inside.f k t360 0).bind fun t364 => (if 0 < (t360.length : Int) then (if 2 + ((rd_T35 t360 0).f2).size ≤ 9223372036854775807 then (if ((⟨#[60, 47]⟩ : ByteArray) ++ ((rd_T35 t360 0).f2)).size + 1 ≤ 9223372036854775807 then (if ((rd_T35 t360 0).f1) = 0 then (if t364.toList = ([] : List UInt8) then (boltinglaw08_WriteParts.l0 k x0 (x3 ++ t363) x4 (wrap64 (x5 + 1))) else (if (t363.size : Int) < (wrap64 ((t364.size : Int) + ((((⟨#[60, 47]⟩ : ByteArray) ++ ((rd_T35 t360 0).f2)) ++ (⟨#[62]⟩ : ByteArray)).size : Int))) then (some false) else (if 0 ≤ (wrap64 ((t363.size : Int) - ((((⟨#[60, 47]⟩ : ByteArray) ++ ((rd_T35 t360 0).f2)) ++ (⟨#[62]⟩ : ByteArray)).size : Int))) then (if (wrap64 ((t363.size : Int) - ((((⟨#[60, 47]⟩ : ByteArray) ++ ((rd_T35 t360 0).f2)) ++ (⟨#[62]⟩ : ByteArray)).size : Int))) ≤ (t363.size : Int) then (if (t363.extract ((wrap64 ((t363.size : Int) - ((((⟨#[60, 47]⟩ : ByteArray) ++ ((rd_T35 t360 0).f2)) ++ (⟨#[62]⟩ : ByteArray)).size : Int))) : Int).toNat t363.size).toList = (((⟨#[60, 47]⟩ : ByteArray) ++ ((rd_T35 t360 0).f2)) ++ (⟨#[62]⟩ : ByteArray)).toList then (if 0 ≤ (wrap64 ((wrap64 ((t363.size : Int) - ((((⟨#[60, 47]⟩ : ByteArray) ++ ((rd_T35 t360 0).f2)) ++ (⟨#[62]⟩ : ByteArray)).size : Int))) - (t364.size : Int))) then (if (wrap64 ((wrap64 ((t363.size : Int) - ((((⟨#[60, 47]⟩ : ByteArray) ++ ((rd_T35 t360 0).f2)) ++ (⟨#[62]⟩ : ByteArray)).size : Int))) - (t364.size : Int))) ≤ (wrap64 ((t363.size : Int) - ((((⟨#[60, 47]⟩ : ByteArray) ++ ((rd_T35 t360 0).f2)) ++ (⟨#[62]⟩ : ByteArray)).size : Int))) then (if (t363.extract ((wrap64 ((wrap64 ((t363.size : Int) - ((((⟨#[60, 47]⟩ : ByteArray) ++ ((rd_T35 t360 0).f2)) ++ (⟨#[62]⟩ : ByteArray)).size : Int))) - (t364.size : Int))) : Int).toNat ((wrap64 ((t363.size : Int) - ((((⟨#[60, 47]⟩ : ByteArray) ++ ((rd_T35 t360 0).f2)) ++ (⟨#[62]⟩ : ByteArray)).size : Int))) : Int).toNat).toList = t364.toList then (boltinglaw08_WriteParts.l0 k x0 (x3 ++ t363) x4 (wrap64 (x5 + 1))) else (some false)) else (none)) else (none)) else (some false)) else (none)) else (none)))) else (boltinglaw08_WriteParts.l0 k x0 (x3 ++ t363) x4 (wrap64 (x5 + 1)))) else (none)) else (none)) else (none))) else (none)))) else (none)) else (none)) else (none))) else (none)) else ((write_Rows.f x0).bind fun t349 => (if t349.toList = x3.toList then ((write_Inside.f k x0 (-1)).bind fun t350 => (if t350.toList = x3.toList then ((boltinglaw08_fixed.f).bind fun t351 => (some t351)) else (some false))) else (some false)))
def boltinglaw08_WriteParts.f (k : Nat) (l0 : List (S35)) : Option (Bool) := (boltinglaw08_bound.f k l0).bind fun t341 => ((boltingref04_Right.f k t341).bind fun t344 => (if t344 = true then ((boltingref04_Kids.f t341 (-1)).bind fun t346 => (boltinglaw08_WriteParts.l0 k t341 (⟨#[]⟩ : ByteArray) t346 0)) else ((boltinglaw08_fixed.f).bind fun t345 => (some t345))))
def boltinglaw08_WriteParts.T9 : Bool × List (List Nat × List Nat) := (true, [([], []), ([], []), ([], []), ([1, 2], [1, 2]), ([3], [3]), ([], []), ([], []), ([], []), ([6, 7], [6, 7]), ([8], [8]), ([5, 9], [5, 9]), ([0, 4, 10], [0, 4, 10]), ([11, 10], [11]), ([12, 12, 0, 1, 2, 3, 4, 5, 6, 7, 8, 9, 10, 11, 12], [12])])
def boltinglaw08_WriteParts.B9 : List Nat := [0, 0, 0, 6, 14, 0, 0, 0, 192, 448, 992, 2047, 4095, 8191]
theorem boltinglaw08_WriteParts.tab9 : rtab .any (opsOf Tryd.f4 9) = boltinglaw08_WriteParts.T9 := by kernel_rfl
theorem boltinglaw08_WriteParts.bits9 : waitsOk boltinglaw08_WriteParts.T9.2 boltinglaw08_WriteParts.B9 = true := by kernel_rfl
set_option maxHeartbeats 8000000 in
set_option maxRecDepth 100000 in
theorem boltinglaw08_WriteParts.calls (k : Nat) (A0 : Option Addr) (c0 : Nat) (l0 : List (S35)) (r : Bool) (w : World) (hr0 : Kd.C k35 w A0 l0.length l0) (hc0 : l0.length ≤ c0) (h : boltinglaw08_WriteParts.f k l0 = some r) (hS_ : Go.Proofs.YtdnbaliibiginaaDoor.Std8 w) (hrt_ : r = true) :
  Calls Tryd.prog 4 #[.slice A0 l0.length c0] w fun e w' => e = .returned (.bool r) ∧ Below w.heap.size w w' := by
 have HS_ := Aside0.mk hS_
 clear hS_
 have HRT_ := Aside0.mk hrt_
 clear hrt_
 have hu35 := Tryd.underlying35
 have HR0 := Aside0.mk hr0
 have HC0 := Aside0.mk hc0
 clear hr0 hc0
 have HB := Aside0.mk (Below.refl w.heap.size w)
 have H : ((boltinglaw08_bound.f k l0).bind fun t341 => ((boltingref04_Right.f k t341).bind fun t344 => (if t344 = true then ((boltingref04_Kids.f t341 (-1)).bind fun t346 => (boltinglaw08_WriteParts.l0 k t341 (⟨#[]⟩ : ByteArray) t346 0)) else ((boltinglaw08_fixed.f).bind fun t345 => (some t345))))) = some r := h
 clear h
 replace H := Option.bind_eq_some_iff.mp H
 obtain ⟨t341, A20, H⟩ := H
 replace H : ((boltingref04_Right.f k t341).bind fun t344 => (if t344 = true then ((boltingref04_Kids.f t341 (-1)).bind fun t346 => (boltinglaw08_WriteParts.l0 k t341 (⟨#[]⟩ : ByteArray) t346 0)) else ((boltinglaw08_fixed.f).bind fun t345 => (some t345)))) = some r := H
 have A2 := Aside0.mk A20
 clear A20
 replace H := Option.bind_eq_some_iff.mp H
 obtain ⟨t344, A30, H⟩ := H
 replace H : (if t344 = true then ((boltingref04_Kids.f t341 (-1)).bind fun t346 => (boltinglaw08_WriteParts.l0 k t341 (⟨#[]⟩ : ByteArray) t346 0)) else ((boltinglaw08_fixed.f).bind fun t345 => (some t345))) = some r := H
 have A3 := Aside0.mk A30
 clear A30
 by_cases c4 : t344 = true
 ·subst c4
  have H1 : ((boltingref04_Kids.f t341 (-1)).bind fun t346 => (boltinglaw08_WriteParts.l0 k t341 (⟨#[]⟩ : ByteArray) t346 0)) = some r := by rw [if_pos rfl] at H; exact H
  clear H
  have H := H1
  clear H1
  replace H := Option.bind_eq_some_iff.mp H
  obtain ⟨t346, A50, H⟩ := H
  replace H : (boltinglaw08_WriteParts.l0 k t341 (⟨#[]⟩ : ByteArray) t346 0) = some r := H
  have A5 := Aside0.mk A50
  clear A50
  have H' := Aside0.mk H
  clear H
  go_enter Tryd.func4, Tryd.ntmps4
  go_wp2_with (first | ((with_reducible refine gate_callee (f := 7) rfl ?_); refine goesL_ (some 12) rfl rfl Tryd.func7 (by kernel_rfl) rfl #[.slice A0 l0.length c0] rfl (by (try simp only [List.map_toArray, List.map_cons, List.map_nil]); first | done | rfl | (simp only [List.length_drop, List.length_take]; rfl)) ?_; (with_reducible refine (boltinglaw08_bound.calls k (fun k_ => k_ < w.heap.size) _ _ l0 t341 _ ?side1 A2.out).mono ?_); (case side1 => exact Kd.V_mk HC0.out (Kd.F_below (Kd.C_F k35_heap HR0.out) bz)); rintro e w6 ⟨v342, rfl, ho0, hb⟩; refine ⟨_, rfl, ?_⟩; have n0_ := Aside0.mk (Kd.N_lower (Kd.N_mono (ok' := fun k_ => True) ho0 (fun k_ hk_ => trivial)) (below_size bz)); have n1_ := Aside0.mk (below_step bz hb); clear HB; have HO343 := n0_; have HB := n1_; clear n0_ n1_; (try clear hb); (try clear hb2); (try clear hk); (try clear hi); (try clear ho0); obtain ⟨Ao7, co7, eo7⟩ := Kd.N_slice HO343.out; subst eo7) | ((with_reducible refine gate_callee (f := 8) rfl ?_); refine goesL_ (some 14) rfl rfl Tryd.func8 (by kernel_rfl) rfl #[.slice Ao7 t341.length co7] rfl (by (try simp only [List.map_toArray, List.map_cons, List.map_nil]); first | done | rfl | (simp only [List.length_drop, List.length_take]; rfl)) ?_; (with_reducible refine (boltingref04_Right.calls k _ _ t341 true _ ?side1 ?side2 A3.out).mono ?_); (case side1 => exact cz (Kd.N_reads' HO343.out).2.2); (case side2 => exact (Kd.N_reads' HO343.out).2.1); rintro e w8 ⟨rfl, hb⟩; refine ⟨_, rfl, ?_⟩; have n0_ := Aside0.mk (Kd.N_below (nz HO343.out) hb); have n1_ := Aside0.mk (below_step bz hb); clear HO343; clear HB; have HO343 := n0_; have HB := n1_; clear n0_ n1_; (try clear hb); (try clear hb2); (try clear hk); (try clear hi)) | ((with_reducible refine gate_callee (f := 14) rfl ?_); refine goesL_ (some 18) rfl rfl Tryd.func14 (by kernel_rfl) rfl #[.slice Ao7 t341.length co7, .int .i64 (-1)] rfl (by (try simp only [List.map_toArray, List.map_cons, List.map_nil]); first | done | rfl | (simp only [List.length_drop, List.length_take]; rfl)) ?_; (with_reducible refine (boltingref04_Kids.calls _ _ t341 (-1) t346 _ ?side1 ?side2 A5.out).mono ?_); (case side1 => exact cz (Kd.N_reads' HO343.out).2.2); (case side2 => exact (Kd.N_reads' HO343.out).2.1); rintro e w9 ⟨v347, rfl, ho0, hb⟩; refine ⟨_, rfl, ?_⟩; have n0_ := Aside0.mk (Kd.N_elder' (nz HO343.out) (Kd.R_base ho0) hb); have n1_ := Aside0.mk (Kd.R_lower ho0 (below_size bz)); have n2_ := Aside0.mk (below_step bz hb); clear HO343; clear HB; have HO343 := n0_; have HO348 := n1_; have HB := n2_; clear n0_ n1_ n2_; (try clear hb); (try clear hb2); (try clear hk); (try clear hi); (try clear ho0)))
  go_loopg [3, 5] k (fun kq v3 v5 w' => ∃ (x3_1 : ByteArray) (x5_1 : Int), v3 = .string x3_1 ∧ v5 = .int .i64 x5_1 ∧ Aside0 (boltinglaw08_WriteParts.l0 kq t341 x3_1 t346 x5_1 = some r) ∧ Aside0 (kq ≤ k) ∧ Aside0 (Kd.N k35 35 w' w.heap.size (fun k_ => some k_ ≠ (v347 : Value).ownBlock) (.slice Ao7 t341.length co7) t341) ∧ Aside0 (Kd.R (Kd.int .i64) 3 w' w.heap.size (fun _ => True) v347 t346) ∧ Aside0 (Below w.heap.size w w'))
  case atStart => exact ⟨((⟨#[]⟩ : ByteArray)), (0), (by first | rfl | (simp; done) | (simp [*]; done) | (simp; generalize ByteArray.toList _ = l_; cases l_ <;> rfl)), (by first | rfl | (simp; done) | (simp [*]; done) | (simp; generalize ByteArray.toList _ = l_; cases l_ <;> rfl)), H', ⟨Nat.le_refl _⟩, ⟨by (with_reducible repeat (first | apply Kd.N_alloc | apply Kd.N_drewN | apply Kd.N_drew)); exact Kd.N_mono HO343.out (fun _ hk => hk.2)⟩, ⟨by (with_reducible repeat (first | apply Kd.R_alloc | apply Kd.R_drewN | apply Kd.R_drew)); exact HO348.out⟩, ⟨bz⟩⟩
  case round =>
   clear H'
   try clear c1
   try clear p2
   try clear c4
   try clear c7
   try clear c8
   obtain ⟨x3_1, x5_1, rfl, rfl, HA, HK1, HO_0, HO_4, HB⟩ := hrel
   cases gk with
   | zero => exact absurd HA.out (by simp [boltinglaw08_WriteParts.l0])
   | succ k1 =>
    have H := HA.out
    clear HA
    simp only [boltinglaw08_WriteParts.l0] at H
    by_cases c10 : x5_1 < (t346.length : Int)
    ·rw [if_pos c10] at H
     have c10b0 : decide (x5_1 < (t346.length : Int)) = true := decide_eq_true c10
     clear c10
     by_cases c11 : 0 ≤ x5_1
     ·rw [if_pos c11] at H
      have c11b0 : decide (0 ≤ x5_1) = true := decide_eq_true c11
      clear c11
      replace H := Option.bind_eq_some_iff.mp H
      obtain ⟨t354, A120, H⟩ := H
      replace H : (if 0 ≤ (rd t346 x5_1) then (if (rd t346 x5_1) ≤ t354 then (if t354 ≤ (t341.length : Int) then ((boltingref04_Moved.f k1 ((t341.take (t354 : Int).toNat).drop ((rd t346 x5_1) : Int).toNat) 0).bind fun t360 => ((write_Rows.f t360).bind fun t363 => (if x3_1.size + t363.size ≤ 9223372036854775807 then ((write_Inside.f k1 t360 0).bind fun t364 => (if 0 < (t360.length : Int) then (if 2 + ((rd_T35 t360 0).f2).size ≤ 9223372036854775807 then (if ((⟨#[60, 47]⟩ : ByteArray) ++ ((rd_T35 t360 0).f2)).size + 1 ≤ 9223372036854775807 then (if ((rd_T35 t360 0).f1) = 0 then (if t364.toList = ([] : List UInt8) then (boltinglaw08_WriteParts.l0 k1 t341 (x3_1 ++ t363) t346 (wrap64 (x5_1 + 1))) else (if (t363.size : Int) < (wrap64 ((t364.size : Int) + ((((⟨#[60, 47]⟩ : ByteArray) ++ ((rd_T35 t360 0).f2)) ++ (⟨#[62]⟩ : ByteArray)).size : Int))) then (some false) else (if 0 ≤ (wrap64 ((t363.size : Int) - ((((⟨#[60, 47]⟩ : ByteArray) ++ ((rd_T35 t360 0).f2)) ++ (⟨#[62]⟩ : ByteArray)).size : Int))) then (if (wrap64 ((t363.size : Int) - ((((⟨#[60, 47]⟩ : ByteArray) ++ ((rd_T35 t360 0).f2)) ++ (⟨#[62]⟩ : ByteArray)).size : Int))) ≤ (t363.size : Int) then (if (t363.extract ((wrap64 ((t363.size : Int) - ((((⟨#[60, 47]⟩ : ByteArray) ++ ((rd_T35 t360 0).f2)) ++ (⟨#[62]⟩ : ByteArray)).size : Int))) : Int).toNat t363.size).toList = (((⟨#[60, 47]⟩ : ByteArray) ++ ((rd_T35 t360 0).f2)) ++ (⟨#[62]⟩ : ByteArray)).toList then (if 0 ≤ (wrap64 ((wrap64 ((t363.size : Int) - ((((⟨#[60, 47]⟩ : ByteArray) ++ ((rd_T35 t360 0).f2)) ++ (⟨#[62]⟩ : ByteArray)).size : Int))) - (t364.size : Int))) then (if (wrap64 ((wrap64 ((t363.size : Int) - ((((⟨#[60, 47]⟩ : ByteArray) ++ ((rd_T35 t360 0).f2)) ++ (⟨#[62]⟩ : ByteArray)).size : Int))) - (t364.size : Int))) ≤ (wrap64 ((t363.size : Int) - ((((⟨#[60, 47]⟩ : ByteArray) ++ ((rd_T35 t360 0).f2)) ++ (⟨#[62]⟩ : ByteArray)).size : Int))) then (if (t363.extract ((wrap64 ((wrap64 ((t363.size : Int) - ((((⟨#[60, 47]⟩ : ByteArray) ++ ((rd_T35 t360 0).f2)) ++ (⟨#[62]⟩ : ByteArray)).size : Int))) - (t364.size : Int))) : Int).toNat ((wrap64 ((t363.size : Int) - ((((⟨#[60, 47]⟩ : ByteArray) ++ ((rd_T35 t360 0).f2)) ++ (⟨#[62]⟩ : ByteArray)).size : Int))) : Int).toNat).toList = t364.toList then (boltinglaw08_WriteParts.l0 k1 t341 (x3_1 ++ t363) t346 (wrap64 (x5_1 + 1))) else (some false)) else (none)) else (none)) else (some false)) else (none)) else (none)))) else (boltinglaw08_WriteParts.l0 k1 t341 (x3_1 ++ t363) t346 (wrap64 (x5_1 + 1)))) else (none)) else (none)) else (none))) else (none)))) else (none)) else (none)) else (none)) = some r := H
      have A12 := Aside0.mk A120
      clear A120
      by_cases c13 : 0 ≤ (rd t346 x5_1)
      ·rw [if_pos c13] at H
       have c13b0 := eq_true c13
       have c13b1 : decide (0 ≤ (rd t346 x5_1)) = true := decide_eq_true c13
       clear c13
       by_cases c14 : (rd t346 x5_1) ≤ t354
       ·rw [if_pos c14] at H
        have c14b0 := eq_true c14
        have c14b1 : decide ((rd t346 x5_1) ≤ t354) = true := decide_eq_true c14
        clear c14
        by_cases c15 : t354 ≤ (t341.length : Int)
        ·rw [if_pos c15] at H
         have c15b0 := eq_true c15
         have c15b1 : decide (t354 ≤ (t341.length : Int)) = true := decide_eq_true c15
         clear c15
         obtain ⟨y355, hy355⟩ : ∃ y_ : List (S35), y_ = ((t341.take (t354 : Int).toNat).drop ((rd t346 x5_1) : Int).toNat) := ⟨_, rfl⟩
         replace H : ((boltingref04_Moved.f k1 y355 0).bind fun t360 => ((write_Rows.f t360).bind fun t363 => (if x3_1.size + t363.size ≤ 9223372036854775807 then ((write_Inside.f k1 t360 0).bind fun t364 => (if 0 < (t360.length : Int) then (if 2 + ((rd_T35 t360 0).f2).size ≤ 9223372036854775807 then (if ((⟨#[60, 47]⟩ : ByteArray) ++ ((rd_T35 t360 0).f2)).size + 1 ≤ 9223372036854775807 then (if ((rd_T35 t360 0).f1) = 0 then (if t364.toList = ([] : List UInt8) then (boltinglaw08_WriteParts.l0 k1 t341 (x3_1 ++ t363) t346 (wrap64 (x5_1 + 1))) else (if (t363.size : Int) < (wrap64 ((t364.size : Int) + ((((⟨#[60, 47]⟩ : ByteArray) ++ ((rd_T35 t360 0).f2)) ++ (⟨#[62]⟩ : ByteArray)).size : Int))) then (some false) else (if 0 ≤ (wrap64 ((t363.size : Int) - ((((⟨#[60, 47]⟩ : ByteArray) ++ ((rd_T35 t360 0).f2)) ++ (⟨#[62]⟩ : ByteArray)).size : Int))) then (if (wrap64 ((t363.size : Int) - ((((⟨#[60, 47]⟩ : ByteArray) ++ ((rd_T35 t360 0).f2)) ++ (⟨#[62]⟩ : ByteArray)).size : Int))) ≤ (t363.size : Int) then (if (t363.extract ((wrap64 ((t363.size : Int) - ((((⟨#[60, 47]⟩ : ByteArray) ++ ((rd_T35 t360 0).f2)) ++ (⟨#[62]⟩ : ByteArray)).size : Int))) : Int).toNat t363.size).toList = (((⟨#[60, 47]⟩ : ByteArray) ++ ((rd_T35 t360 0).f2)) ++ (⟨#[62]⟩ : ByteArray)).toList then (if 0 ≤ (wrap64 ((wrap64 ((t363.size : Int) - ((((⟨#[60, 47]⟩ : ByteArray) ++ ((rd_T35 t360 0).f2)) ++ (⟨#[62]⟩ : ByteArray)).size : Int))) - (t364.size : Int))) then (if (wrap64 ((wrap64 ((t363.size : Int) - ((((⟨#[60, 47]⟩ : ByteArray) ++ ((rd_T35 t360 0).f2)) ++ (⟨#[62]⟩ : ByteArray)).size : Int))) - (t364.size : Int))) ≤ (wrap64 ((t363.size : Int) - ((((⟨#[60, 47]⟩ : ByteArray) ++ ((rd_T35 t360 0).f2)) ++ (⟨#[62]⟩ : ByteArray)).size : Int))) then (if (t363.extract ((wrap64 ((wrap64 ((t363.size : Int) - ((((⟨#[60, 47]⟩ : ByteArray) ++ ((rd_T35 t360 0).f2)) ++ (⟨#[62]⟩ : ByteArray)).size : Int))) - (t364.size : Int))) : Int).toNat ((wrap64 ((t363.size : Int) - ((((⟨#[60, 47]⟩ : ByteArray) ++ ((rd_T35 t360 0).f2)) ++ (⟨#[62]⟩ : ByteArray)).size : Int))) : Int).toNat).toList = t364.toList then (boltinglaw08_WriteParts.l0 k1 t341 (x3_1 ++ t363) t346 (wrap64 (x5_1 + 1))) else (some false)) else (none)) else (none)) else (some false)) else (none)) else (none)))) else (boltinglaw08_WriteParts.l0 k1 t341 (x3_1 ++ t363) t346 (wrap64 (x5_1 + 1)))) else (none)) else (none)) else (none))) else (none)))) = some r := by first | (rw [hy355]; with_reducible exact H) | (have H2_ := (Option.bind_some _ _).symm.trans H; rw [hy355]; with_reducible exact H2_) | (have H2_ := (Option.bind_some _ _).symm.trans H; with_reducible exact H2_) | with_reducible exact H | (rw [hy355]; exact H) | exact H
         have Ny355 := Aside0.mk hy355
         clear hy355
         replace H := Option.bind_eq_some_iff.mp H
         obtain ⟨t360, A160, H⟩ := H
         replace H : ((write_Rows.f t360).bind fun t363 => (if x3_1.size + t363.size ≤ 9223372036854775807 then ((write_Inside.f k1 t360 0).bind fun t364 => (if 0 < (t360.length : Int) then (if 2 + ((rd_T35 t360 0).f2).size ≤ 9223372036854775807 then (if ((⟨#[60, 47]⟩ : ByteArray) ++ ((rd_T35 t360 0).f2)).size + 1 ≤ 9223372036854775807 then (if ((rd_T35 t360 0).f1) = 0 then (if t364.toList = ([] : List UInt8) then (boltinglaw08_WriteParts.l0 k1 t341 (x3_1 ++ t363) t346 (wrap64 (x5_1 + 1))) else (if (t363.size : Int) < (wrap64 ((t364.size : Int) + ((((⟨#[60, 47]⟩ : ByteArray) ++ ((rd_T35 t360 0).f2)) ++ (⟨#[62]⟩ : ByteArray)).size : Int))) then (some false) else (if 0 ≤ (wrap64 ((t363.size : Int) - ((((⟨#[60, 47]⟩ : ByteArray) ++ ((rd_T35 t360 0).f2)) ++ (⟨#[62]⟩ : ByteArray)).size : Int))) then (if (wrap64 ((t363.size : Int) - ((((⟨#[60, 47]⟩ : ByteArray) ++ ((rd_T35 t360 0).f2)) ++ (⟨#[62]⟩ : ByteArray)).size : Int))) ≤ (t363.size : Int) then (if (t363.extract ((wrap64 ((t363.size : Int) - ((((⟨#[60, 47]⟩ : ByteArray) ++ ((rd_T35 t360 0).f2)) ++ (⟨#[62]⟩ : ByteArray)).size : Int))) : Int).toNat t363.size).toList = (((⟨#[60, 47]⟩ : ByteArray) ++ ((rd_T35 t360 0).f2)) ++ (⟨#[62]⟩ : ByteArray)).toList then (if 0 ≤ (wrap64 ((wrap64 ((t363.size : Int) - ((((⟨#[60, 47]⟩ : ByteArray) ++ ((rd_T35 t360 0).f2)) ++ (⟨#[62]⟩ : ByteArray)).size : Int))) - (t364.size : Int))) then (if (wrap64 ((wrap64 ((t363.size : Int) - ((((⟨#[60, 47]⟩ : ByteArray) ++ ((rd_T35 t360 0).f2)) ++ (⟨#[62]⟩ : ByteArray)).size : Int))) - (t364.size : Int))) ≤ (wrap64 ((t363.size : Int) - ((((⟨#[60, 47]⟩ : ByteArray) ++ ((rd_T35 t360 0).f2)) ++ (⟨#[62]⟩ : ByteArray)).size : Int))) then (if (t363.extract ((wrap64 ((wrap64 ((t363.size : Int) - ((((⟨#[60, 47]⟩ : ByteArray) ++ ((rd_T35 t360 0).f2)) ++ (⟨#[62]⟩ : ByteArray)).size : Int))) - (t364.size : Int))) : Int).toNat ((wrap64 ((t363.size : Int) - ((((⟨#[60, 47]⟩ : ByteArray) ++ ((rd_T35 t360 0).f2)) ++ (⟨#[62]⟩ : ByteArray)).size : Int))) : Int).toNat).toList = t364.toList then (boltinglaw08_WriteParts.l0 k1 t341 (x3_1 ++ t363) t346 (wrap64 (x5_1 + 1))) else (some false)) else (none)) else (none)) else (some false)) else (none)) else (none)))) else (boltinglaw08_WriteParts.l0 k1 t341 (x3_1 ++ t363) t346 (wrap64 (x5_1 + 1)))) else (none)) else (none)) else (none))) else (none))) = some r := H
         have A16 := Aside0.mk A160
         clear A160
         replace H := Option.bind_eq_some_iff.mp H
         obtain ⟨t363, A170, H⟩ := H
         replace H : (if x3_1.size + t363.size ≤ 9223372036854775807 then ((write_Inside.f k1 t360 0).bind fun t364 => (if 0 < (t360.length : Int) then (if 2 + ((rd_T35 t360 0).f2).size ≤ 9223372036854775807 then (if ((⟨#[60, 47]⟩ : ByteArray) ++ ((rd_T35 t360 0).f2)).size + 1 ≤ 9223372036854775807 then (if ((rd_T35 t360 0).f1) = 0 then (if t364.toList = ([] : List UInt8) then (boltinglaw08_WriteParts.l0 k1 t341 (x3_1 ++ t363) t346 (wrap64 (x5_1 + 1))) else (if (t363.size : Int) < (wrap64 ((t364.size : Int) + ((((⟨#[60, 47]⟩ : ByteArray) ++ ((rd_T35 t360 0).f2)) ++ (⟨#[62]⟩ : ByteArray)).size : Int))) then (some false) else (if 0 ≤ (wrap64 ((t363.size : Int) - ((((⟨#[60, 47]⟩ : ByteArray) ++ ((rd_T35 t360 0).f2)) ++ (⟨#[62]⟩ : ByteArray)).size : Int))) then (if (wrap64 ((t363.size : Int) - ((((⟨#[60, 47]⟩ : ByteArray) ++ ((rd_T35 t360 0).f2)) ++ (⟨#[62]⟩ : ByteArray)).size : Int))) ≤ (t363.size : Int) then (if (t363.extract ((wrap64 ((t363.size : Int) - ((((⟨#[60, 47]⟩ : ByteArray) ++ ((rd_T35 t360 0).f2)) ++ (⟨#[62]⟩ : ByteArray)).size : Int))) : Int).toNat t363.size).toList = (((⟨#[60, 47]⟩ : ByteArray) ++ ((rd_T35 t360 0).f2)) ++ (⟨#[62]⟩ : ByteArray)).toList then (if 0 ≤ (wrap64 ((wrap64 ((t363.size : Int) - ((((⟨#[60, 47]⟩ : ByteArray) ++ ((rd_T35 t360 0).f2)) ++ (⟨#[62]⟩ : ByteArray)).size : Int))) - (t364.size : Int))) then (if (wrap64 ((wrap64 ((t363.size : Int) - ((((⟨#[60, 47]⟩ : ByteArray) ++ ((rd_T35 t360 0).f2)) ++ (⟨#[62]⟩ : ByteArray)).size : Int))) - (t364.size : Int))) ≤ (wrap64 ((t363.size : Int) - ((((⟨#[60, 47]⟩ : ByteArray) ++ ((rd_T35 t360 0).f2)) ++ (⟨#[62]⟩ : ByteArray)).size : Int))) then (if (t363.extract ((wrap64 ((wrap64 ((t363.size : Int) - ((((⟨#[60, 47]⟩ : ByteArray) ++ ((rd_T35 t360 0).f2)) ++ (⟨#[62]⟩ : ByteArray)).size : Int))) - (t364.size : Int))) : Int).toNat ((wrap64 ((t363.size : Int) - ((((⟨#[60, 47]⟩ : ByteArray) ++ ((rd_T35 t360 0).f2)) ++ (⟨#[62]⟩ : ByteArray)).size : Int))) : Int).toNat).toList = t364.toList then (boltinglaw08_WriteParts.l0 k1 t341 (x3_1 ++ t363) t346 (wrap64 (x5_1 + 1))) else (some false)) else (none)) else (none)) else (some false)) else (none)) else (none)))) else (boltinglaw08_WriteParts.l0 k1 t341 (x3_1 ++ t363) t346 (wrap64 (x5_1 + 1)))) else (none)) else (none)) else (none))) else (none)) = some r := H
         have A17 := Aside0.mk A170
         clear A170
         by_cases c18 : x3_1.size + t363.size ≤ 9223372036854775807
         ·rw [if_pos c18] at H
          have c18b0 := eq_true c18
          have c18b1 : decide (x3_1.size + t363.size ≤ 9223372036854775807) = true := decide_eq_true c18
          try have c18b2 : (9223372036854775807 < x3_1.size + t363.size) = False := eq_false (Nat.not_lt.2 c18)
          replace H := Option.bind_eq_some_iff.mp H
          obtain ⟨t364, A190, H⟩ := H
          replace H : (if 0 < (t360.length : Int) then (if 2 + ((rd_T35 t360 0).f2).size ≤ 9223372036854775807 then (if ((⟨#[60, 47]⟩ : ByteArray) ++ ((rd_T35 t360 0).f2)).size + 1 ≤ 9223372036854775807 then (if ((rd_T35 t360 0).f1) = 0 then (if t364.toList = ([] : List UInt8) then (boltinglaw08_WriteParts.l0 k1 t341 (x3_1 ++ t363) t346 (wrap64 (x5_1 + 1))) else (if (t363.size : Int) < (wrap64 ((t364.size : Int) + ((((⟨#[60, 47]⟩ : ByteArray) ++ ((rd_T35 t360 0).f2)) ++ (⟨#[62]⟩ : ByteArray)).size : Int))) then (some false) else (if 0 ≤ (wrap64 ((t363.size : Int) - ((((⟨#[60, 47]⟩ : ByteArray) ++ ((rd_T35 t360 0).f2)) ++ (⟨#[62]⟩ : ByteArray)).size : Int))) then (if (wrap64 ((t363.size : Int) - ((((⟨#[60, 47]⟩ : ByteArray) ++ ((rd_T35 t360 0).f2)) ++ (⟨#[62]⟩ : ByteArray)).size : Int))) ≤ (t363.size : Int) then (if (t363.extract ((wrap64 ((t363.size : Int) - ((((⟨#[60, 47]⟩ : ByteArray) ++ ((rd_T35 t360 0).f2)) ++ (⟨#[62]⟩ : ByteArray)).size : Int))) : Int).toNat t363.size).toList = (((⟨#[60, 47]⟩ : ByteArray) ++ ((rd_T35 t360 0).f2)) ++ (⟨#[62]⟩ : ByteArray)).toList then (if 0 ≤ (wrap64 ((wrap64 ((t363.size : Int) - ((((⟨#[60, 47]⟩ : ByteArray) ++ ((rd_T35 t360 0).f2)) ++ (⟨#[62]⟩ : ByteArray)).size : Int))) - (t364.size : Int))) then (if (wrap64 ((wrap64 ((t363.size : Int) - ((((⟨#[60, 47]⟩ : ByteArray) ++ ((rd_T35 t360 0).f2)) ++ (⟨#[62]⟩ : ByteArray)).size : Int))) - (t364.size : Int))) ≤ (wrap64 ((t363.size : Int) - ((((⟨#[60, 47]⟩ : ByteArray) ++ ((rd_T35 t360 0).f2)) ++ (⟨#[62]⟩ : ByteArray)).size : Int))) then (if (t363.extract ((wrap64 ((wrap64 ((t363.size : Int) - ((((⟨#[60, 47]⟩ : ByteArray) ++ ((rd_T35 t360 0).f2)) ++ (⟨#[62]⟩ : ByteArray)).size : Int))) - (t364.size : Int))) : Int).toNat ((wrap64 ((t363.size : Int) - ((((⟨#[60, 47]⟩ : ByteArray) ++ ((rd_T35 t360 0).f2)) ++ (⟨#[62]⟩ : ByteArray)).size : Int))) : Int).toNat).toList = t364.toList then (boltinglaw08_WriteParts.l0 k1 t341 (x3_1 ++ t363) t346 (wrap64 (x5_1 + 1))) else (some false)) else (none)) else (none)) else (some false)) else (none)) else (none)))) else (boltinglaw08_WriteParts.l0 k1 t341 (x3_1 ++ t363) t346 (wrap64 (x5_1 + 1)))) else (none)) else (none)) else (none)) = some r := H
          have A19 := Aside0.mk A190
          clear A190
          by_cases c20 : 0 < (t360.length : Int)
          ·rw [if_pos c20] at H
           have c20b0 : decide (0 < (t360.length : Int)) = true := decide_eq_true c20
           have c20b1 : decide (0 < t360.length) = true := decide_eq_true (by omega)
           clear c20
           by_cases c21 : 2 + ((rd_T35 t360 0).f2).size ≤ 9223372036854775807
           ·rw [if_pos c21] at H
            have c21b0 := eq_true c21
            have c21b1 : decide (2 + ((rd_T35 t360 0).f2).size ≤ 9223372036854775807) = true := decide_eq_true c21
            try have c21b2 : (9223372036854775807 < 2 + ((rd_T35 t360 0).f2).size) = False := eq_false (Nat.not_lt.2 c21)
            by_cases c22 : ((⟨#[60, 47]⟩ : ByteArray) ++ ((rd_T35 t360 0).f2)).size + 1 ≤ 9223372036854775807
            ·rw [if_pos c22] at H
             have c22b0 := eq_true c22
             have c22b1 : decide (((⟨#[60, 47]⟩ : ByteArray) ++ ((rd_T35 t360 0).f2)).size + 1 ≤ 9223372036854775807) = true := decide_eq_true c22
             try have c22b2 : (9223372036854775807 < ((⟨#[60, 47]⟩ : ByteArray) ++ ((rd_T35 t360 0).f2)).size + 1) = False := eq_false (Nat.not_lt.2 c22)
             try have c22b3 := c22b2
             try simp only [ByteArray.size_append, (show ∀ a : UInt8, (ByteArray.mk #[a]).size = 1 from fun _ => rfl), (show ∀ a b : UInt8, (ByteArray.mk #[a, b]).size = 2 from fun _ _ => rfl), (show ∀ a b c : UInt8, (ByteArray.mk #[a, b, c]).size = 3 from fun _ _ _ => rfl), (show ∀ a b c d : UInt8, (ByteArray.mk #[a, b, c, d]).size = 4 from fun _ _ _ _ => rfl), (show ∀ a b c d e : UInt8, (ByteArray.mk #[a, b, c, d, e]).size = 5 from fun _ _ _ _ _ => rfl), (show ∀ a b c d e f : UInt8, (ByteArray.mk #[a, b, c, d, e, f]).size = 6 from fun _ _ _ _ _ _ => rfl)] at c22b3
             by_cases c23 : ((rd_T35 t360 0).f1) = 0
             ·rw [if_pos c23] at H
              have c23b0 : (((rd_T35 t360 0).f1) == 0) = true := beq_iff_eq.mpr c23
              have c23b1 : (((rd_T35 t360 0).f1) != 0) = false := bne_eq_false_iff_eq.mpr c23
              clear c23
              by_cases c24 : t364.toList = ([] : List UInt8)
              ·rw [if_pos c24] at H
               have c24b0 : (t364.toList == ([] : List UInt8)) = true := beq_iff_eq.mpr c24
               have c24b1 : (t364.toList != ([] : List UInt8)) = false := bne_eq_false_iff_eq.mpr c24
               clear c24
               have H' := Aside0.mk H
               clear H
               obtain ⟨Ao25, co25, eo25⟩ := Kd.R_slice HO_4.out
               subst eo25
               try go_wp2
               have n0_ := Aside0.mk (Kd.N_drew HO_0.out)
               have n1_ := Aside0.mk (Kd.R_drew HO_4.out)
               have n2_ := Aside0.mk (below_drew1 HB.out)
               clear HO_0
               clear HO_4
               clear HB
               have HO_0 := n0_
               have HO_4 := n1_
               have HB := n2_
               clear n0_ n1_ n2_
               have p352 : 0 ≤ (x5_1 : Int) := (by first | exact of_decide_eq_true (by first | (with_reducible assumption) | assumption) | assumption | omega)
               have q352 : x5_1 < (t346.length : Int) := (by first | exact of_decide_eq_true (by first | (with_reducible assumption) | assumption) | assumption | omega)
               obtain ⟨ad352, e352, hx352_0⟩ := Kd.at_int (Kd.R_reads' HO_4.out).2.2 x5_1 p352 q352
               cases e352
               replace p352 := eq_true p352
               replace q352 := eq_true q352
               have p353 : 0 ≤ (x5_1 : Int) := (by first | exact of_decide_eq_true (by first | (with_reducible assumption) | assumption) | assumption | omega)
               have q353 : x5_1 < (t346.length : Int) := (by first | exact of_decide_eq_true (by first | (with_reducible assumption) | assumption) | assumption | omega)
               obtain ⟨ad353, e353, hx353_0⟩ := Kd.at_int (Kd.R_reads' HO_4.out).2.2 x5_1 p353 q353
               obtain rfl : ad352 = ad353 := (by injection e353)
               replace p353 := eq_true p353
               replace q353 := eq_true q353
               refine start_ (n := 14) (S := fun w' => w'.cell? (ad352.add (x5_1).toNat) = some (.int .i64 (rd t346 x5_1)) ∧ w'.cell? (ad352.add (x5_1).toNat) = some (.int .i64 (rd t346 x5_1))) (ds := []) (fl 14 0) (by kernel_rfl) rfl rfl ⟨hx352_0, hx353_0⟩ (fun hHeld => ?_); refine with_tabW boltinglaw08_WriteParts.tab9 boltinglaw08_WriteParts.bits9 (fun HT_ HW_ => ?_)
               generalize wr.drew = w26 at HO_0 HO_4 HB hx352_0 hx353_0 hHeld ⊢
               refine pure_ (i := 0) (N := some 25) (v := ?_) (a' := ?_) (fl 14 1) rfl rfl (any_of HT_.out (by kernel_rfl)) (fun _ _ _ h => h) (Or.inl ⟨by rfl, ?_⟩) ?_ ?_
               rotate_left
               ·intro w'
                go_simp
                with_reducible rfl
               rotate_left
               ·simp only [Act.put, List.setIfInBounds_toArray, List.set_cons_zero, List.set_cons_succ, i64_w, i32_w]
                rfl
               refine pure_ (i := 1) (N := some 26) (v := ?_) (a' := ?_) (fl 14 2) rfl rfl (any_of HT_.out (by kernel_rfl)) (fun _ _ _ h => h) (Or.inl ⟨by rfl, ?_⟩) ?_ ?_
               rotate_left
               ·intro w'
                go_simp
                with_reducible rfl
               rotate_left
               ·simp only [Act.put, List.setIfInBounds_toArray, List.set_cons_zero, List.set_cons_succ, i64_w, i32_w]
                rfl
               refine pure_ (i := 2) (N := some 27) (v := ?_) (a' := ?_) (fl 14 3) rfl rfl (any_of HT_.out (by kernel_rfl)) (fun _ _ _ h => h) (Or.inl ⟨by rfl, ?_⟩) ?_ ?_
               rotate_left
               ·intro w'
                go_simp
                with_reducible rfl
               rotate_left
               ·simp only [Act.put, List.setIfInBounds_toArray, List.set_cons_zero, List.set_cons_succ, i64_w, i32_w]
                rfl
               refine pure_ (i := 3) (N := some 28) (v := ?_) (a' := ?_) (fl 14 4) rfl rfl (any_of HT_.out (by kernel_rfl)) (fun _ _ _ h => h) (Or.inl ⟨by rfl, ?_⟩) ?_ ?_
               rotate_left
               ·intro w'
                go_simp
                with_reducible rfl
               rotate_left
               ·simp only [Act.put, List.setIfInBounds_toArray, List.set_cons_zero, List.set_cons_succ, i64_w, i32_w]
                rfl
               refine pure_ (i := 5) (N := some 30) (v := ?_) (a' := ?_) #[true, true, true, true, false, true, false, false, false, false, false, false, false, false] rfl rfl (any_of HT_.out (by kernel_rfl)) (fun _ _ _ h => h) (Or.inl ⟨by rfl, ?_⟩) ?_ ?_
               rotate_left
               ·intro w'
                go_simp
                with_reducible rfl
               rotate_left
               ·simp only [Act.put, List.setIfInBounds_toArray, List.set_cons_zero, List.set_cons_succ, i64_w, i32_w]
                rfl
               refine pure_ (i := 6) (N := some 31) (v := ?_) (a' := ?_) #[true, true, true, true, false, true, true, false, false, false, false, false, false, false] rfl rfl (any_of HT_.out (by kernel_rfl)) (fun _ _ _ h => h) (Or.inl ⟨by rfl, ?_⟩) ?_ ?_
               rotate_left
               ·intro w'
                go_simp
                with_reducible rfl
               rotate_left
               ·simp only [Act.put, List.setIfInBounds_toArray, List.set_cons_zero, List.set_cons_succ, i64_w, i32_w]
                rfl
               refine pure_ (i := 7) (N := some 32) (v := ?_) (a' := ?_) #[true, true, true, true, false, true, true, true, false, false, false, false, false, false] rfl rfl (any_of HT_.out (by kernel_rfl)) (fun _ _ _ h => h) (Or.inl ⟨by rfl, ?_⟩) ?_ ?_
               rotate_left
               ·intro w'
                go_simp
                with_reducible rfl
               rotate_left
               ·simp only [Act.put, List.setIfInBounds_toArray, List.set_cons_zero, List.set_cons_succ, i64_w, i32_w]
                rfl
               refine pure_ (i := 8) (N := some 33) (v := ?_) (a' := ?_) #[true, true, true, true, false, true, true, true, true, false, false, false, false, false] rfl rfl (any_of HT_.out (by kernel_rfl)) (fun _ _ _ h => h) (Or.inl ⟨by rfl, ?_⟩) ?_ ?_
               rotate_left
               ·intro w'
                go_simp
                with_reducible rfl
               rotate_left
               ·simp only [Act.put, List.setIfInBounds_toArray, List.set_cons_zero, List.set_cons_succ, i64_w, i32_w]
                rfl
               refine take_ (i := 4) (N := some 29) (v := ?_) (a' := ?_) (fl 14 9) rfl rfl (take_ofW HT_.out HW_.out (by kernel_rfl)) (fun _ _ _ h => h) (Or.inl ⟨by rfl, ?_⟩) hHeld ?_ ?_
               rotate_left
               ·rintro w' ⟨s0, s1⟩
                go_simp
                with_reducible rfl
               rotate_left
               ·simp only [Act.put, List.setIfInBounds_toArray, List.set_cons_zero, List.set_cons_succ, i64_w, i32_w]
                rfl
               refine take_ (i := 9) (N := some 34) (v := ?_) (a' := ?_) (fl 14 10) rfl rfl (take_ofW HT_.out HW_.out (by kernel_rfl)) (fun _ _ _ h => h) (Or.inl ⟨by rfl, ?_⟩) hHeld ?_ ?_
               rotate_left
               ·rintro w' ⟨s0, s1⟩
                go_simp
                with_reducible rfl
               rotate_left
               ·simp only [Act.put, List.setIfInBounds_toArray, List.set_cons_zero, List.set_cons_succ, i64_w, i32_w]
                rfl
               refine one_ (i := 10) (N := some 35) (fl 14 11) rfl rfl (one_of HT_.out (by kernel_rfl)) (by decide) (fun K hK => ?_)
               refine goes_ Tryd.func16 (by kernel_rfl) rfl #[.slice Ao7 t341.length co7, .int .i64 (rd t346 x5_1)] (by rfl) rfl rfl (by (try simp only [List.map_toArray, List.map_cons, List.map_nil]); first | done | rfl | (simp only [List.length_drop, List.length_take]; rfl)) ?_
               with_reducible refine (boltingref04_End.calls k1 _ _ t341 (rd t346 x5_1) t354 _ ?side1 ?side2 A12.out).mono ?_
               (case side1 => exact cz (Kd.N_reads' HO_0.out).2.2)
               (case side2 => exact (Kd.N_reads' HO_0.out).2.1)
               rintro e w' ⟨rfl, ⟨nd, rfl⟩⟩
               refine ⟨_, rfl, ?_⟩
               have q27 : (t354 : Int) ≤ ((t341.length : Int) : Int) := (by first | exact of_decide_eq_true (by first | (with_reducible assumption) | assumption) | assumption | omega)
               obtain ⟨i027, hi027, _, hsz27, _⟩ := info_parts info35
               have hroom27 : t341.length ≤ co7 := (Kd.N_reads' HO_0.out).2.1
               have hC27 : Kd.F k35 _ _ Ao7 t341.length t341 := (Kd.V_at (base := w.heap.size) (Kd.N_V HO_0.out)).2.2
               have ql27 : ((rd t346 x5_1) : Int) ≤ (t354 : Int) := (by first | exact of_decide_eq_true (by first | (with_reducible assumption) | assumption) | assumption | omega)
               have q027 : (0 : Int) ≤ ((rd t346 x5_1) : Int) := (by first | exact of_decide_eq_true (by first | (with_reducible assumption) | assumption) | assumption | omega)
               have hcut27 := cut_mid (P := Tryd.prog) 22 35 .i64 .i64 Tryd.underlying22 hi027 5 hsz27 Ao7 t341.length co7 (rd t346 x5_1) t354 q027 ql27 q27 hroom27
               have hr27 := Kd.F_mid (lo := ((rd t346 x5_1) : Int).toNat) (hi := (t354 : Int).toNat) (c := co7) hC27 (by omega) (by omega) hroom27
               obtain ⟨A27, hA27⟩ : ∃ A1, A1 = (if co7 = ((rd t346 x5_1) : Int).toNat then Ao7 else (Ao7 : Option Addr).map (·.add (((rd t346 x5_1) : Int).toNat * 5))) := ⟨_, rfl⟩
               obtain ⟨c27, hc27⟩ : ∃ c1, c1 = co7 - ((rd t346 x5_1) : Int).toNat := ⟨_, rfl⟩
               have hy27 : y355.length = (t354 : Int).toNat - ((rd t346 x5_1) : Int).toNat := (by rw [Ny355.out, List.length_drop, List.length_take] <;> omega)
               rw [show ((t341).take (t354 : Int).toNat).drop ((rd t346 x5_1) : Int).toNat = y355 from Ny355.out.symm] at hr27
               replace hr27 : Kd.F k35 _ _ A27 y355.length y355 := (by rw [hA27]; exact hr27)
               rw [← hy27, ← hA27, ← hc27] at hcut27
               have HO359 := Aside0.mk (show Kd.V k35 35 _ w.heap.size _ (.slice A27 y355.length c27) y355 from Kd.V_mk (by rw [hy27, hc27]; exact Nat.sub_le_sub_right (Nat.le_trans (by omega) hroom27) _) hr27)
               have HC359 := Aside0.mk (show y355.length ≤ c27 from by rw [hy27, hc27]; exact Nat.sub_le_sub_right (Nat.le_trans (by omega) hroom27) _)
               clear hr27 hC27 hroom27 hi027 hsz27 hc27
               have KY27 := Aside0.mk hy27
               have KA27 := Aside0.mk hA27
               clear hy27 hA27
               replace q27 := eq_true q27
               refine hK.out _ _ ⟨hHeld.1, hHeld.2⟩ (fun hHeld => ?_)
               clear hK K
               refine norm_ (a' := ?_) ?_ ?_
               rotate_left
               ·show Act.put _ (some 35) _ = _
                simp only [Act.put, List.setIfInBounds_toArray, List.set_cons_zero, List.set_cons_succ, i64_w, i32_w]
                rfl
               refine pure_ (i := 11) (N := some 36) (v := ?_) (a' := ?_) (fl 14 12) rfl rfl (any_of HT_.out (by kernel_rfl)) (fun _ _ _ h => h) (Or.inl ⟨by rfl, ?_⟩) ?_ ?_
               rotate_left
               ·intro w'
                go_simp
                with_reducible rfl
               rotate_left
               ·simp only [Act.put, List.setIfInBounds_toArray, List.set_cons_zero, List.set_cons_succ, i64_w, i32_w]
                rfl
               refine one_ (i := 12) (N := some 37) (fl 14 13) rfl rfl (one_of HT_.out (by kernel_rfl)) (by decide) (fun K hK => ?_)
               refine goes_ Tryd.func15 (by kernel_rfl) rfl #[.slice A27 y355.length c27, .int .i64 0] (by rfl) rfl rfl (by (try simp only [List.map_toArray, List.map_cons, List.map_nil]); first | done | rfl | (simp only [List.length_drop, List.length_take]; rfl)) ?_
               with_reducible refine (boltingref04_Moved.calls k1 _ _ y355 0 t360 _ ?side1 ?side2 A16.out).mono ?_
               (case side1 => exact cz (Kd.V_reads' HO359.out).2.2)
               (case side2 => exact (Kd.V_reads' HO359.out).2.1)
               rintro e w28 ⟨v361, rfl, ho0, hb⟩
               have HS0_ := (hb.cell (World.block_lt_of_cell? _ _ (hHeld.1))).trans (hHeld.1)
               have HS1_ := (hb.cell (World.block_lt_of_cell? _ _ (hHeld.2))).trans (hHeld.2)
               refine ⟨_, rfl, ?_⟩
               have n0_ := Aside0.mk (Kd.N_elder' (nz HO_0.out) (by first | exact Kd.N_base ho0 | exact Kd.R_base ho0) hb)
               have n1_ := Aside0.mk (Kd.R_below (rz HO_4.out) hb)
               have n2_ := Aside0.mk (Kd.V_elder' (by (with_reducible repeat (first | apply Kd.V_alloc | apply Kd.V_drewN | apply Kd.V_drew)); exact HO359.out) (by first | exact Kd.N_base ho0 | exact Kd.R_base ho0) hb)
               have n3_ := Aside0.mk (Kd.N_lower (Kd.N_mono (ok' := fun k_ => some k_ ≠ (.slice Ao7 t341.length co7 : Value).ownBlock ∧ some k_ ≠ (.slice (some ad352) t346.length co25 : Value).ownBlock) (Kd.R_N (Kd.R_bound ho0)) (fun k_ hk_ => ⟨(Kd.fresh' (Kd.N_lt (nz HO_0.out)) k_ hk_.2.1), (Kd.fresh' (Kd.R_lt (rz HO_4.out)) k_ hk_.2.1)⟩)) (below_size bz))
               have n4_ := Aside0.mk (below_step bz hb)
               clear HO_0
               clear HO_4
               clear HO359
               clear HB
               have HO_0 := n0_
               have HO_4 := n1_
               have HO359 := n2_
               have HO362 := n3_
               have HB := n4_
               clear n0_ n1_ n2_ n3_ n4_
               (try clear hb)
               (try clear hb2)
               (try clear hk)
               (try clear hi)
               (try clear ho0)
               refine hK.out _ _ ⟨HS0_, HS1_⟩ (fun hHeld => ?_)
               clear hK K
               refine norm_ (a' := ?_) ?_ ?_
               rotate_left
               ·show Act.put _ (some 37) _ = _
                simp only [Act.put, List.setIfInBounds_toArray, List.set_cons_zero, List.set_cons_succ, i64_w, i32_w]
                rfl
               refine pure_ (i := 13) (N := some 6) (v := ?_) (a' := ?_) (fl 14 14) rfl rfl (any_of HT_.out (by kernel_rfl)) (fun _ _ _ h => h) (Or.inl ⟨by rfl, ?_⟩) ?_ ?_
               rotate_left
               ·intro w'
                go_simp
                with_reducible rfl
               rotate_left
               ·simp only [Act.put, List.setIfInBounds_toArray, List.set_cons_zero, List.set_cons_succ, i64_w, i32_w]
                rfl
               refine done_ (done_of HT_.out (by kernel_rfl)) ?_
               obtain ⟨Ao29, co29, eo29⟩ := Kd.N_slice HO362.out
               subst eo29
               try go_wp2_with (first | ((with_reducible refine gate_callee (f := 10) rfl ?_); refine goesL_ (some 39) rfl rfl Tryd.func10 (by kernel_rfl) rfl #[.slice Ao29 t360.length co29] rfl (by (try simp only [List.map_toArray, List.map_cons, List.map_nil]); first | done | rfl | (simp only [List.length_drop, List.length_take]; rfl)) ?_; (with_reducible refine (write_Rows.calls _ _ t360 t363 _ ?side1 ?side2 A17.out (Go.Proofs.YtdnbaliibiginaaDoor.Std8.below HS_.out bz)).mono ?_); (case side1 => exact cz (Kd.N_reads' HO362.out).2.2); (case side2 => exact (Kd.N_reads' HO362.out).2.1); rintro e w30 ⟨rfl, hb⟩; refine ⟨_, rfl, ?_⟩; have n0_ := Aside0.mk (Kd.N_below (nz HO_0.out) hb); have n1_ := Aside0.mk (Kd.R_below (rz HO_4.out) hb); have n2_ := Aside0.mk (Kd.V_below (by (with_reducible repeat (first | apply Kd.V_alloc | apply Kd.V_drewN | apply Kd.V_drew)); exact HO359.out) hb); have n3_ := Aside0.mk (Kd.N_below (nz HO362.out) hb); have n4_ := Aside0.mk (below_step bz hb); clear HO_0; clear HO_4; clear HO359; clear HO362; clear HB; have HO_0 := n0_; have HO_4 := n1_; have HO359 := n2_; have HO362 := n3_; have HB := n4_; clear n0_ n1_ n2_ n3_ n4_; (try clear hb); (try clear hb2); (try clear hk); (try clear hi)) | ((with_reducible refine gate_callee (f := 12) rfl ?_); refine goesL_ (some 44) rfl rfl Tryd.func12 (by kernel_rfl) rfl #[.slice Ao29 t360.length co29, .int .i64 0] rfl (by (try simp only [List.map_toArray, List.map_cons, List.map_nil]); first | done | rfl | (simp only [List.length_drop, List.length_take]; rfl)) ?_; (with_reducible refine (write_Inside.calls k1 _ _ t360 0 t364 _ ?side1 ?side2 A19.out (Go.Proofs.YtdnbaliibiginaaDoor.Std8.below HS_.out bz)).mono ?_); (case side1 => exact cz (Kd.N_reads' HO362.out).2.2); (case side2 => exact (Kd.N_reads' HO362.out).2.1); rintro e w31 ⟨rfl, hb⟩; refine ⟨_, rfl, ?_⟩; have n0_ := Aside0.mk (Kd.N_below (nz HO_0.out) hb); have n1_ := Aside0.mk (Kd.R_below (rz HO_4.out) hb); have n2_ := Aside0.mk (Kd.V_below (by (with_reducible repeat (first | apply Kd.V_alloc | apply Kd.V_drewN | apply Kd.V_drew)); exact HO359.out) hb); have n3_ := Aside0.mk (Kd.N_below (nz HO362.out) hb); have n4_ := Aside0.mk (below_step bz hb); clear HO_0; clear HO_4; clear HO359; clear HO362; clear HB; have HO_0 := n0_; have HO_4 := n1_; have HO359 := n2_; have HO362 := n3_; have HB := n4_; clear n0_ n1_ n2_ n3_ n4_; (try clear hb); (try clear hb2); (try clear hk); (try clear hi); have p365 : 0 ≤ (0 : Int) := (by omega); have q365 : 0 < (t360.length : Int) := (by first | exact of_decide_eq_true (by first | (with_reducible assumption) | assumption) | assumption | omega); obtain ⟨ad365, A365_4, c365_4, e365, hx365_0, hx365_1, hx365_2, hx365_3, hx365_4, hl365_4, hi365_4⟩ := at_T35 (Kd.N_reads' HO362.out).2.2 0 p365 q365; cases e365; obtain ⟨ce365, hce365, hMe365, hcc365⟩ := Kd.N_get HO362.out z35 0 p365 (by first | exact q365 | exact (by first | exact of_decide_eq_true (by first | (with_reducible assumption) | assumption) | assumption | omega) | (have e_ := (Kd.N_reads' HO362.out).1; omega)); obtain ⟨ua365_4, uc365_4, rfl, ul365_4, ge365_4⟩ := k35_openF hMe365; have hv365_4 := hcc365 4 _ rfl; rw [add_field _ _ 4 (by omega)] at hv365_4; replace hv365_4 := Option.some.inj (hv365_4.symm.trans hx365_4); injection hv365_4 with hva_ hvn_ hvc_; rw [hva_] at ge365_4; rw [hvc_] at ul365_4; have HL365_4 := Aside0.mk (show Kd.V k45 45 _ w.heap.size _ _ ((rd_T35 t360 0).f4) from Kd.V_mk ul365_4 ge365_4); clear hva_ hvn_ hvc_ ge365_4 ul365_4; clear hcc365 hce365; have qi365 : (0 < t360.length) = True := eq_true (by omega); (try rw [show ((0 : Int)).toNat = 0 from rfl] at hx365_0); (try rw [show 0 * 5 = 0 from rfl] at hx365_0); (try rw [Addr.add_zero'] at hx365_0); (try rw [show ((0 : Int)).toNat = 0 from rfl] at hx365_1); (try rw [show 0 * 5 = 0 from rfl] at hx365_1); (try rw [Addr.add_zero'] at hx365_1); (try rw [show ((0 : Int)).toNat = 0 from rfl] at hx365_2); (try rw [show 0 * 5 = 0 from rfl] at hx365_2); (try rw [Addr.add_zero'] at hx365_2); (try rw [show ((0 : Int)).toNat = 0 from rfl] at hx365_3); (try rw [show 0 * 5 = 0 from rfl] at hx365_3); (try rw [Addr.add_zero'] at hx365_3); (try rw [show ((0 : Int)).toNat = 0 from rfl] at hx365_4); (try rw [show 0 * 5 = 0 from rfl] at hx365_4); (try rw [Addr.add_zero'] at hx365_4); have HR365_4 := Aside0.mk hi365_4; have HC365_4 := Aside0.mk hl365_4; clear hi365_4 hl365_4; replace p365 := eq_true p365; replace q365 := eq_true q365) | ((with_reducible refine gate_dst (N := 9) rfl ?_); (try (refine gate_guard (by rfl) ?_; dsimp only)); refine box_event ?hg (N := 9) ?hd (cs := #[.int .i64 0, .int .i64 0, .string (⟨#[]⟩ : ByteArray), .string (⟨#[]⟩ : ByteArray), .slice none 0 0]) (t := 35) ?hr ?_; (case hd => rfl); (case hg => rfl); (case hr => first | (go_simp; done) | (go_simp; rfl)); intro gb366 hg w32 hbox hb; have n0_ := Aside0.mk (Kd.N_below (Kd.N_elderB (nz HO_0.out) gb366 (Nat.le_of_eq hg.symm)) hb); have n1_ := Aside0.mk (Kd.R_below (rz HO_4.out) hb); have n2_ := Aside0.mk (Kd.V_below (Kd.V_elderB (by (with_reducible repeat (first | apply Kd.V_alloc | apply Kd.V_drewN | apply Kd.V_drew)); exact HO359.out) gb366 (Nat.le_of_eq hg.symm)) hb); have n3_ := Aside0.mk (Kd.N_below (Kd.N_elderB (nz HO362.out) gb366 (Nat.le_of_eq hg.symm)) hb); have n4_ := Aside0.mk (Kd.V_below (Kd.V_elderB (by (with_reducible repeat (first | apply Kd.V_alloc | apply Kd.V_drewN | apply Kd.V_drew)); exact HL365_4.out) gb366 (Nat.le_of_eq hg.symm)) hb); have n5_ := Aside0.mk (Kd.C_below (by repeat (first | (with_reducible exact HR365_4.out) | (with_reducible refine Kd.C_alloc ?_ _) | (with_reducible refine Kd.C_drewN ?_ _) | (with_reducible refine Kd.C_drew ?_) | exact HR365_4.out)) hb); have n6_ := Aside0.mk (below_step bz hb); have n7_ := Aside0.mk (hbox); have n8_ := Aside0.mk ((by rw [hg]; exact (below_size bz) : w.heap.size ≤ gb366)); have n9_ := Aside0.mk ((by rw [hg]; exact (below_size bz) : w.heap.size ≤ gb366)); clear HO_0; clear HO_4; clear HO359; clear HO362; clear HL365_4; clear HR365_4; clear HB; have HO_0 := n0_; have HO_4 := n1_; have HO359 := n2_; have HO362 := n3_; have HL365_4 := n4_; have HR365_4 := n5_; have HB := n6_; have BK366 := n7_; have GW366 := n8_; have GE366 := n9_; clear n0_ n1_ n2_ n3_ n4_ n5_ n6_ n7_ n8_ n9_; clear hb hbox hg; have hcz33_0 : w32.cell? ⟨gb366, 0, none⟩ = some (.int .i64 0) := (blk_cell BK366.out 0).trans rfl; have hcz33_1 : w32.cell? ⟨gb366, 1, none⟩ = some (.int .i64 0) := (blk_cell BK366.out 1).trans rfl; have hcz33_2 : w32.cell? ⟨gb366, 2, none⟩ = some (.string (⟨#[]⟩ : ByteArray)) := (blk_cell BK366.out 2).trans rfl; have hcz33_3 : w32.cell? ⟨gb366, 3, none⟩ = some (.string (⟨#[]⟩ : ByteArray)) := (blk_cell BK366.out 3).trans rfl; have hcz33_4 : w32.cell? ⟨gb366, 4, none⟩ = some (.slice none 0 0) := (blk_cell BK366.out 4).trans rfl; have hfz33_0 := blk_frozen BK366.out 0; have hfz33_1 := blk_frozen BK366.out 1; have hfz33_2 := blk_frozen BK366.out 2; have hfz33_3 := blk_frozen BK366.out 3; have hfz33_4 := blk_frozen BK366.out 4))
               go_roundg k1
               case measure => have := HK1.out; omega
               case rel => exact ⟨(x3_1 ++ t363), (wrap64 (x5_1 + 1)), (by first | rfl | (simp; done) | (simp [*]; done) | (simp; generalize ByteArray.toList _ = l_; cases l_ <;> rfl)), (by first | rfl | (simp; done) | (simp [*]; done) | (simp; generalize ByteArray.toList _ = l_; cases l_ <;> rfl)), H', ⟨by have := HK1.out; omega⟩, ⟨by (with_reducible repeat (first | apply Kd.N_alloc | apply Kd.N_drewN | apply Kd.N_drew)); exact Kd.N_mono (Kd.N_far (p := ⟨gb366, 4, none⟩) (Kd.N_far (p := ⟨gb366, 3, none⟩) (Kd.N_far (p := ⟨gb366, 2, none⟩) (Kd.N_far (p := ⟨gb366, 1, none⟩) (Kd.N_far (p := ⟨gb366, 0, none⟩) (Kd.N_mono HO_0.out (fun k_ hk => (⟨hk, hk.2⟩ : _ ∧ k_ ≠ gb366))) (fun _ hk => hk.2) (.int .i64 ((rd_T35 t360 0).f0))) (fun _ hk => hk.2) (.int .i64 ((rd_T35 t360 0).f1))) (fun _ hk => hk.2) (.string ((rd_T35 t360 0).f2))) (fun _ hk => hk.2) (.string ((rd_T35 t360 0).f3))) (fun _ hk => hk.2) (.slice A365_4 ((rd_T35 t360 0).f4).length c365_4)) (fun _ hk => hk.1.1.1)⟩, ⟨by (with_reducible repeat (first | apply Kd.R_alloc | apply Kd.R_drewN | apply Kd.R_drew)); exact Kd.R_mono (Kd.R_far (p := ⟨gb366, 4, none⟩) (Kd.R_far (p := ⟨gb366, 3, none⟩) (Kd.R_far (p := ⟨gb366, 2, none⟩) (Kd.R_far (p := ⟨gb366, 1, none⟩) (Kd.R_far (p := ⟨gb366, 0, none⟩) (Kd.R_types HO_4.out BK366.out (by decide)) (fun _ hk => hk.2) (.int .i64 ((rd_T35 t360 0).f0))) (fun _ hk => hk.2) (.int .i64 ((rd_T35 t360 0).f1))) (fun _ hk => hk.2) (.string ((rd_T35 t360 0).f2))) (fun _ hk => hk.2) (.string ((rd_T35 t360 0).f3))) (fun _ hk => hk.2) (.slice A365_4 ((rd_T35 t360 0).f4).length c365_4)) (fun _ hk => trivial)⟩, ⟨bs GE366.out⟩⟩
              ·rw [if_neg c24] at H
               have c24b0 : (t364.toList == ([] : List UInt8)) = false := beq_eq_false_iff_ne.mpr c24
               have c24b1 : (t364.toList != ([] : List UInt8)) = true := bne_iff_ne.mpr c24
               by_cases c34 : (t363.size : Int) < (wrap64 ((t364.size : Int) + ((((⟨#[60, 47]⟩ : ByteArray) ++ ((rd_T35 t360 0).f2)) ++ (⟨#[62]⟩ : ByteArray)).size : Int)))
               ·rw [if_pos c34] at H
                exact absurd ((Option.some.inj H).trans HRT_.out) (by decide)
               ·rw [if_neg c34] at H
                have c34b0 : decide ((t363.size : Int) < (wrap64 ((t364.size : Int) + ((((⟨#[60, 47]⟩ : ByteArray) ++ ((rd_T35 t360 0).f2)) ++ (⟨#[62]⟩ : ByteArray)).size : Int)))) = false := decide_eq_false c34
                clear c34
                obtain ⟨ji44, hji44⟩ : ∃ j_ : Int, (wrap64 ((t363.size : Int) - ((((⟨#[60, 47]⟩ : ByteArray) ++ ((rd_T35 t360 0).f2)) ++ (⟨#[62]⟩ : ByteArray)).size : Int))) = j_ := ⟨_, rfl⟩
                replace H : (if 0 ≤ (ji44) then (if (ji44) ≤ (t363.size : Int) then (if (t363.extract ((ji44) : Int).toNat t363.size).toList = (((⟨#[60, 47]⟩ : ByteArray) ++ ((rd_T35 t360 0).f2)) ++ (⟨#[62]⟩ : ByteArray)).toList then (if 0 ≤ (wrap64 ((ji44) - (t364.size : Int))) then (if (wrap64 ((ji44) - (t364.size : Int))) ≤ (ji44) then (if (t363.extract ((wrap64 ((ji44) - (t364.size : Int))) : Int).toNat ((ji44) : Int).toNat).toList = t364.toList then (boltinglaw08_WriteParts.l0 k1 t341 (x3_1 ++ t363) t346 (wrap64 (x5_1 + 1))) else (some false)) else (none)) else (none)) else (some false)) else (none)) else (none)) = some r := by first | (rw [hji44] at H; exact H) | (simp only [hji44] at H ⊢; exact H)
                (try rw [hji44] at A12)
                (try rw [hji44] at A16)
                (try rw [hji44] at A17)
                (try rw [hji44] at A19)
                have hji44w : (IntKind.i64.wrap ((t363.size : Int) - ((((⟨#[60, 47]⟩ : ByteArray) ++ ((rd_T35 t360 0).f2)) ++ (⟨#[62]⟩ : ByteArray)).size : Int))) = ji44 := (i64_w _).trans hji44
                (try rw [hji44] at A12)
                (try rw [hji44] at A16)
                (try rw [hji44] at A17)
                (try rw [hji44] at A19)
                have es9 : (((((⟨#[60, 47]⟩ : ByteArray) ++ ((rd_T35 t360 0).f2)) ++ (⟨#[62]⟩ : ByteArray)).size : Nat) : Int) = 2 + (((rd_T35 t360 0).f2).size : Int) + 1 := by rw [ByteArray.size_append, ByteArray.size_append]; show (((2 + _) + 1 : Nat) : Int) = _; omega
                have c34b5 := c34b0
                rw [es9] at c34b5
                have ji44v := hji44
                rw [es9] at ji44v
                have ji44u := hji44w
                rw [es9] at ji44u
                by_cases c45 : 0 ≤ (ji44)
                ·rw [if_pos c45] at H
                 have c45b0 := eq_true c45
                 have c45b1 : decide (0 ≤ (ji44)) = true := decide_eq_true c45
                 clear c45
                 by_cases c46 : (ji44) ≤ (t363.size : Int)
                 ·rw [if_pos c46] at H
                  have c46b0 := eq_true c46
                  have c46b1 : decide ((ji44) ≤ (t363.size : Int)) = true := decide_eq_true c46
                  clear c46
                  by_cases c47 : (t363.extract ((ji44) : Int).toNat t363.size).toList = (((⟨#[60, 47]⟩ : ByteArray) ++ ((rd_T35 t360 0).f2)) ++ (⟨#[62]⟩ : ByteArray)).toList
                  ·rw [if_pos c47] at H
                   have c47b0 : ((t363.extract ((ji44) : Int).toNat t363.size).toList == (((⟨#[60, 47]⟩ : ByteArray) ++ ((rd_T35 t360 0).f2)) ++ (⟨#[62]⟩ : ByteArray)).toList) = true := beq_iff_eq.mpr c47
                   have c47b1 : ((t363.extract ((ji44) : Int).toNat t363.size).toList != (((⟨#[60, 47]⟩ : ByteArray) ++ ((rd_T35 t360 0).f2)) ++ (⟨#[62]⟩ : ByteArray)).toList) = false := bne_eq_false_iff_eq.mpr c47
                   clear c47
                   obtain ⟨ji48, hji48⟩ : ∃ j_ : Int, (wrap64 ((ji44) - (t364.size : Int))) = j_ := ⟨_, rfl⟩
                   replace H : (if 0 ≤ (ji48) then (if (ji48) ≤ (ji44) then (if (t363.extract ((ji48) : Int).toNat ((ji44) : Int).toNat).toList = t364.toList then (boltinglaw08_WriteParts.l0 k1 t341 (x3_1 ++ t363) t346 (wrap64 (x5_1 + 1))) else (some false)) else (none)) else (none)) = some r := by first | (rw [hji48] at H; exact H) | (simp only [hji48] at H ⊢; exact H)
                   (try rw [hji48] at A12)
                   (try rw [hji48] at A16)
                   (try rw [hji48] at A17)
                   (try rw [hji48] at A19)
                   have hji48w : (IntKind.i64.wrap ((ji44) - (t364.size : Int))) = ji48 := (i64_w _).trans hji48
                   (try rw [hji48] at A12)
                   (try rw [hji48] at A16)
                   (try rw [hji48] at A17)
                   (try rw [hji48] at A19)
                   by_cases c49 : 0 ≤ (ji48)
                   ·rw [if_pos c49] at H
                    have c49b0 := eq_true c49
                    have c49b1 : decide (0 ≤ (ji48)) = true := decide_eq_true c49
                    clear c49
                    by_cases c50 : (ji48) ≤ (ji44)
                    ·rw [if_pos c50] at H
                     have c50b0 := eq_true c50
                     have c50b1 : decide ((ji48) ≤ (ji44)) = true := decide_eq_true c50
                     clear c50
                     have c51b0 := eq_true ((by first | exact of_decide_eq_true (by first | (with_reducible assumption) | assumption) | assumption | omega) : (ji44) ≤ (t363.size : Int))
                     by_cases c52 : (t363.extract ((ji48) : Int).toNat ((ji44) : Int).toNat).toList = t364.toList
                     ·rw [if_pos c52] at H
                      have c52b0 : ((t363.extract ((ji48) : Int).toNat ((ji44) : Int).toNat).toList == t364.toList) = true := beq_iff_eq.mpr c52
                      have c52b1 : ((t363.extract ((ji48) : Int).toNat ((ji44) : Int).toNat).toList != t364.toList) = false := bne_eq_false_iff_eq.mpr c52
                      clear c52
                      have H' := Aside0.mk H
                      clear H
                      obtain ⟨Ao53, co53, eo53⟩ := Kd.R_slice HO_4.out
                      subst eo53
                      try go_wp2
                      have n0_ := Aside0.mk (Kd.N_drew HO_0.out)
                      have n1_ := Aside0.mk (Kd.R_drew HO_4.out)
                      have n2_ := Aside0.mk (below_drew1 HB.out)
                      clear HO_0
                      clear HO_4
                      clear HB
                      have HO_0 := n0_
                      have HO_4 := n1_
                      have HB := n2_
                      clear n0_ n1_ n2_
                      have p352 : 0 ≤ (x5_1 : Int) := (by first | exact of_decide_eq_true (by first | (with_reducible assumption) | assumption) | assumption | omega)
                      have q352 : x5_1 < (t346.length : Int) := (by first | exact of_decide_eq_true (by first | (with_reducible assumption) | assumption) | assumption | omega)
                      obtain ⟨ad352, e352, hx352_0⟩ := Kd.at_int (Kd.R_reads' HO_4.out).2.2 x5_1 p352 q352
                      cases e352
                      replace p352 := eq_true p352
                      replace q352 := eq_true q352
                      have p353 : 0 ≤ (x5_1 : Int) := (by first | exact of_decide_eq_true (by first | (with_reducible assumption) | assumption) | assumption | omega)
                      have q353 : x5_1 < (t346.length : Int) := (by first | exact of_decide_eq_true (by first | (with_reducible assumption) | assumption) | assumption | omega)
                      obtain ⟨ad353, e353, hx353_0⟩ := Kd.at_int (Kd.R_reads' HO_4.out).2.2 x5_1 p353 q353
                      obtain rfl : ad352 = ad353 := (by injection e353)
                      replace p353 := eq_true p353
                      replace q353 := eq_true q353
                      refine start_ (n := 14) (S := fun w' => w'.cell? (ad352.add (x5_1).toNat) = some (.int .i64 (rd t346 x5_1)) ∧ w'.cell? (ad352.add (x5_1).toNat) = some (.int .i64 (rd t346 x5_1))) (ds := []) (fl 14 0) (by kernel_rfl) rfl rfl ⟨hx352_0, hx353_0⟩ (fun hHeld => ?_); refine with_tabW boltinglaw08_WriteParts.tab9 boltinglaw08_WriteParts.bits9 (fun HT_ HW_ => ?_)
                      generalize wr.drew = w54 at HO_0 HO_4 HB hx352_0 hx353_0 hHeld ⊢
                      refine pure_ (i := 0) (N := some 25) (v := ?_) (a' := ?_) (fl 14 1) rfl rfl (any_of HT_.out (by kernel_rfl)) (fun _ _ _ h => h) (Or.inl ⟨by rfl, ?_⟩) ?_ ?_
                      rotate_left
                      ·intro w'
                       go_simp
                       with_reducible rfl
                      rotate_left
                      ·simp only [Act.put, List.setIfInBounds_toArray, List.set_cons_zero, List.set_cons_succ, i64_w, i32_w]
                       rfl
                      refine pure_ (i := 1) (N := some 26) (v := ?_) (a' := ?_) (fl 14 2) rfl rfl (any_of HT_.out (by kernel_rfl)) (fun _ _ _ h => h) (Or.inl ⟨by rfl, ?_⟩) ?_ ?_
                      rotate_left
                      ·intro w'
                       go_simp
                       with_reducible rfl
                      rotate_left
                      ·simp only [Act.put, List.setIfInBounds_toArray, List.set_cons_zero, List.set_cons_succ, i64_w, i32_w]
                       rfl
                      refine pure_ (i := 2) (N := some 27) (v := ?_) (a' := ?_) (fl 14 3) rfl rfl (any_of HT_.out (by kernel_rfl)) (fun _ _ _ h => h) (Or.inl ⟨by rfl, ?_⟩) ?_ ?_
                      rotate_left
                      ·intro w'
                       go_simp
                       with_reducible rfl
                      rotate_left
                      ·simp only [Act.put, List.setIfInBounds_toArray, List.set_cons_zero, List.set_cons_succ, i64_w, i32_w]
                       rfl
                      refine pure_ (i := 3) (N := some 28) (v := ?_) (a' := ?_) (fl 14 4) rfl rfl (any_of HT_.out (by kernel_rfl)) (fun _ _ _ h => h) (Or.inl ⟨by rfl, ?_⟩) ?_ ?_
                      rotate_left
                      ·intro w'
                       go_simp
                       with_reducible rfl
                      rotate_left
                      ·simp only [Act.put, List.setIfInBounds_toArray, List.set_cons_zero, List.set_cons_succ, i64_w, i32_w]
                       rfl
                      refine pure_ (i := 5) (N := some 30) (v := ?_) (a' := ?_) #[true, true, true, true, false, true, false, false, false, false, false, false, false, false] rfl rfl (any_of HT_.out (by kernel_rfl)) (fun _ _ _ h => h) (Or.inl ⟨by rfl, ?_⟩) ?_ ?_
                      rotate_left
                      ·intro w'
                       go_simp
                       with_reducible rfl
                      rotate_left
                      ·simp only [Act.put, List.setIfInBounds_toArray, List.set_cons_zero, List.set_cons_succ, i64_w, i32_w]
                       rfl
                      refine pure_ (i := 6) (N := some 31) (v := ?_) (a' := ?_) #[true, true, true, true, false, true, true, false, false, false, false, false, false, false] rfl rfl (any_of HT_.out (by kernel_rfl)) (fun _ _ _ h => h) (Or.inl ⟨by rfl, ?_⟩) ?_ ?_
                      rotate_left
                      ·intro w'
                       go_simp
                       with_reducible rfl
                      rotate_left
                      ·simp only [Act.put, List.setIfInBounds_toArray, List.set_cons_zero, List.set_cons_succ, i64_w, i32_w]
                       rfl
                      refine pure_ (i := 7) (N := some 32) (v := ?_) (a' := ?_) #[true, true, true, true, false, true, true, true, false, false, false, false, false, false] rfl rfl (any_of HT_.out (by kernel_rfl)) (fun _ _ _ h => h) (Or.inl ⟨by rfl, ?_⟩) ?_ ?_
                      rotate_left
                      ·intro w'
                       go_simp
                       with_reducible rfl
                      rotate_left
                      ·simp only [Act.put, List.setIfInBounds_toArray, List.set_cons_zero, List.set_cons_succ, i64_w, i32_w]
                       rfl
                      refine pure_ (i := 8) (N := some 33) (v := ?_) (a' := ?_) #[true, true, true, true, false, true, true, true, true, false, false, false, false, false] rfl rfl (any_of HT_.out (by kernel_rfl)) (fun _ _ _ h => h) (Or.inl ⟨by rfl, ?_⟩) ?_ ?_
                      rotate_left
                      ·intro w'
                       go_simp
                       with_reducible rfl
                      rotate_left
                      ·simp only [Act.put, List.setIfInBounds_toArray, List.set_cons_zero, List.set_cons_succ, i64_w, i32_w]
                       rfl
                      refine take_ (i := 4) (N := some 29) (v := ?_) (a' := ?_) (fl 14 9) rfl rfl (take_ofW HT_.out HW_.out (by kernel_rfl)) (fun _ _ _ h => h) (Or.inl ⟨by rfl, ?_⟩) hHeld ?_ ?_
                      rotate_left
                      ·rintro w' ⟨s0, s1⟩
                       go_simp
                       with_reducible rfl
                      rotate_left
                      ·simp only [Act.put, List.setIfInBounds_toArray, List.set_cons_zero, List.set_cons_succ, i64_w, i32_w]
                       rfl
                      refine take_ (i := 9) (N := some 34) (v := ?_) (a' := ?_) (fl 14 10) rfl rfl (take_ofW HT_.out HW_.out (by kernel_rfl)) (fun _ _ _ h => h) (Or.inl ⟨by rfl, ?_⟩) hHeld ?_ ?_
                      rotate_left
                      ·rintro w' ⟨s0, s1⟩
                       go_simp
                       with_reducible rfl
                      rotate_left
                      ·simp only [Act.put, List.setIfInBounds_toArray, List.set_cons_zero, List.set_cons_succ, i64_w, i32_w]
                       rfl
                      refine one_ (i := 10) (N := some 35) (fl 14 11) rfl rfl (one_of HT_.out (by kernel_rfl)) (by decide) (fun K hK => ?_)
                      refine goes_ Tryd.func16 (by kernel_rfl) rfl #[.slice Ao7 t341.length co7, .int .i64 (rd t346 x5_1)] (by rfl) rfl rfl (by (try simp only [List.map_toArray, List.map_cons, List.map_nil]); first | done | rfl | (simp only [List.length_drop, List.length_take]; rfl)) ?_
                      with_reducible refine (boltingref04_End.calls k1 _ _ t341 (rd t346 x5_1) t354 _ ?side1 ?side2 A12.out).mono ?_
                      (case side1 => exact cz (Kd.N_reads' HO_0.out).2.2)
                      (case side2 => exact (Kd.N_reads' HO_0.out).2.1)
                      rintro e w' ⟨rfl, ⟨nd, rfl⟩⟩
                      refine ⟨_, rfl, ?_⟩
                      have q55 : (t354 : Int) ≤ ((t341.length : Int) : Int) := (by first | exact of_decide_eq_true (by first | (with_reducible assumption) | assumption) | assumption | omega)
                      obtain ⟨i055, hi055, _, hsz55, _⟩ := info_parts info35
                      have hroom55 : t341.length ≤ co7 := (Kd.N_reads' HO_0.out).2.1
                      have hC55 : Kd.F k35 _ _ Ao7 t341.length t341 := (Kd.V_at (base := w.heap.size) (Kd.N_V HO_0.out)).2.2
                      have ql55 : ((rd t346 x5_1) : Int) ≤ (t354 : Int) := (by first | exact of_decide_eq_true (by first | (with_reducible assumption) | assumption) | assumption | omega)
                      have q055 : (0 : Int) ≤ ((rd t346 x5_1) : Int) := (by first | exact of_decide_eq_true (by first | (with_reducible assumption) | assumption) | assumption | omega)
                      have hcut55 := cut_mid (P := Tryd.prog) 22 35 .i64 .i64 Tryd.underlying22 hi055 5 hsz55 Ao7 t341.length co7 (rd t346 x5_1) t354 q055 ql55 q55 hroom55
                      have hr55 := Kd.F_mid (lo := ((rd t346 x5_1) : Int).toNat) (hi := (t354 : Int).toNat) (c := co7) hC55 (by omega) (by omega) hroom55
                      obtain ⟨A55, hA55⟩ : ∃ A1, A1 = (if co7 = ((rd t346 x5_1) : Int).toNat then Ao7 else (Ao7 : Option Addr).map (·.add (((rd t346 x5_1) : Int).toNat * 5))) := ⟨_, rfl⟩
                      obtain ⟨c55, hc55⟩ : ∃ c1, c1 = co7 - ((rd t346 x5_1) : Int).toNat := ⟨_, rfl⟩
                      have hy55 : y355.length = (t354 : Int).toNat - ((rd t346 x5_1) : Int).toNat := (by rw [Ny355.out, List.length_drop, List.length_take] <;> omega)
                      rw [show ((t341).take (t354 : Int).toNat).drop ((rd t346 x5_1) : Int).toNat = y355 from Ny355.out.symm] at hr55
                      replace hr55 : Kd.F k35 _ _ A55 y355.length y355 := (by rw [hA55]; exact hr55)
                      rw [← hy55, ← hA55, ← hc55] at hcut55
                      have HO359 := Aside0.mk (show Kd.V k35 35 _ w.heap.size _ (.slice A55 y355.length c55) y355 from Kd.V_mk (by rw [hy55, hc55]; exact Nat.sub_le_sub_right (Nat.le_trans (by omega) hroom55) _) hr55)
                      have HC359 := Aside0.mk (show y355.length ≤ c55 from by rw [hy55, hc55]; exact Nat.sub_le_sub_right (Nat.le_trans (by omega) hroom55) _)
                      clear hr55 hC55 hroom55 hi055 hsz55 hc55
                      have KY55 := Aside0.mk hy55
                      have KA55 := Aside0.mk hA55
                      clear hy55 hA55
                      replace q55 := eq_true q55
                      refine hK.out _ _ ⟨hHeld.1, hHeld.2⟩ (fun hHeld => ?_)
                      clear hK K
                      refine norm_ (a' := ?_) ?_ ?_
                      rotate_left
                      ·show Act.put _ (some 35) _ = _
                       simp only [Act.put, List.setIfInBounds_toArray, List.set_cons_zero, List.set_cons_succ, i64_w, i32_w]
                       rfl
                      refine pure_ (i := 11) (N := some 36) (v := ?_) (a' := ?_) (fl 14 12) rfl rfl (any_of HT_.out (by kernel_rfl)) (fun _ _ _ h => h) (Or.inl ⟨by rfl, ?_⟩) ?_ ?_
                      rotate_left
                      ·intro w'
                       go_simp
                       with_reducible rfl
                      rotate_left
                      ·simp only [Act.put, List.setIfInBounds_toArray, List.set_cons_zero, List.set_cons_succ, i64_w, i32_w]
                       rfl
                      refine one_ (i := 12) (N := some 37) (fl 14 13) rfl rfl (one_of HT_.out (by kernel_rfl)) (by decide) (fun K hK => ?_)
                      refine goes_ Tryd.func15 (by kernel_rfl) rfl #[.slice A55 y355.length c55, .int .i64 0] (by rfl) rfl rfl (by (try simp only [List.map_toArray, List.map_cons, List.map_nil]); first | done | rfl | (simp only [List.length_drop, List.length_take]; rfl)) ?_
                      with_reducible refine (boltingref04_Moved.calls k1 _ _ y355 0 t360 _ ?side1 ?side2 A16.out).mono ?_
                      (case side1 => exact cz (Kd.V_reads' HO359.out).2.2)
                      (case side2 => exact (Kd.V_reads' HO359.out).2.1)
                      rintro e w56 ⟨v361, rfl, ho0, hb⟩
                      have HS0_ := (hb.cell (World.block_lt_of_cell? _ _ (hHeld.1))).trans (hHeld.1)
                      have HS1_ := (hb.cell (World.block_lt_of_cell? _ _ (hHeld.2))).trans (hHeld.2)
                      refine ⟨_, rfl, ?_⟩
                      have n0_ := Aside0.mk (Kd.N_elder' (nz HO_0.out) (by first | exact Kd.N_base ho0 | exact Kd.R_base ho0) hb)
                      have n1_ := Aside0.mk (Kd.R_below (rz HO_4.out) hb)
                      have n2_ := Aside0.mk (Kd.V_elder' (by (with_reducible repeat (first | apply Kd.V_alloc | apply Kd.V_drewN | apply Kd.V_drew)); exact HO359.out) (by first | exact Kd.N_base ho0 | exact Kd.R_base ho0) hb)
                      have n3_ := Aside0.mk (Kd.N_lower (Kd.N_mono (ok' := fun k_ => some k_ ≠ (.slice Ao7 t341.length co7 : Value).ownBlock ∧ some k_ ≠ (.slice (some ad352) t346.length co53 : Value).ownBlock) (Kd.R_N (Kd.R_bound ho0)) (fun k_ hk_ => ⟨(Kd.fresh' (Kd.N_lt (nz HO_0.out)) k_ hk_.2.1), (Kd.fresh' (Kd.R_lt (rz HO_4.out)) k_ hk_.2.1)⟩)) (below_size bz))
                      have n4_ := Aside0.mk (below_step bz hb)
                      clear HO_0
                      clear HO_4
                      clear HO359
                      clear HB
                      have HO_0 := n0_
                      have HO_4 := n1_
                      have HO359 := n2_
                      have HO362 := n3_
                      have HB := n4_
                      clear n0_ n1_ n2_ n3_ n4_
                      (try clear hb)
                      (try clear hb2)
                      (try clear hk)
                      (try clear hi)
                      (try clear ho0)
                      refine hK.out _ _ ⟨HS0_, HS1_⟩ (fun hHeld => ?_)
                      clear hK K
                      refine norm_ (a' := ?_) ?_ ?_
                      rotate_left
                      ·show Act.put _ (some 37) _ = _
                       simp only [Act.put, List.setIfInBounds_toArray, List.set_cons_zero, List.set_cons_succ, i64_w, i32_w]
                       rfl
                      refine pure_ (i := 13) (N := some 6) (v := ?_) (a' := ?_) (fl 14 14) rfl rfl (any_of HT_.out (by kernel_rfl)) (fun _ _ _ h => h) (Or.inl ⟨by rfl, ?_⟩) ?_ ?_
                      rotate_left
                      ·intro w'
                       go_simp
                       with_reducible rfl
                      rotate_left
                      ·simp only [Act.put, List.setIfInBounds_toArray, List.set_cons_zero, List.set_cons_succ, i64_w, i32_w]
                       rfl
                      refine done_ (done_of HT_.out (by kernel_rfl)) ?_
                      obtain ⟨Ao57, co57, eo57⟩ := Kd.N_slice HO362.out
                      subst eo57
                      try go_wp2_with (first | ((with_reducible refine gate_callee (f := 10) rfl ?_); refine goesL_ (some 39) rfl rfl Tryd.func10 (by kernel_rfl) rfl #[.slice Ao57 t360.length co57] rfl (by (try simp only [List.map_toArray, List.map_cons, List.map_nil]); first | done | rfl | (simp only [List.length_drop, List.length_take]; rfl)) ?_; (with_reducible refine (write_Rows.calls _ _ t360 t363 _ ?side1 ?side2 A17.out (Go.Proofs.YtdnbaliibiginaaDoor.Std8.below HS_.out bz)).mono ?_); (case side1 => exact cz (Kd.N_reads' HO362.out).2.2); (case side2 => exact (Kd.N_reads' HO362.out).2.1); rintro e w58 ⟨rfl, hb⟩; refine ⟨_, rfl, ?_⟩; have n0_ := Aside0.mk (Kd.N_below (nz HO_0.out) hb); have n1_ := Aside0.mk (Kd.R_below (rz HO_4.out) hb); have n2_ := Aside0.mk (Kd.V_below (by (with_reducible repeat (first | apply Kd.V_alloc | apply Kd.V_drewN | apply Kd.V_drew)); exact HO359.out) hb); have n3_ := Aside0.mk (Kd.N_below (nz HO362.out) hb); have n4_ := Aside0.mk (below_step bz hb); clear HO_0; clear HO_4; clear HO359; clear HO362; clear HB; have HO_0 := n0_; have HO_4 := n1_; have HO359 := n2_; have HO362 := n3_; have HB := n4_; clear n0_ n1_ n2_ n3_ n4_; (try clear hb); (try clear hb2); (try clear hk); (try clear hi)) | ((with_reducible refine gate_callee (f := 12) rfl ?_); refine goesL_ (some 44) rfl rfl Tryd.func12 (by kernel_rfl) rfl #[.slice Ao57 t360.length co57, .int .i64 0] rfl (by (try simp only [List.map_toArray, List.map_cons, List.map_nil]); first | done | rfl | (simp only [List.length_drop, List.length_take]; rfl)) ?_; (with_reducible refine (write_Inside.calls k1 _ _ t360 0 t364 _ ?side1 ?side2 A19.out (Go.Proofs.YtdnbaliibiginaaDoor.Std8.below HS_.out bz)).mono ?_); (case side1 => exact cz (Kd.N_reads' HO362.out).2.2); (case side2 => exact (Kd.N_reads' HO362.out).2.1); rintro e w59 ⟨rfl, hb⟩; refine ⟨_, rfl, ?_⟩; have n0_ := Aside0.mk (Kd.N_below (nz HO_0.out) hb); have n1_ := Aside0.mk (Kd.R_below (rz HO_4.out) hb); have n2_ := Aside0.mk (Kd.V_below (by (with_reducible repeat (first | apply Kd.V_alloc | apply Kd.V_drewN | apply Kd.V_drew)); exact HO359.out) hb); have n3_ := Aside0.mk (Kd.N_below (nz HO362.out) hb); have n4_ := Aside0.mk (below_step bz hb); clear HO_0; clear HO_4; clear HO359; clear HO362; clear HB; have HO_0 := n0_; have HO_4 := n1_; have HO359 := n2_; have HO362 := n3_; have HB := n4_; clear n0_ n1_ n2_ n3_ n4_; (try clear hb); (try clear hb2); (try clear hk); (try clear hi); have p365 : 0 ≤ (0 : Int) := (by omega); have q365 : 0 < (t360.length : Int) := (by first | exact of_decide_eq_true (by first | (with_reducible assumption) | assumption) | assumption | omega); obtain ⟨ad365, A365_4, c365_4, e365, hx365_0, hx365_1, hx365_2, hx365_3, hx365_4, hl365_4, hi365_4⟩ := at_T35 (Kd.N_reads' HO362.out).2.2 0 p365 q365; cases e365; obtain ⟨ce365, hce365, hMe365, hcc365⟩ := Kd.N_get HO362.out z35 0 p365 (by first | exact q365 | exact (by first | exact of_decide_eq_true (by first | (with_reducible assumption) | assumption) | assumption | omega) | (have e_ := (Kd.N_reads' HO362.out).1; omega)); obtain ⟨ua365_4, uc365_4, rfl, ul365_4, ge365_4⟩ := k35_openF hMe365; have hv365_4 := hcc365 4 _ rfl; rw [add_field _ _ 4 (by omega)] at hv365_4; replace hv365_4 := Option.some.inj (hv365_4.symm.trans hx365_4); injection hv365_4 with hva_ hvn_ hvc_; rw [hva_] at ge365_4; rw [hvc_] at ul365_4; have HL365_4 := Aside0.mk (show Kd.V k45 45 _ w.heap.size _ _ ((rd_T35 t360 0).f4) from Kd.V_mk ul365_4 ge365_4); clear hva_ hvn_ hvc_ ge365_4 ul365_4; clear hcc365 hce365; have qi365 : (0 < t360.length) = True := eq_true (by omega); (try rw [show ((0 : Int)).toNat = 0 from rfl] at hx365_0); (try rw [show 0 * 5 = 0 from rfl] at hx365_0); (try rw [Addr.add_zero'] at hx365_0); (try rw [show ((0 : Int)).toNat = 0 from rfl] at hx365_1); (try rw [show 0 * 5 = 0 from rfl] at hx365_1); (try rw [Addr.add_zero'] at hx365_1); (try rw [show ((0 : Int)).toNat = 0 from rfl] at hx365_2); (try rw [show 0 * 5 = 0 from rfl] at hx365_2); (try rw [Addr.add_zero'] at hx365_2); (try rw [show ((0 : Int)).toNat = 0 from rfl] at hx365_3); (try rw [show 0 * 5 = 0 from rfl] at hx365_3); (try rw [Addr.add_zero'] at hx365_3); (try rw [show ((0 : Int)).toNat = 0 from rfl] at hx365_4); (try rw [show 0 * 5 = 0 from rfl] at hx365_4); (try rw [Addr.add_zero'] at hx365_4); have HR365_4 := Aside0.mk hi365_4; have HC365_4 := Aside0.mk hl365_4; clear hi365_4 hl365_4; replace p365 := eq_true p365; replace q365 := eq_true q365) | ((with_reducible refine gate_dst (N := 9) rfl ?_); (try (refine gate_guard (by rfl) ?_; dsimp only)); refine box_event ?hg (N := 9) ?hd (cs := #[.int .i64 0, .int .i64 0, .string (⟨#[]⟩ : ByteArray), .string (⟨#[]⟩ : ByteArray), .slice none 0 0]) (t := 35) ?hr ?_; (case hd => rfl); (case hg => rfl); (case hr => first | (go_simp; done) | (go_simp; rfl)); intro gb366 hg w60 hbox hb; have n0_ := Aside0.mk (Kd.N_below (Kd.N_elderB (nz HO_0.out) gb366 (Nat.le_of_eq hg.symm)) hb); have n1_ := Aside0.mk (Kd.R_below (rz HO_4.out) hb); have n2_ := Aside0.mk (Kd.V_below (Kd.V_elderB (by (with_reducible repeat (first | apply Kd.V_alloc | apply Kd.V_drewN | apply Kd.V_drew)); exact HO359.out) gb366 (Nat.le_of_eq hg.symm)) hb); have n3_ := Aside0.mk (Kd.N_below (Kd.N_elderB (nz HO362.out) gb366 (Nat.le_of_eq hg.symm)) hb); have n4_ := Aside0.mk (Kd.V_below (Kd.V_elderB (by (with_reducible repeat (first | apply Kd.V_alloc | apply Kd.V_drewN | apply Kd.V_drew)); exact HL365_4.out) gb366 (Nat.le_of_eq hg.symm)) hb); have n5_ := Aside0.mk (Kd.C_below (by repeat (first | (with_reducible exact HR365_4.out) | (with_reducible refine Kd.C_alloc ?_ _) | (with_reducible refine Kd.C_drewN ?_ _) | (with_reducible refine Kd.C_drew ?_) | exact HR365_4.out)) hb); have n6_ := Aside0.mk (below_step bz hb); have n7_ := Aside0.mk (hbox); have n8_ := Aside0.mk ((by rw [hg]; exact (below_size bz) : w.heap.size ≤ gb366)); have n9_ := Aside0.mk ((by rw [hg]; exact (below_size bz) : w.heap.size ≤ gb366)); clear HO_0; clear HO_4; clear HO359; clear HO362; clear HL365_4; clear HR365_4; clear HB; have HO_0 := n0_; have HO_4 := n1_; have HO359 := n2_; have HO362 := n3_; have HL365_4 := n4_; have HR365_4 := n5_; have HB := n6_; have BK366 := n7_; have GW366 := n8_; have GE366 := n9_; clear n0_ n1_ n2_ n3_ n4_ n5_ n6_ n7_ n8_ n9_; clear hb hbox hg; have hcz61_0 : w60.cell? ⟨gb366, 0, none⟩ = some (.int .i64 0) := (blk_cell BK366.out 0).trans rfl; have hcz61_1 : w60.cell? ⟨gb366, 1, none⟩ = some (.int .i64 0) := (blk_cell BK366.out 1).trans rfl; have hcz61_2 : w60.cell? ⟨gb366, 2, none⟩ = some (.string (⟨#[]⟩ : ByteArray)) := (blk_cell BK366.out 2).trans rfl; have hcz61_3 : w60.cell? ⟨gb366, 3, none⟩ = some (.string (⟨#[]⟩ : ByteArray)) := (blk_cell BK366.out 3).trans rfl; have hcz61_4 : w60.cell? ⟨gb366, 4, none⟩ = some (.slice none 0 0) := (blk_cell BK366.out 4).trans rfl; have hfz61_0 := blk_frozen BK366.out 0; have hfz61_1 := blk_frozen BK366.out 1; have hfz61_2 := blk_frozen BK366.out 2; have hfz61_3 := blk_frozen BK366.out 3; have hfz61_4 := blk_frozen BK366.out 4))
                      go_roundg k1
                      case measure => have := HK1.out; omega
                      case rel => exact ⟨(x3_1 ++ t363), (wrap64 (x5_1 + 1)), (by first | rfl | (simp; done) | (simp [*]; done) | (simp; generalize ByteArray.toList _ = l_; cases l_ <;> rfl)), (by first | rfl | (simp; done) | (simp [*]; done) | (simp; generalize ByteArray.toList _ = l_; cases l_ <;> rfl)), H', ⟨by have := HK1.out; omega⟩, ⟨by (with_reducible repeat (first | apply Kd.N_alloc | apply Kd.N_drewN | apply Kd.N_drew)); exact Kd.N_mono (Kd.N_far (p := ⟨gb366, 4, none⟩) (Kd.N_far (p := ⟨gb366, 3, none⟩) (Kd.N_far (p := ⟨gb366, 2, none⟩) (Kd.N_far (p := ⟨gb366, 1, none⟩) (Kd.N_far (p := ⟨gb366, 0, none⟩) (Kd.N_mono HO_0.out (fun k_ hk => (⟨hk, hk.2⟩ : _ ∧ k_ ≠ gb366))) (fun _ hk => hk.2) (.int .i64 ((rd_T35 t360 0).f0))) (fun _ hk => hk.2) (.int .i64 ((rd_T35 t360 0).f1))) (fun _ hk => hk.2) (.string ((rd_T35 t360 0).f2))) (fun _ hk => hk.2) (.string ((rd_T35 t360 0).f3))) (fun _ hk => hk.2) (.slice A365_4 ((rd_T35 t360 0).f4).length c365_4)) (fun _ hk => hk.1.1.1)⟩, ⟨by (with_reducible repeat (first | apply Kd.R_alloc | apply Kd.R_drewN | apply Kd.R_drew)); exact Kd.R_mono (Kd.R_far (p := ⟨gb366, 4, none⟩) (Kd.R_far (p := ⟨gb366, 3, none⟩) (Kd.R_far (p := ⟨gb366, 2, none⟩) (Kd.R_far (p := ⟨gb366, 1, none⟩) (Kd.R_far (p := ⟨gb366, 0, none⟩) (Kd.R_types HO_4.out BK366.out (by decide)) (fun _ hk => hk.2) (.int .i64 ((rd_T35 t360 0).f0))) (fun _ hk => hk.2) (.int .i64 ((rd_T35 t360 0).f1))) (fun _ hk => hk.2) (.string ((rd_T35 t360 0).f2))) (fun _ hk => hk.2) (.string ((rd_T35 t360 0).f3))) (fun _ hk => hk.2) (.slice A365_4 ((rd_T35 t360 0).f4).length c365_4)) (fun _ hk => trivial)⟩, ⟨bs GE366.out⟩⟩
                     ·rw [if_neg c52] at H
                      exact absurd ((Option.some.inj H).trans HRT_.out) (by decide)
                    ·rw [if_neg c50] at H
                     exact absurd H (by simp)
                   ·rw [if_neg c49] at H
                    exact absurd H (by simp)
                  ·rw [if_neg c47] at H
                   exact absurd ((Option.some.inj H).trans HRT_.out) (by decide)
                 ·rw [if_neg c46] at H
                  exact absurd H (by simp)
                ·rw [if_neg c45] at H
                 exact absurd H (by simp)
             ·rw [if_neg c23] at H
              have c23b0 : (((rd_T35 t360 0).f1) == 0) = false := beq_eq_false_iff_ne.mpr c23
              have c23b1 : (((rd_T35 t360 0).f1) != 0) = true := bne_iff_ne.mpr c23
              have H' := Aside0.mk H
              clear H
              obtain ⟨Ao80, co80, eo80⟩ := Kd.R_slice HO_4.out
              subst eo80
              try go_wp2
              have n0_ := Aside0.mk (Kd.N_drew HO_0.out)
              have n1_ := Aside0.mk (Kd.R_drew HO_4.out)
              have n2_ := Aside0.mk (below_drew1 HB.out)
              clear HO_0
              clear HO_4
              clear HB
              have HO_0 := n0_
              have HO_4 := n1_
              have HB := n2_
              clear n0_ n1_ n2_
              have p352 : 0 ≤ (x5_1 : Int) := (by first | exact of_decide_eq_true (by first | (with_reducible assumption) | assumption) | assumption | omega)
              have q352 : x5_1 < (t346.length : Int) := (by first | exact of_decide_eq_true (by first | (with_reducible assumption) | assumption) | assumption | omega)
              obtain ⟨ad352, e352, hx352_0⟩ := Kd.at_int (Kd.R_reads' HO_4.out).2.2 x5_1 p352 q352
              cases e352
              replace p352 := eq_true p352
              replace q352 := eq_true q352
              have p353 : 0 ≤ (x5_1 : Int) := (by first | exact of_decide_eq_true (by first | (with_reducible assumption) | assumption) | assumption | omega)
              have q353 : x5_1 < (t346.length : Int) := (by first | exact of_decide_eq_true (by first | (with_reducible assumption) | assumption) | assumption | omega)
              obtain ⟨ad353, e353, hx353_0⟩ := Kd.at_int (Kd.R_reads' HO_4.out).2.2 x5_1 p353 q353
              obtain rfl : ad352 = ad353 := (by injection e353)
              replace p353 := eq_true p353
              replace q353 := eq_true q353
              refine start_ (n := 14) (S := fun w' => w'.cell? (ad352.add (x5_1).toNat) = some (.int .i64 (rd t346 x5_1)) ∧ w'.cell? (ad352.add (x5_1).toNat) = some (.int .i64 (rd t346 x5_1))) (ds := []) (fl 14 0) (by kernel_rfl) rfl rfl ⟨hx352_0, hx353_0⟩ (fun hHeld => ?_); refine with_tabW boltinglaw08_WriteParts.tab9 boltinglaw08_WriteParts.bits9 (fun HT_ HW_ => ?_)
              generalize wr.drew = w81 at HO_0 HO_4 HB hx352_0 hx353_0 hHeld ⊢
              refine pure_ (i := 0) (N := some 25) (v := ?_) (a' := ?_) (fl 14 1) rfl rfl (any_of HT_.out (by kernel_rfl)) (fun _ _ _ h => h) (Or.inl ⟨by rfl, ?_⟩) ?_ ?_
              rotate_left
              ·intro w'
               go_simp
               with_reducible rfl
              rotate_left
              ·simp only [Act.put, List.setIfInBounds_toArray, List.set_cons_zero, List.set_cons_succ, i64_w, i32_w]
               rfl
              refine pure_ (i := 1) (N := some 26) (v := ?_) (a' := ?_) (fl 14 2) rfl rfl (any_of HT_.out (by kernel_rfl)) (fun _ _ _ h => h) (Or.inl ⟨by rfl, ?_⟩) ?_ ?_
              rotate_left
              ·intro w'
               go_simp
               with_reducible rfl
              rotate_left
              ·simp only [Act.put, List.setIfInBounds_toArray, List.set_cons_zero, List.set_cons_succ, i64_w, i32_w]
               rfl
              refine pure_ (i := 2) (N := some 27) (v := ?_) (a' := ?_) (fl 14 3) rfl rfl (any_of HT_.out (by kernel_rfl)) (fun _ _ _ h => h) (Or.inl ⟨by rfl, ?_⟩) ?_ ?_
              rotate_left
              ·intro w'
               go_simp
               with_reducible rfl
              rotate_left
              ·simp only [Act.put, List.setIfInBounds_toArray, List.set_cons_zero, List.set_cons_succ, i64_w, i32_w]
               rfl
              refine pure_ (i := 3) (N := some 28) (v := ?_) (a' := ?_) (fl 14 4) rfl rfl (any_of HT_.out (by kernel_rfl)) (fun _ _ _ h => h) (Or.inl ⟨by rfl, ?_⟩) ?_ ?_
              rotate_left
              ·intro w'
               go_simp
               with_reducible rfl
              rotate_left
              ·simp only [Act.put, List.setIfInBounds_toArray, List.set_cons_zero, List.set_cons_succ, i64_w, i32_w]
               rfl
              refine pure_ (i := 5) (N := some 30) (v := ?_) (a' := ?_) #[true, true, true, true, false, true, false, false, false, false, false, false, false, false] rfl rfl (any_of HT_.out (by kernel_rfl)) (fun _ _ _ h => h) (Or.inl ⟨by rfl, ?_⟩) ?_ ?_
              rotate_left
              ·intro w'
               go_simp
               with_reducible rfl
              rotate_left
              ·simp only [Act.put, List.setIfInBounds_toArray, List.set_cons_zero, List.set_cons_succ, i64_w, i32_w]
               rfl
              refine pure_ (i := 6) (N := some 31) (v := ?_) (a' := ?_) #[true, true, true, true, false, true, true, false, false, false, false, false, false, false] rfl rfl (any_of HT_.out (by kernel_rfl)) (fun _ _ _ h => h) (Or.inl ⟨by rfl, ?_⟩) ?_ ?_
              rotate_left
              ·intro w'
               go_simp
               with_reducible rfl
              rotate_left
              ·simp only [Act.put, List.setIfInBounds_toArray, List.set_cons_zero, List.set_cons_succ, i64_w, i32_w]
               rfl
              refine pure_ (i := 7) (N := some 32) (v := ?_) (a' := ?_) #[true, true, true, true, false, true, true, true, false, false, false, false, false, false] rfl rfl (any_of HT_.out (by kernel_rfl)) (fun _ _ _ h => h) (Or.inl ⟨by rfl, ?_⟩) ?_ ?_
              rotate_left
              ·intro w'
               go_simp
               with_reducible rfl
              rotate_left
              ·simp only [Act.put, List.setIfInBounds_toArray, List.set_cons_zero, List.set_cons_succ, i64_w, i32_w]
               rfl
              refine pure_ (i := 8) (N := some 33) (v := ?_) (a' := ?_) #[true, true, true, true, false, true, true, true, true, false, false, false, false, false] rfl rfl (any_of HT_.out (by kernel_rfl)) (fun _ _ _ h => h) (Or.inl ⟨by rfl, ?_⟩) ?_ ?_
              rotate_left
              ·intro w'
               go_simp
               with_reducible rfl
              rotate_left
              ·simp only [Act.put, List.setIfInBounds_toArray, List.set_cons_zero, List.set_cons_succ, i64_w, i32_w]
               rfl
              refine take_ (i := 4) (N := some 29) (v := ?_) (a' := ?_) (fl 14 9) rfl rfl (take_ofW HT_.out HW_.out (by kernel_rfl)) (fun _ _ _ h => h) (Or.inl ⟨by rfl, ?_⟩) hHeld ?_ ?_
              rotate_left
              ·rintro w' ⟨s0, s1⟩
               go_simp
               with_reducible rfl
              rotate_left
              ·simp only [Act.put, List.setIfInBounds_toArray, List.set_cons_zero, List.set_cons_succ, i64_w, i32_w]
               rfl
              refine take_ (i := 9) (N := some 34) (v := ?_) (a' := ?_) (fl 14 10) rfl rfl (take_ofW HT_.out HW_.out (by kernel_rfl)) (fun _ _ _ h => h) (Or.inl ⟨by rfl, ?_⟩) hHeld ?_ ?_
              rotate_left
              ·rintro w' ⟨s0, s1⟩
               go_simp
               with_reducible rfl
              rotate_left
              ·simp only [Act.put, List.setIfInBounds_toArray, List.set_cons_zero, List.set_cons_succ, i64_w, i32_w]
               rfl
              refine one_ (i := 10) (N := some 35) (fl 14 11) rfl rfl (one_of HT_.out (by kernel_rfl)) (by decide) (fun K hK => ?_)
              refine goes_ Tryd.func16 (by kernel_rfl) rfl #[.slice Ao7 t341.length co7, .int .i64 (rd t346 x5_1)] (by rfl) rfl rfl (by (try simp only [List.map_toArray, List.map_cons, List.map_nil]); first | done | rfl | (simp only [List.length_drop, List.length_take]; rfl)) ?_
              with_reducible refine (boltingref04_End.calls k1 _ _ t341 (rd t346 x5_1) t354 _ ?side1 ?side2 A12.out).mono ?_
              (case side1 => exact cz (Kd.N_reads' HO_0.out).2.2)
              (case side2 => exact (Kd.N_reads' HO_0.out).2.1)
              rintro e w' ⟨rfl, ⟨nd, rfl⟩⟩
              refine ⟨_, rfl, ?_⟩
              have q82 : (t354 : Int) ≤ ((t341.length : Int) : Int) := (by first | exact of_decide_eq_true (by first | (with_reducible assumption) | assumption) | assumption | omega)
              obtain ⟨i082, hi082, _, hsz82, _⟩ := info_parts info35
              have hroom82 : t341.length ≤ co7 := (Kd.N_reads' HO_0.out).2.1
              have hC82 : Kd.F k35 _ _ Ao7 t341.length t341 := (Kd.V_at (base := w.heap.size) (Kd.N_V HO_0.out)).2.2
              have ql82 : ((rd t346 x5_1) : Int) ≤ (t354 : Int) := (by first | exact of_decide_eq_true (by first | (with_reducible assumption) | assumption) | assumption | omega)
              have q082 : (0 : Int) ≤ ((rd t346 x5_1) : Int) := (by first | exact of_decide_eq_true (by first | (with_reducible assumption) | assumption) | assumption | omega)
              have hcut82 := cut_mid (P := Tryd.prog) 22 35 .i64 .i64 Tryd.underlying22 hi082 5 hsz82 Ao7 t341.length co7 (rd t346 x5_1) t354 q082 ql82 q82 hroom82
              have hr82 := Kd.F_mid (lo := ((rd t346 x5_1) : Int).toNat) (hi := (t354 : Int).toNat) (c := co7) hC82 (by omega) (by omega) hroom82
              obtain ⟨A82, hA82⟩ : ∃ A1, A1 = (if co7 = ((rd t346 x5_1) : Int).toNat then Ao7 else (Ao7 : Option Addr).map (·.add (((rd t346 x5_1) : Int).toNat * 5))) := ⟨_, rfl⟩
              obtain ⟨c82, hc82⟩ : ∃ c1, c1 = co7 - ((rd t346 x5_1) : Int).toNat := ⟨_, rfl⟩
              have hy82 : y355.length = (t354 : Int).toNat - ((rd t346 x5_1) : Int).toNat := (by rw [Ny355.out, List.length_drop, List.length_take] <;> omega)
              rw [show ((t341).take (t354 : Int).toNat).drop ((rd t346 x5_1) : Int).toNat = y355 from Ny355.out.symm] at hr82
              replace hr82 : Kd.F k35 _ _ A82 y355.length y355 := (by rw [hA82]; exact hr82)
              rw [← hy82, ← hA82, ← hc82] at hcut82
              have HO359 := Aside0.mk (show Kd.V k35 35 _ w.heap.size _ (.slice A82 y355.length c82) y355 from Kd.V_mk (by rw [hy82, hc82]; exact Nat.sub_le_sub_right (Nat.le_trans (by omega) hroom82) _) hr82)
              have HC359 := Aside0.mk (show y355.length ≤ c82 from by rw [hy82, hc82]; exact Nat.sub_le_sub_right (Nat.le_trans (by omega) hroom82) _)
              clear hr82 hC82 hroom82 hi082 hsz82 hc82
              have KY82 := Aside0.mk hy82
              have KA82 := Aside0.mk hA82
              clear hy82 hA82
              replace q82 := eq_true q82
              refine hK.out _ _ ⟨hHeld.1, hHeld.2⟩ (fun hHeld => ?_)
              clear hK K
              refine norm_ (a' := ?_) ?_ ?_
              rotate_left
              ·show Act.put _ (some 35) _ = _
               simp only [Act.put, List.setIfInBounds_toArray, List.set_cons_zero, List.set_cons_succ, i64_w, i32_w]
               rfl
              refine pure_ (i := 11) (N := some 36) (v := ?_) (a' := ?_) (fl 14 12) rfl rfl (any_of HT_.out (by kernel_rfl)) (fun _ _ _ h => h) (Or.inl ⟨by rfl, ?_⟩) ?_ ?_
              rotate_left
              ·intro w'
               go_simp
               with_reducible rfl
              rotate_left
              ·simp only [Act.put, List.setIfInBounds_toArray, List.set_cons_zero, List.set_cons_succ, i64_w, i32_w]
               rfl
              refine one_ (i := 12) (N := some 37) (fl 14 13) rfl rfl (one_of HT_.out (by kernel_rfl)) (by decide) (fun K hK => ?_)
              refine goes_ Tryd.func15 (by kernel_rfl) rfl #[.slice A82 y355.length c82, .int .i64 0] (by rfl) rfl rfl (by (try simp only [List.map_toArray, List.map_cons, List.map_nil]); first | done | rfl | (simp only [List.length_drop, List.length_take]; rfl)) ?_
              with_reducible refine (boltingref04_Moved.calls k1 _ _ y355 0 t360 _ ?side1 ?side2 A16.out).mono ?_
              (case side1 => exact cz (Kd.V_reads' HO359.out).2.2)
              (case side2 => exact (Kd.V_reads' HO359.out).2.1)
              rintro e w83 ⟨v361, rfl, ho0, hb⟩
              have HS0_ := (hb.cell (World.block_lt_of_cell? _ _ (hHeld.1))).trans (hHeld.1)
              have HS1_ := (hb.cell (World.block_lt_of_cell? _ _ (hHeld.2))).trans (hHeld.2)
              refine ⟨_, rfl, ?_⟩
              have n0_ := Aside0.mk (Kd.N_elder' (nz HO_0.out) (by first | exact Kd.N_base ho0 | exact Kd.R_base ho0) hb)
              have n1_ := Aside0.mk (Kd.R_below (rz HO_4.out) hb)
              have n2_ := Aside0.mk (Kd.V_elder' (by (with_reducible repeat (first | apply Kd.V_alloc | apply Kd.V_drewN | apply Kd.V_drew)); exact HO359.out) (by first | exact Kd.N_base ho0 | exact Kd.R_base ho0) hb)
              have n3_ := Aside0.mk (Kd.N_lower (Kd.N_mono (ok' := fun k_ => some k_ ≠ (.slice Ao7 t341.length co7 : Value).ownBlock ∧ some k_ ≠ (.slice (some ad352) t346.length co80 : Value).ownBlock) (Kd.R_N (Kd.R_bound ho0)) (fun k_ hk_ => ⟨(Kd.fresh' (Kd.N_lt (nz HO_0.out)) k_ hk_.2.1), (Kd.fresh' (Kd.R_lt (rz HO_4.out)) k_ hk_.2.1)⟩)) (below_size bz))
              have n4_ := Aside0.mk (below_step bz hb)
              clear HO_0
              clear HO_4
              clear HO359
              clear HB
              have HO_0 := n0_
              have HO_4 := n1_
              have HO359 := n2_
              have HO362 := n3_
              have HB := n4_
              clear n0_ n1_ n2_ n3_ n4_
              (try clear hb)
              (try clear hb2)
              (try clear hk)
              (try clear hi)
              (try clear ho0)
              refine hK.out _ _ ⟨HS0_, HS1_⟩ (fun hHeld => ?_)
              clear hK K
              refine norm_ (a' := ?_) ?_ ?_
              rotate_left
              ·show Act.put _ (some 37) _ = _
               simp only [Act.put, List.setIfInBounds_toArray, List.set_cons_zero, List.set_cons_succ, i64_w, i32_w]
               rfl
              refine pure_ (i := 13) (N := some 6) (v := ?_) (a' := ?_) (fl 14 14) rfl rfl (any_of HT_.out (by kernel_rfl)) (fun _ _ _ h => h) (Or.inl ⟨by rfl, ?_⟩) ?_ ?_
              rotate_left
              ·intro w'
               go_simp
               with_reducible rfl
              rotate_left
              ·simp only [Act.put, List.setIfInBounds_toArray, List.set_cons_zero, List.set_cons_succ, i64_w, i32_w]
               rfl
              refine done_ (done_of HT_.out (by kernel_rfl)) ?_
              obtain ⟨Ao84, co84, eo84⟩ := Kd.N_slice HO362.out
              subst eo84
              try go_wp2_with (first | ((with_reducible refine gate_callee (f := 10) rfl ?_); refine goesL_ (some 39) rfl rfl Tryd.func10 (by kernel_rfl) rfl #[.slice Ao84 t360.length co84] rfl (by (try simp only [List.map_toArray, List.map_cons, List.map_nil]); first | done | rfl | (simp only [List.length_drop, List.length_take]; rfl)) ?_; (with_reducible refine (write_Rows.calls _ _ t360 t363 _ ?side1 ?side2 A17.out (Go.Proofs.YtdnbaliibiginaaDoor.Std8.below HS_.out bz)).mono ?_); (case side1 => exact cz (Kd.N_reads' HO362.out).2.2); (case side2 => exact (Kd.N_reads' HO362.out).2.1); rintro e w85 ⟨rfl, hb⟩; refine ⟨_, rfl, ?_⟩; have n0_ := Aside0.mk (Kd.N_below (nz HO_0.out) hb); have n1_ := Aside0.mk (Kd.R_below (rz HO_4.out) hb); have n2_ := Aside0.mk (Kd.V_below (by (with_reducible repeat (first | apply Kd.V_alloc | apply Kd.V_drewN | apply Kd.V_drew)); exact HO359.out) hb); have n3_ := Aside0.mk (Kd.N_below (nz HO362.out) hb); have n4_ := Aside0.mk (below_step bz hb); clear HO_0; clear HO_4; clear HO359; clear HO362; clear HB; have HO_0 := n0_; have HO_4 := n1_; have HO359 := n2_; have HO362 := n3_; have HB := n4_; clear n0_ n1_ n2_ n3_ n4_; (try clear hb); (try clear hb2); (try clear hk); (try clear hi)) | ((with_reducible refine gate_callee (f := 12) rfl ?_); refine goesL_ (some 44) rfl rfl Tryd.func12 (by kernel_rfl) rfl #[.slice Ao84 t360.length co84, .int .i64 0] rfl (by (try simp only [List.map_toArray, List.map_cons, List.map_nil]); first | done | rfl | (simp only [List.length_drop, List.length_take]; rfl)) ?_; (with_reducible refine (write_Inside.calls k1 _ _ t360 0 t364 _ ?side1 ?side2 A19.out (Go.Proofs.YtdnbaliibiginaaDoor.Std8.below HS_.out bz)).mono ?_); (case side1 => exact cz (Kd.N_reads' HO362.out).2.2); (case side2 => exact (Kd.N_reads' HO362.out).2.1); rintro e w86 ⟨rfl, hb⟩; refine ⟨_, rfl, ?_⟩; have n0_ := Aside0.mk (Kd.N_below (nz HO_0.out) hb); have n1_ := Aside0.mk (Kd.R_below (rz HO_4.out) hb); have n2_ := Aside0.mk (Kd.V_below (by (with_reducible repeat (first | apply Kd.V_alloc | apply Kd.V_drewN | apply Kd.V_drew)); exact HO359.out) hb); have n3_ := Aside0.mk (Kd.N_below (nz HO362.out) hb); have n4_ := Aside0.mk (below_step bz hb); clear HO_0; clear HO_4; clear HO359; clear HO362; clear HB; have HO_0 := n0_; have HO_4 := n1_; have HO359 := n2_; have HO362 := n3_; have HB := n4_; clear n0_ n1_ n2_ n3_ n4_; (try clear hb); (try clear hb2); (try clear hk); (try clear hi); have p365 : 0 ≤ (0 : Int) := (by omega); have q365 : 0 < (t360.length : Int) := (by first | exact of_decide_eq_true (by first | (with_reducible assumption) | assumption) | assumption | omega); obtain ⟨ad365, A365_4, c365_4, e365, hx365_0, hx365_1, hx365_2, hx365_3, hx365_4, hl365_4, hi365_4⟩ := at_T35 (Kd.N_reads' HO362.out).2.2 0 p365 q365; cases e365; obtain ⟨ce365, hce365, hMe365, hcc365⟩ := Kd.N_get HO362.out z35 0 p365 (by first | exact q365 | exact (by first | exact of_decide_eq_true (by first | (with_reducible assumption) | assumption) | assumption | omega) | (have e_ := (Kd.N_reads' HO362.out).1; omega)); obtain ⟨ua365_4, uc365_4, rfl, ul365_4, ge365_4⟩ := k35_openF hMe365; have hv365_4 := hcc365 4 _ rfl; rw [add_field _ _ 4 (by omega)] at hv365_4; replace hv365_4 := Option.some.inj (hv365_4.symm.trans hx365_4); injection hv365_4 with hva_ hvn_ hvc_; rw [hva_] at ge365_4; rw [hvc_] at ul365_4; have HL365_4 := Aside0.mk (show Kd.V k45 45 _ w.heap.size _ _ ((rd_T35 t360 0).f4) from Kd.V_mk ul365_4 ge365_4); clear hva_ hvn_ hvc_ ge365_4 ul365_4; clear hcc365 hce365; have qi365 : (0 < t360.length) = True := eq_true (by omega); (try rw [show ((0 : Int)).toNat = 0 from rfl] at hx365_0); (try rw [show 0 * 5 = 0 from rfl] at hx365_0); (try rw [Addr.add_zero'] at hx365_0); (try rw [show ((0 : Int)).toNat = 0 from rfl] at hx365_1); (try rw [show 0 * 5 = 0 from rfl] at hx365_1); (try rw [Addr.add_zero'] at hx365_1); (try rw [show ((0 : Int)).toNat = 0 from rfl] at hx365_2); (try rw [show 0 * 5 = 0 from rfl] at hx365_2); (try rw [Addr.add_zero'] at hx365_2); (try rw [show ((0 : Int)).toNat = 0 from rfl] at hx365_3); (try rw [show 0 * 5 = 0 from rfl] at hx365_3); (try rw [Addr.add_zero'] at hx365_3); (try rw [show ((0 : Int)).toNat = 0 from rfl] at hx365_4); (try rw [show 0 * 5 = 0 from rfl] at hx365_4); (try rw [Addr.add_zero'] at hx365_4); have HR365_4 := Aside0.mk hi365_4; have HC365_4 := Aside0.mk hl365_4; clear hi365_4 hl365_4; replace p365 := eq_true p365; replace q365 := eq_true q365) | ((with_reducible refine gate_dst (N := 9) rfl ?_); (try (refine gate_guard (by rfl) ?_; dsimp only)); refine box_event ?hg (N := 9) ?hd (cs := #[.int .i64 0, .int .i64 0, .string (⟨#[]⟩ : ByteArray), .string (⟨#[]⟩ : ByteArray), .slice none 0 0]) (t := 35) ?hr ?_; (case hd => rfl); (case hg => rfl); (case hr => first | (go_simp; done) | (go_simp; rfl)); intro gb366 hg w87 hbox hb; have n0_ := Aside0.mk (Kd.N_below (Kd.N_elderB (nz HO_0.out) gb366 (Nat.le_of_eq hg.symm)) hb); have n1_ := Aside0.mk (Kd.R_below (rz HO_4.out) hb); have n2_ := Aside0.mk (Kd.V_below (Kd.V_elderB (by (with_reducible repeat (first | apply Kd.V_alloc | apply Kd.V_drewN | apply Kd.V_drew)); exact HO359.out) gb366 (Nat.le_of_eq hg.symm)) hb); have n3_ := Aside0.mk (Kd.N_below (Kd.N_elderB (nz HO362.out) gb366 (Nat.le_of_eq hg.symm)) hb); have n4_ := Aside0.mk (Kd.V_below (Kd.V_elderB (by (with_reducible repeat (first | apply Kd.V_alloc | apply Kd.V_drewN | apply Kd.V_drew)); exact HL365_4.out) gb366 (Nat.le_of_eq hg.symm)) hb); have n5_ := Aside0.mk (Kd.C_below (by repeat (first | (with_reducible exact HR365_4.out) | (with_reducible refine Kd.C_alloc ?_ _) | (with_reducible refine Kd.C_drewN ?_ _) | (with_reducible refine Kd.C_drew ?_) | exact HR365_4.out)) hb); have n6_ := Aside0.mk (below_step bz hb); have n7_ := Aside0.mk (hbox); have n8_ := Aside0.mk ((by rw [hg]; exact (below_size bz) : w.heap.size ≤ gb366)); have n9_ := Aside0.mk ((by rw [hg]; exact (below_size bz) : w.heap.size ≤ gb366)); clear HO_0; clear HO_4; clear HO359; clear HO362; clear HL365_4; clear HR365_4; clear HB; have HO_0 := n0_; have HO_4 := n1_; have HO359 := n2_; have HO362 := n3_; have HL365_4 := n4_; have HR365_4 := n5_; have HB := n6_; have BK366 := n7_; have GW366 := n8_; have GE366 := n9_; clear n0_ n1_ n2_ n3_ n4_ n5_ n6_ n7_ n8_ n9_; clear hb hbox hg; have hcz88_0 : w87.cell? ⟨gb366, 0, none⟩ = some (.int .i64 0) := (blk_cell BK366.out 0).trans rfl; have hcz88_1 : w87.cell? ⟨gb366, 1, none⟩ = some (.int .i64 0) := (blk_cell BK366.out 1).trans rfl; have hcz88_2 : w87.cell? ⟨gb366, 2, none⟩ = some (.string (⟨#[]⟩ : ByteArray)) := (blk_cell BK366.out 2).trans rfl; have hcz88_3 : w87.cell? ⟨gb366, 3, none⟩ = some (.string (⟨#[]⟩ : ByteArray)) := (blk_cell BK366.out 3).trans rfl; have hcz88_4 : w87.cell? ⟨gb366, 4, none⟩ = some (.slice none 0 0) := (blk_cell BK366.out 4).trans rfl; have hfz88_0 := blk_frozen BK366.out 0; have hfz88_1 := blk_frozen BK366.out 1; have hfz88_2 := blk_frozen BK366.out 2; have hfz88_3 := blk_frozen BK366.out 3; have hfz88_4 := blk_frozen BK366.out 4))
              go_roundg k1
              case measure => have := HK1.out; omega
              case rel => exact ⟨(x3_1 ++ t363), (wrap64 (x5_1 + 1)), (by first | rfl | (simp; done) | (simp [*]; done) | (simp; generalize ByteArray.toList _ = l_; cases l_ <;> rfl)), (by first | rfl | (simp; done) | (simp [*]; done) | (simp; generalize ByteArray.toList _ = l_; cases l_ <;> rfl)), H', ⟨by have := HK1.out; omega⟩, ⟨by (with_reducible repeat (first | apply Kd.N_alloc | apply Kd.N_drewN | apply Kd.N_drew)); exact Kd.N_mono (Kd.N_far (p := ⟨gb366, 4, none⟩) (Kd.N_far (p := ⟨gb366, 3, none⟩) (Kd.N_far (p := ⟨gb366, 2, none⟩) (Kd.N_far (p := ⟨gb366, 1, none⟩) (Kd.N_far (p := ⟨gb366, 0, none⟩) (Kd.N_mono HO_0.out (fun k_ hk => (⟨hk, hk.2⟩ : _ ∧ k_ ≠ gb366))) (fun _ hk => hk.2) (.int .i64 ((rd_T35 t360 0).f0))) (fun _ hk => hk.2) (.int .i64 ((rd_T35 t360 0).f1))) (fun _ hk => hk.2) (.string ((rd_T35 t360 0).f2))) (fun _ hk => hk.2) (.string ((rd_T35 t360 0).f3))) (fun _ hk => hk.2) (.slice A365_4 ((rd_T35 t360 0).f4).length c365_4)) (fun _ hk => hk.1.1.1)⟩, ⟨by (with_reducible repeat (first | apply Kd.R_alloc | apply Kd.R_drewN | apply Kd.R_drew)); exact Kd.R_mono (Kd.R_far (p := ⟨gb366, 4, none⟩) (Kd.R_far (p := ⟨gb366, 3, none⟩) (Kd.R_far (p := ⟨gb366, 2, none⟩) (Kd.R_far (p := ⟨gb366, 1, none⟩) (Kd.R_far (p := ⟨gb366, 0, none⟩) (Kd.R_types HO_4.out BK366.out (by decide)) (fun _ hk => hk.2) (.int .i64 ((rd_T35 t360 0).f0))) (fun _ hk => hk.2) (.int .i64 ((rd_T35 t360 0).f1))) (fun _ hk => hk.2) (.string ((rd_T35 t360 0).f2))) (fun _ hk => hk.2) (.string ((rd_T35 t360 0).f3))) (fun _ hk => hk.2) (.slice A365_4 ((rd_T35 t360 0).f4).length c365_4)) (fun _ hk => trivial)⟩, ⟨bs GE366.out⟩⟩
            ·rw [if_neg c22] at H
             exact absurd H (by simp)
           ·rw [if_neg c21] at H
            exact absurd H (by simp)
          ·rw [if_neg c20] at H
           exact absurd H (by simp)
         ·rw [if_neg c18] at H
          exact absurd H (by simp)
        ·rw [if_neg c15] at H
         exact absurd H (by simp)
       ·rw [if_neg c14] at H
        exact absurd H (by simp)
      ·rw [if_neg c13] at H
       exact absurd H (by simp)
     ·rw [if_neg c11] at H
      exact absurd H (by simp)
    ·rw [if_neg c10] at H
     have c10b0 : decide (x5_1 < (t346.length : Int)) = false := decide_eq_false c10
     clear c10
     replace H := Option.bind_eq_some_iff.mp H
     obtain ⟨t349, A890, H⟩ := H
     replace H : (if t349.toList = x3_1.toList then ((write_Inside.f k1 t341 (-1)).bind fun t350 => (if t350.toList = x3_1.toList then ((boltinglaw08_fixed.f).bind fun t351 => (some t351)) else (some false))) else (some false)) = some r := H
     have A89 := Aside0.mk A890
     clear A890
     by_cases c90 : t349.toList = x3_1.toList
     ·rw [if_pos c90] at H
      have c90b0 : (t349.toList == x3_1.toList) = true := beq_iff_eq.mpr c90
      have c90b1 : (t349.toList != x3_1.toList) = false := bne_eq_false_iff_eq.mpr c90
      clear c90
      replace H := Option.bind_eq_some_iff.mp H
      obtain ⟨t350, A910, H⟩ := H
      replace H : (if t350.toList = x3_1.toList then ((boltinglaw08_fixed.f).bind fun t351 => (some t351)) else (some false)) = some r := H
      have A91 := Aside0.mk A910
      clear A910
      by_cases c92 : t350.toList = x3_1.toList
      ·rw [if_pos c92] at H
       have c92b0 : (t350.toList == x3_1.toList) = true := beq_iff_eq.mpr c92
       have c92b1 : (t350.toList != x3_1.toList) = false := bne_eq_false_iff_eq.mpr c92
       clear c92
       replace H := Option.bind_eq_some_iff.mp H
       obtain ⟨t351, A930, H⟩ := H
       replace H : (some t351) = some r := H
       have A93 := Aside0.mk A930
       clear A930
       obtain rfl := Option.some.inj H
       obtain ⟨Ao94, co94, eo94⟩ := Kd.R_slice HO_4.out
       subst eo94
       go_wp2_with (first | ((with_reducible refine gate_callee (f := 10) rfl ?_); refine goesL_ (some 100) rfl rfl Tryd.func10 (by kernel_rfl) rfl #[.slice Ao7 t341.length co7] rfl (by (try simp only [List.map_toArray, List.map_cons, List.map_nil]); first | done | rfl | (simp only [List.length_drop, List.length_take]; rfl)) ?_; (with_reducible refine (write_Rows.calls _ _ t341 t349 _ ?side1 ?side2 A89.out (Go.Proofs.YtdnbaliibiginaaDoor.Std8.below HS_.out bz)).mono ?_); (case side1 => exact cz (Kd.N_reads' HO_0.out).2.2); (case side2 => exact (Kd.N_reads' HO_0.out).2.1); rintro e w95 ⟨rfl, hb⟩; refine ⟨_, rfl, ?_⟩; have n0_ := Aside0.mk (Kd.N_below (nz HO_0.out) hb); have n1_ := Aside0.mk (Kd.R_below (rz HO_4.out) hb); have n2_ := Aside0.mk (below_step bz hb); clear HO_0; clear HO_4; clear HB; have HO_0 := n0_; have HO_4 := n1_; have HB := n2_; clear n0_ n1_ n2_; (try clear hb); (try clear hb2); (try clear hk); (try clear hi)) | (go_at_call 12; (with_reducible refine (write_Inside.calls k1 _ _ t341 (-1) t350 _ ?side1 ?side2 A91.out (Go.Proofs.YtdnbaliibiginaaDoor.Std8.below HS_.out bz)).mono ?_); (case side1 => exact cz (Kd.N_reads' HO_0.out).2.2); (case side2 => exact (Kd.N_reads' HO_0.out).2.1); rintro e w96 ⟨rfl, hb⟩; have n0_ := Aside0.mk (Kd.N_below (nz HO_0.out) hb); have n1_ := Aside0.mk (Kd.R_below (rz HO_4.out) hb); have n2_ := Aside0.mk (below_step bz hb); clear HO_0; clear HO_4; clear HB; have HO_0 := n0_; have HO_4 := n1_; have HB := n2_; clear n0_ n1_ n2_; (try clear hb); (try clear hb2); (try clear hk); (try clear hi)) | (go_at_call 9; (with_reducible refine (boltinglaw08_fixed.calls  t351 _ A93.out (Go.Proofs.YtdnbaliibiginaaDoor.Std8.below HS_.out bz)).mono ?_); rintro e w97 ⟨rfl, hb⟩; have n0_ := Aside0.mk (Kd.N_below (nz HO_0.out) hb); have n1_ := Aside0.mk (Kd.R_below (rz HO_4.out) hb); have n2_ := Aside0.mk (below_step bz hb); clear HO_0; clear HO_4; clear HB; have HO_0 := n0_; have HO_4 := n1_; have HB := n2_; clear n0_ n1_ n2_; (try clear hb); (try clear hb2); (try clear hk); (try clear hi)))
       go_ret
       exact ⟨by first | rfl | (simp [errW_none, errW_some] <;> rfl) | (simp [*, errW_none, errW_some] <;> rfl), bz⟩
      ·rw [if_neg c92] at H
       have c92b0 : (t350.toList == x3_1.toList) = false := beq_eq_false_iff_ne.mpr c92
       have c92b1 : (t350.toList != x3_1.toList) = true := bne_iff_ne.mpr c92
       obtain rfl := Option.some.inj H
       obtain ⟨Ao98, co98, eo98⟩ := Kd.R_slice HO_4.out
       subst eo98
       go_wp2_with (first | ((with_reducible refine gate_callee (f := 10) rfl ?_); refine goesL_ (some 100) rfl rfl Tryd.func10 (by kernel_rfl) rfl #[.slice Ao7 t341.length co7] rfl (by (try simp only [List.map_toArray, List.map_cons, List.map_nil]); first | done | rfl | (simp only [List.length_drop, List.length_take]; rfl)) ?_; (with_reducible refine (write_Rows.calls _ _ t341 t349 _ ?side1 ?side2 A89.out (Go.Proofs.YtdnbaliibiginaaDoor.Std8.below HS_.out bz)).mono ?_); (case side1 => exact cz (Kd.N_reads' HO_0.out).2.2); (case side2 => exact (Kd.N_reads' HO_0.out).2.1); rintro e w99 ⟨rfl, hb⟩; refine ⟨_, rfl, ?_⟩; have n0_ := Aside0.mk (Kd.N_below (nz HO_0.out) hb); have n1_ := Aside0.mk (Kd.R_below (rz HO_4.out) hb); have n2_ := Aside0.mk (below_step bz hb); clear HO_0; clear HO_4; clear HB; have HO_0 := n0_; have HO_4 := n1_; have HB := n2_; clear n0_ n1_ n2_; (try clear hb); (try clear hb2); (try clear hk); (try clear hi)) | (go_at_call 12; (with_reducible refine (write_Inside.calls k1 _ _ t341 (-1) t350 _ ?side1 ?side2 A91.out (Go.Proofs.YtdnbaliibiginaaDoor.Std8.below HS_.out bz)).mono ?_); (case side1 => exact cz (Kd.N_reads' HO_0.out).2.2); (case side2 => exact (Kd.N_reads' HO_0.out).2.1); rintro e w100 ⟨rfl, hb⟩; have n0_ := Aside0.mk (Kd.N_below (nz HO_0.out) hb); have n1_ := Aside0.mk (Kd.R_below (rz HO_4.out) hb); have n2_ := Aside0.mk (below_step bz hb); clear HO_0; clear HO_4; clear HB; have HO_0 := n0_; have HO_4 := n1_; have HB := n2_; clear n0_ n1_ n2_; (try clear hb); (try clear hb2); (try clear hk); (try clear hi)))
       go_ret
       exact ⟨by first | rfl | (simp [errW_none, errW_some] <;> rfl) | (simp [*, errW_none, errW_some] <;> rfl), bz⟩
     ·rw [if_neg c90] at H
      have c90b0 : (t349.toList == x3_1.toList) = false := beq_eq_false_iff_ne.mpr c90
      have c90b1 : (t349.toList != x3_1.toList) = true := bne_iff_ne.mpr c90
      obtain rfl := Option.some.inj H
      obtain ⟨Ao101, co101, eo101⟩ := Kd.R_slice HO_4.out
      subst eo101
      go_wp2_with (first | ((with_reducible refine gate_callee (f := 10) rfl ?_); refine goesL_ (some 100) rfl rfl Tryd.func10 (by kernel_rfl) rfl #[.slice Ao7 t341.length co7] rfl (by (try simp only [List.map_toArray, List.map_cons, List.map_nil]); first | done | rfl | (simp only [List.length_drop, List.length_take]; rfl)) ?_; (with_reducible refine (write_Rows.calls _ _ t341 t349 _ ?side1 ?side2 A89.out (Go.Proofs.YtdnbaliibiginaaDoor.Std8.below HS_.out bz)).mono ?_); (case side1 => exact cz (Kd.N_reads' HO_0.out).2.2); (case side2 => exact (Kd.N_reads' HO_0.out).2.1); rintro e w102 ⟨rfl, hb⟩; refine ⟨_, rfl, ?_⟩; have n0_ := Aside0.mk (Kd.N_below (nz HO_0.out) hb); have n1_ := Aside0.mk (Kd.R_below (rz HO_4.out) hb); have n2_ := Aside0.mk (below_step bz hb); clear HO_0; clear HO_4; clear HB; have HO_0 := n0_; have HO_4 := n1_; have HB := n2_; clear n0_ n1_ n2_; (try clear hb); (try clear hb2); (try clear hk); (try clear hi)))
      go_ret
      exact ⟨by first | rfl | (simp [errW_none, errW_some] <;> rfl) | (simp [*, errW_none, errW_some] <;> rfl), bz⟩
 ·replace c4 := Bool.eq_false_iff.mpr c4
  subst c4
  have H1 : ((boltinglaw08_fixed.f).bind fun t345 => (some t345)) = some r := by rw [if_neg (show ¬ (false = true) by decide)] at H; first | exact H | (simp only [eq_self] at H ⊢; exact H) | (simp only [eq_self, if_true] at H ⊢; exact H)
  clear H
  have H := H1
  clear H1
  replace H := Option.bind_eq_some_iff.mp H
  obtain ⟨t345, A1030, H⟩ := H
  replace H : (some t345) = some r := H
  have A103 := Aside0.mk A1030
  clear A1030
  obtain rfl := Option.some.inj H
  go_enter Tryd.func4, Tryd.ntmps4
  go_wp2_with (first | ((with_reducible refine gate_callee (f := 7) rfl ?_); refine goesL_ (some 12) rfl rfl Tryd.func7 (by kernel_rfl) rfl #[.slice A0 l0.length c0] rfl (by (try simp only [List.map_toArray, List.map_cons, List.map_nil]); first | done | rfl | (simp only [List.length_drop, List.length_take]; rfl)) ?_; (with_reducible refine (boltinglaw08_bound.calls k (fun k_ => k_ < w.heap.size) _ _ l0 t341 _ ?side1 A2.out).mono ?_); (case side1 => exact Kd.V_mk HC0.out (Kd.F_below (Kd.C_F k35_heap HR0.out) bz)); rintro e w104 ⟨v342, rfl, ho0, hb⟩; refine ⟨_, rfl, ?_⟩; have n0_ := Aside0.mk (Kd.N_lower (Kd.N_mono (ok' := fun k_ => True) ho0 (fun k_ hk_ => trivial)) (below_size bz)); have n1_ := Aside0.mk (below_step bz hb); clear HB; have HO343 := n0_; have HB := n1_; clear n0_ n1_; (try clear hb); (try clear hb2); (try clear hk); (try clear hi); (try clear ho0); obtain ⟨Ao105, co105, eo105⟩ := Kd.N_slice HO343.out; subst eo105) | ((with_reducible refine gate_callee (f := 8) rfl ?_); refine goesL_ (some 14) rfl rfl Tryd.func8 (by kernel_rfl) rfl #[.slice Ao105 t341.length co105] rfl (by (try simp only [List.map_toArray, List.map_cons, List.map_nil]); first | done | rfl | (simp only [List.length_drop, List.length_take]; rfl)) ?_; (with_reducible refine (boltingref04_Right.calls k _ _ t341 false _ ?side1 ?side2 A3.out).mono ?_); (case side1 => exact cz (Kd.N_reads' HO343.out).2.2); (case side2 => exact (Kd.N_reads' HO343.out).2.1); rintro e w106 ⟨rfl, hb⟩; refine ⟨_, rfl, ?_⟩; have n0_ := Aside0.mk (Kd.N_below (nz HO343.out) hb); have n1_ := Aside0.mk (below_step bz hb); clear HO343; clear HB; have HO343 := n0_; have HB := n1_; clear n0_ n1_; (try clear hb); (try clear hb2); (try clear hk); (try clear hi)) | ((with_reducible refine gate_callee (f := 9) rfl ?_); refine goesL_ (some 16) rfl rfl Tryd.func9 (by kernel_rfl) rfl #[] rfl (by (try simp only [List.map_toArray, List.map_cons, List.map_nil]); first | done | rfl | (simp only [List.length_drop, List.length_take]; rfl)) ?_; (with_reducible refine (boltinglaw08_fixed.calls  t345 _ A103.out (Go.Proofs.YtdnbaliibiginaaDoor.Std8.below HS_.out bz)).mono ?_); rintro e w107 ⟨rfl, hb⟩; refine ⟨_, rfl, ?_⟩; have n0_ := Aside0.mk (Kd.N_below (nz HO343.out) hb); have n1_ := Aside0.mk (below_step bz hb); clear HO343; clear HB; have HO343 := n0_; have HB := n1_; clear n0_ n1_; (try clear hb); (try clear hb2); (try clear hk); (try clear hi)))
  go_ret
  exact ⟨by first | rfl | (simp [errW_none, errW_some] <;> rfl) | (simp [*, errW_none, errW_some] <;> rfl), bz⟩
end Go.Proofs.YtdnbaliibiginaaDoorH.W8
