/- Lemmas and walks, part 6: QPW7x45. -/
import Derived.Test.YtkcmghlhpbepcaaGreatDoorB79
import Derived.Test.YtkcmghlhpbepcaaGreatDoorB716
import Derived.Test.YtkcmghlhpbepcaaGreatDoorB714
import Derived.Test.YtkcmghlhpbepcaaGreatDoorB725
import Derived.Test.YtkcmghlhpbepcaaGreatDoorC7D4
import Derived.Test.YtkcmghlhpbepcaaGreatDoorC7D2
import Derived.Test.YtkcmghlhpbepcaaGreatDoorC7D5
import Derived.Test.YtkcmghlhpbepcaaGreatDoorC7D3
import Derived.Test.YtkcmghlhpbepcaaGreatDoorB726
set_option linter.unusedVariables false
set_option linter.unusedSimpArgs false

/- Words and walks used below. -/
namespace Go.Proofs.YtkcmghlhpbepcaaGreatDoorH.W7
open Go.RowKit Go.Proofs.YtkcmghlhpbepcaaGreatDoorW.PrintWords Go.Proofs.YtkcmghlhpbepcaaGreatDoorW.PrintLast Go.Proofs.YtkcmghlhpbepcaaGreatDoorW.PrintMore
attribute [local go_sem] max2_int min2_int max_two min_two max_three min_three max_four min_four   -- for this text's walks alone
mutual
def boltinglaw07_BuildParts.l0 : Nat → List ByteArray → ByteArray → ByteArray → List (S34) → Int → Option (Bool)
 | 0, _, _, _, _, _ => none
 | k + 1, x0, x1, x5, x6, x7 => if x7 < (x0.length : Int) then (boltinglaw07_BuildParts.j1 k x0 x1 x5 x6 x7 (decide (x7 < 20))) else (boltinglaw07_BuildParts.j1 k x0 x1 x5 x6 x7 false)
def boltinglaw07_BuildParts.j1 : Nat → List ByteArray → ByteArray → ByteArray → List (S34) → Int → Bool → Option (Bool)
 | 0, _, _, _, _, _, _ => none
 | k + 1, x0, x1, x5, x6, x7, x21 => if x21 = true then (if 0 ≤ x7 then (if x7 < (x0.length : Int) then (if ((rdOf ByteArray.empty x0 x7).size : Int) > 40 then (boltinglaw07_BuildParts.j2 k x0 x1 x5 x6 x7 (rdOf ByteArray.empty x0 x7) true) else ((names_Right.f k (rdOf ByteArray.empty x0 x7)).bind fun t405 => (if t405 = true then ((names_Void.f k (rdOf ByteArray.empty x0 x7)).bind fun t406 => (if t406 = true then (boltinglaw07_BuildParts.j2 k x0 x1 x5 x6 x7 (rdOf ByteArray.empty x0 x7) true) else ((names_Raw.f k (rdOf ByteArray.empty x0 x7)).bind fun t407 => (if t407 = true then (boltinglaw07_BuildParts.j2 k x0 x1 x5 x6 x7 (rdOf ByteArray.empty x0 x7) true) else ((names_Soft.f k (rdOf ByteArray.empty x0 x7)).bind fun t408 => (if t408 = true then (boltinglaw07_BuildParts.j2 k x0 x1 x5 x6 x7 (rdOf ByteArray.empty x0 x7) true) else ((names_Gone.f k (rdOf ByteArray.empty x0 x7)).bind fun t409 => (if t409 = true then (boltinglaw07_BuildParts.j2 k x0 x1 x5 x6 x7 (rdOf ByteArray.empty x0 x7) true) else ((names_Closes.f k (rdOf ByteArray.empty x0 x7)).bind fun t410 => (if (t410.length : Int) > 0 then (boltinglaw07_BuildParts.j2 k x0 x1 x5 x6 x7 (rdOf ByteArray.empty x0 x7) true) else ((boltinglaw07_plain.f k (rdOf ByteArray.empty x0 x7)).bind fun t413 => (boltinglaw07_BuildParts.j2 k x0 x1 x5 x6 x7 (rdOf ByteArray.empty x0 x7) (!t413))))))))))))) else (boltinglaw07_BuildParts.j2 k x0 x1 x5 x6 x7 (rdOf ByteArray.empty x0 x7) true)))) else (none)) else (none)) else (if 0 ≤ (mn (x1.size : Int) 100) then (if (mn (x1.size : Int) 100) ≤ (x1.size : Int) then ((build_Parse.f (x1.extract 0 ((mn (x1.size : Int) 100) : Int).toNat)).bind fun bt434 => (if x5.size + 7 ≤ 9223372036854775807 then (if (x5 ++ (⟨#[60, 105, 62, 60, 47, 105, 62]⟩ : ByteArray)).size + (x1.extract 0 ((mn (x1.size : Int) 100) : Int).toNat).size ≤ 9223372036854775807 then ((build_Parse.f ((x5 ++ (⟨#[60, 105, 62, 60, 47, 105, 62]⟩ : ByteArray)) ++ (x1.extract 0 ((mn (x1.size : Int) 100) : Int).toNat))).bind fun bt438 => ((boltinglaw07_el.f 0 (⟨#[105]⟩ : ByteArray)).bind fun bt442 => (if x6.length < 1954687338268 then (if bt434.2 = bt438.2 then (if bt434.2 = 0 then ((boltingref04_Join.f k (x6 ++ [(⟨bt442.1, bt442.2.1, bt442.2.2.1, bt442.2.2.2.1, bt442.2.2.2.2⟩ : S34)]) bt434.1).bind fun t452 => ((boltingref04_Same.f bt438.1 t452).bind fun t455 => (if t455 = true then ((boltinglaw07_fixed.f).bind fun t456 => (some t456)) else (some false)))) else ((boltinglaw07_fixed.f).bind fun t457 => (some t457))) else (some false)) else (none)))) else (none)) else (none))) else (none)) else (none))
def boltinglaw07_BuildParts.j2 : Nat → List ByteArray → ByteArray → ByteArray → List (S34) → Int → ByteArray → Bool → Option (Bool)
 | 0, _, _, _, _, _, _, _ => none
 | k + 1, x0, x1, x5, x6, x7, x8, x62 => if x62 = true then (boltinglaw07_BuildParts.l0 k x0 x1 x5 x6 (wrap64 (x7 + 1))) else (if 1 + x8.size ≤ 9223372036854775807 then (if ((⟨#[60]⟩ : ByteArray) ++ x8).size + 4 ≤ 9223372036854775807 then (if (((⟨#[60]⟩ : ByteArray) ++ x8) ++ (⟨#[62, 120, 60, 47]⟩ : ByteArray)).size + x8.size ≤ 9223372036854775807 then (if ((((⟨#[60]⟩ : ByteArray) ++ x8) ++ (⟨#[62, 120, 60, 47]⟩ : ByteArray)) ++ x8).size + 1 ≤ 9223372036854775807 then (if x5.size + (((((⟨#[60]⟩ : ByteArray) ++ x8) ++ (⟨#[62, 120, 60, 47]⟩ : ByteArray)) ++ x8) ++ (⟨#[62]⟩ : ByteArray)).size ≤ 9223372036854775807 then ((boltinglaw07_el.f 0 x8).bind fun bt414 => ((boltinglaw07_text.f 1 (⟨#[120]⟩ : ByteArray)).bind fun bt421 => ((some (([(⟨bt414.1, bt414.2.1, bt414.2.2.1, bt414.2.2.2.1, bt414.2.2.2.2⟩ : S34), (⟨bt421.1, bt421.2.1, bt421.2.2.1, bt421.2.2.2.1, bt421.2.2.2.2⟩ : S34)] : List (S34)) : List (S34))).bind fun y428 => (if x6.length + y428.length < 1954687338268 then (boltinglaw07_BuildParts.l0 k x0 x1 (x5 ++ (((((⟨#[60]⟩ : ByteArray) ++ x8) ++ (⟨#[62, 120, 60, 47]⟩ : ByteArray)) ++ x8) ++ (⟨#[62]⟩ : ByteArray))) (x6 ++ y428) (wrap64 (x7 + 1))) else (none))))) else (none)) else (none)) else (none)) else (none)) else (none))
end
def boltinglaw07_BuildParts.f (k : Nat) (l0 : List ByteArray) (a1 : ByteArray) : Option (Bool) := boltinglaw07_BuildParts.l0 k l0 a1 (⟨#[]⟩ : ByteArray) (([] : List (S34))) 0
set_option maxHeartbeats 8000000 in
set_option maxRecDepth 100000 in
theorem boltinglaw07_BuildParts.calls (k : Nat) (A0 : Option Addr) (c0 : Nat) (l0 : List ByteArray) (a1 : ByteArray) (r : Bool) (w : World) (hr0 : Kd.C Kd.string w A0 l0.length l0) (hc0 : l0.length ≤ c0) (h : boltinglaw07_BuildParts.f k l0 a1 = some r) (hS_ : Go.Proofs.YtkcmghlhpbepcaaGreatDoor.Std w) :
 Calls Tryz.prog 10 #[.slice A0 l0.length c0, .string a1] w fun e w' => e = .returned (.bool r) ∧ Below w.heap.size w w' := by
 have HS_ := Aside0.mk hS_
 clear hS_
 have HR0 := Aside0.mk hr0
 have HC0 := Aside0.mk hc0
 clear hr0 hc0
 have HB := Aside0.mk (Below.refl w.heap.size w)
 have H : (boltinglaw07_BuildParts.l0 k l0 a1 (⟨#[]⟩ : ByteArray) (([] : List (S34))) 0) = some r := h
 clear h
 obtain ⟨y401, hy401⟩ : ∃ y_ : List (S34), y_ = (([] : List (S34))) := ⟨_, rfl⟩
 replace H : (boltinglaw07_BuildParts.l0 k l0 a1 (⟨#[]⟩ : ByteArray) y401 0) = some r := by first | (rw [hy401]; with_reducible exact H) | (have H2_ := (Option.bind_some _ _).symm.trans H; rw [hy401]; with_reducible exact H2_) | (have H2_ := (Option.bind_some _ _).symm.trans H; with_reducible exact H2_) | with_reducible exact H | (rw [hy401]; exact H) | exact H
 have Ny401 := Aside0.mk hy401
 clear hy401
 have H' := Aside0.mk H
 clear H
 go_enter Tryz.func10, Tryz.ntmps10
 go_wp2_with (first | ((with_reducible refine gate_dst (N := 13) rfl ?_); (try (refine gate_guard (by rfl) ?_; dsimp only)); refine Kd.N_lit k34 _ 34 ?hg (N' := 13) ?hd (xs := ([] : List (S34))) (inner := []) (ok := (fun _ => True)) (okp := (fun _ => True)) ?hr ?hp (fun _ hk => hk) ((show ∀ k_, w.heap.size ≤ k_ → (fun _ => True) k_ from fun k_ hk => trivial) _ (Nat.le_refl _)) (Below.refl _ _) (Nat.le_refl _) (by simp) ?_; (case hd => rfl); (case hg => rfl); (case hr => first | (go_simp; done) | (go_simp; rfl)); (case hp => exact (Reps.none _ _)); intro v402 w3 ho4 hb hg_ hnew_; clear hg_ hnew_; (first | rw [← Ny401.out] at ho4 | (simp only [Int.reduceToNat] at ho4; rw [← Ny401.out] at ho4)); have n0_ := Aside0.mk (Kd.N_lower ho4 (below_size bz)); have n1_ := Aside0.mk (below_step bz hb); clear HB; have HO403 := n0_; have HB := n1_; clear n0_ n1_; clear hb ho4))
 go_loopg [5, 6, 7] k (fun kq v5 v6 v7 w' => ∃ (x5_1 : ByteArray) (x6_1 : List (S34)) (x7_1 : Int), v5 = .string x5_1 ∧ v7 = .int .i64 x7_1 ∧ Aside0 (boltinglaw07_BuildParts.l0 kq l0 a1 x5_1 x6_1 x7_1 = some r) ∧ Aside0 (kq ≤ k) ∧ Aside0 (Kd.N k34 34 w' w.heap.size (fun _ => True) v6 x6_1) ∧ Aside0 (Below w.heap.size w w'))
 case atStart => exact ⟨((⟨#[]⟩ : ByteArray)), (y401), (0), (by first | rfl | (simp; done) | (simp [*]; done) | (simp; generalize ByteArray.toList _ = l_; cases l_ <;> rfl)), (by first | rfl | (simp; done) | (simp [*]; done) | (simp; generalize ByteArray.toList _ = l_; cases l_ <;> rfl)), H', ⟨Nat.le_refl _⟩, ⟨by (with_reducible repeat (first | apply Kd.N_alloc | apply Kd.N_drewN | apply Kd.N_drew)); exact HO403.out⟩, ⟨bz⟩⟩
 case round =>
  clear H'
  try clear c1
  try clear p2
  obtain ⟨x5_1, x6_1, x7_1, rfl, rfl, HA, HK1, HO_6, HB⟩ := hrel
  cases gk with
  | zero => exact absurd HA.out (by simp [boltinglaw07_BuildParts.l0])
  | succ k1 =>
    have H := HA.out
    clear HA
    simp only [boltinglaw07_BuildParts.l0] at H
    have HC5 := Aside0.mk H
    clear H
    go_upto_region 3 with (fail)
    go_cut [21] (fun v21 wc => ∃ (kq : Nat) (x21_4 : Bool), v21 = .bool x21_4 ∧ Aside0 (boltinglaw07_BuildParts.j1 kq l0 a1 x5_1 x6_1 x7_1 x21_4 = some r) ∧ Aside0 (kq ≤ k1) ∧ Aside0 (Kd.N k34 34 wc w.heap.size (fun _ => True) u6 x6_1) ∧ Aside0 (Below w.heap.size w wc))
    case first =>
     have H := HC5.out
     clear HC5
     by_cases c6 : x7_1 < (l0.length : Int)
     ·rw [if_pos c6] at H
      have c6b0 : decide (x7_1 < (l0.length : Int)) = true := decide_eq_true c6
      clear c6
      (first | rw [c6b0] | (simp only [i64_w, i32_w]; rw [c6b0]) | skip)
      have H' := Aside0.mk H
      clear H
      go_wp2
      go_meet
      case rel => exact ⟨_, (decide (x7_1 < 20)), (by first | rfl | (simp; done) | (simp [*]; done) | (simp; generalize ByteArray.toList _ = l_; cases l_ <;> rfl)), H', ⟨by have := HK1.out; first | omega | exact Nat.le_refl _⟩, ⟨by (with_reducible repeat (first | apply Kd.N_alloc | apply Kd.N_drewN | apply Kd.N_drew)); exact HO_6.out⟩, ⟨bz⟩⟩
     ·rw [if_neg c6] at H
      have c6b0 : decide (x7_1 < (l0.length : Int)) = false := decide_eq_false c6
      clear c6
      (first | rw [c6b0] | (simp only [i64_w, i32_w]; rw [c6b0]) | skip)
      have H' := Aside0.mk H
      clear H
      go_wp2
      go_meet
      case rel => exact ⟨_, (false), (by first | rfl | (simp; done) | (simp [*]; done) | (simp; generalize ByteArray.toList _ = l_; cases l_ <;> rfl)), H', ⟨by have := HK1.out; first | omega | exact Nat.le_refl _⟩, ⟨by (with_reducible repeat (first | apply Kd.N_alloc | apply Kd.N_drewN | apply Kd.N_drew)); exact HO_6.out⟩, ⟨bz⟩⟩
    case rest =>
     clear HC5
     try clear c1
     try clear p2
     try clear c6
     try clear c6b0
     try clear p2
     obtain ⟨kq, x21_4, rfl, HA, HJ4, HO_6, HB⟩ := hcut
     cases kq with
     | zero => exact absurd HA.out (by simp [boltinglaw07_BuildParts.j1])
     | succ kj4 =>
       have H := HA.out
       clear HA
       simp only [boltinglaw07_BuildParts.j1] at H
       by_cases c7 : x21_4 = true
       ·subst c7
        have H1 : (if 0 ≤ x7_1 then (if x7_1 < (l0.length : Int) then (if ((rdOf ByteArray.empty l0 x7_1).size : Int) > 40 then (boltinglaw07_BuildParts.j2 kj4 l0 a1 x5_1 x6_1 x7_1 (rdOf ByteArray.empty l0 x7_1) true) else ((names_Right.f kj4 (rdOf ByteArray.empty l0 x7_1)).bind fun t405 => (if t405 = true then ((names_Void.f kj4 (rdOf ByteArray.empty l0 x7_1)).bind fun t406 => (if t406 = true then (boltinglaw07_BuildParts.j2 kj4 l0 a1 x5_1 x6_1 x7_1 (rdOf ByteArray.empty l0 x7_1) true) else ((names_Raw.f kj4 (rdOf ByteArray.empty l0 x7_1)).bind fun t407 => (if t407 = true then (boltinglaw07_BuildParts.j2 kj4 l0 a1 x5_1 x6_1 x7_1 (rdOf ByteArray.empty l0 x7_1) true) else ((names_Soft.f kj4 (rdOf ByteArray.empty l0 x7_1)).bind fun t408 => (if t408 = true then (boltinglaw07_BuildParts.j2 kj4 l0 a1 x5_1 x6_1 x7_1 (rdOf ByteArray.empty l0 x7_1) true) else ((names_Gone.f kj4 (rdOf ByteArray.empty l0 x7_1)).bind fun t409 => (if t409 = true then (boltinglaw07_BuildParts.j2 kj4 l0 a1 x5_1 x6_1 x7_1 (rdOf ByteArray.empty l0 x7_1) true) else ((names_Closes.f kj4 (rdOf ByteArray.empty l0 x7_1)).bind fun t410 => (if (t410.length : Int) > 0 then (boltinglaw07_BuildParts.j2 kj4 l0 a1 x5_1 x6_1 x7_1 (rdOf ByteArray.empty l0 x7_1) true) else ((boltinglaw07_plain.f kj4 (rdOf ByteArray.empty l0 x7_1)).bind fun t413 => (boltinglaw07_BuildParts.j2 kj4 l0 a1 x5_1 x6_1 x7_1 (rdOf ByteArray.empty l0 x7_1) (!t413))))))))))))) else (boltinglaw07_BuildParts.j2 kj4 l0 a1 x5_1 x6_1 x7_1 (rdOf ByteArray.empty l0 x7_1) true)))) else (none)) else (none)) = some r := by rw [if_pos rfl] at H; exact H
        clear H
        have H := H1
        clear H1
        by_cases c8 : 0 ≤ x7_1
        ·rw [if_pos c8] at H
         have c8b0 : decide (0 ≤ x7_1) = true := decide_eq_true c8
         clear c8
         by_cases c9 : x7_1 < (l0.length : Int)
         ·rw [if_pos c9] at H
          have c9b0 : decide (x7_1 < (l0.length : Int)) = true := decide_eq_true c9
          clear c9
          have HC10 := Aside0.mk H
          clear H
          have p404 : 0 ≤ (x7_1 : Int) := (by first | exact of_decide_eq_true (by first | (with_reducible assumption) | assumption) | assumption | omega)
          have q404 : x7_1 < (l0.length : Int) := (by first | exact of_decide_eq_true (by first | (with_reducible assumption) | assumption) | assumption | omega)
          obtain ⟨ad404, e404, hx404_0⟩ := Kd.at_string HR0.out x7_1 p404 q404
          cases e404
          replace hx404_0 := (HB.out.cell (World.block_lt_of_cell? w _ hx404_0)).trans hx404_0
          replace p404 := eq_true p404
          replace q404 := eq_true q404
          go_upto_region 6 with (fail)
          go_cut [62] (fun v62 wc => ∃ (kq : Nat) (x62_9 : Bool), v62 = .bool x62_9 ∧ Aside0 (boltinglaw07_BuildParts.j2 kq l0 a1 x5_1 x6_1 x7_1 (rdOf ByteArray.empty l0 x7_1) x62_9 = some r) ∧ Aside0 (kq ≤ kj4) ∧ Aside0 (Kd.N k34 34 wc w.heap.size (fun _ => True) u6 x6_1) ∧ Aside0 (Below w.heap.size w wc))
          case first =>
           have H := HC10.out
           clear HC10
           by_cases c11 : ((rdOf ByteArray.empty l0 x7_1).size : Int) > 40
           ·rw [if_pos c11] at H
            have c11b0 : decide (40 < ((rdOf ByteArray.empty l0 x7_1).size : Int)) = true := decide_eq_true c11
            have c11b1 : decide (40 < (rdOf ByteArray.empty l0 x7_1).size) = true := decide_eq_true (by omega)
            clear c11
            (first | rw [c11b0] | (simp only [i64_w, i32_w]; rw [c11b0]) | skip)
            have H' := Aside0.mk H
            clear H
            go_wp2
            go_meet
            case rel => exact ⟨_, (true), (by first | rfl | (simp; done) | (simp [*]; done) | (simp; generalize ByteArray.toList _ = l_; cases l_ <;> rfl)), H', ⟨by have := HK1.out; have := HJ4.out; first | omega | exact Nat.le_refl _⟩, ⟨by (with_reducible repeat (first | apply Kd.N_alloc | apply Kd.N_drewN | apply Kd.N_drew)); exact HO_6.out⟩, ⟨bz⟩⟩
           ·rw [if_neg c11] at H
            have c11b0 : decide (40 < ((rdOf ByteArray.empty l0 x7_1).size : Int)) = false := decide_eq_false c11
            have c11b1 : decide (40 < (rdOf ByteArray.empty l0 x7_1).size) = false := decide_eq_false (by omega)
            clear c11
            (first | rw [c11b0] | (simp only [i64_w, i32_w]; rw [c11b0]) | skip)
            replace H := Option.bind_eq_some_iff.mp H
            obtain ⟨t405, A120, H⟩ := H
            replace H : (if t405 = true then ((names_Void.f kj4 (rdOf ByteArray.empty l0 x7_1)).bind fun t406 => (if t406 = true then (boltinglaw07_BuildParts.j2 kj4 l0 a1 x5_1 x6_1 x7_1 (rdOf ByteArray.empty l0 x7_1) true) else ((names_Raw.f kj4 (rdOf ByteArray.empty l0 x7_1)).bind fun t407 => (if t407 = true then (boltinglaw07_BuildParts.j2 kj4 l0 a1 x5_1 x6_1 x7_1 (rdOf ByteArray.empty l0 x7_1) true) else ((names_Soft.f kj4 (rdOf ByteArray.empty l0 x7_1)).bind fun t408 => (if t408 = true then (boltinglaw07_BuildParts.j2 kj4 l0 a1 x5_1 x6_1 x7_1 (rdOf ByteArray.empty l0 x7_1) true) else ((names_Gone.f kj4 (rdOf ByteArray.empty l0 x7_1)).bind fun t409 => (if t409 = true then (boltinglaw07_BuildParts.j2 kj4 l0 a1 x5_1 x6_1 x7_1 (rdOf ByteArray.empty l0 x7_1) true) else ((names_Closes.f kj4 (rdOf ByteArray.empty l0 x7_1)).bind fun t410 => (if (t410.length : Int) > 0 then (boltinglaw07_BuildParts.j2 kj4 l0 a1 x5_1 x6_1 x7_1 (rdOf ByteArray.empty l0 x7_1) true) else ((boltinglaw07_plain.f kj4 (rdOf ByteArray.empty l0 x7_1)).bind fun t413 => (boltinglaw07_BuildParts.j2 kj4 l0 a1 x5_1 x6_1 x7_1 (rdOf ByteArray.empty l0 x7_1) (!t413))))))))))))) else (boltinglaw07_BuildParts.j2 kj4 l0 a1 x5_1 x6_1 x7_1 (rdOf ByteArray.empty l0 x7_1) true)) = some r := H
            have A12 := Aside0.mk A120
            clear A120
            by_cases c13 : t405 = true
            ·subst c13
             have H1 : ((names_Void.f kj4 (rdOf ByteArray.empty l0 x7_1)).bind fun t406 => (if t406 = true then (boltinglaw07_BuildParts.j2 kj4 l0 a1 x5_1 x6_1 x7_1 (rdOf ByteArray.empty l0 x7_1) true) else ((names_Raw.f kj4 (rdOf ByteArray.empty l0 x7_1)).bind fun t407 => (if t407 = true then (boltinglaw07_BuildParts.j2 kj4 l0 a1 x5_1 x6_1 x7_1 (rdOf ByteArray.empty l0 x7_1) true) else ((names_Soft.f kj4 (rdOf ByteArray.empty l0 x7_1)).bind fun t408 => (if t408 = true then (boltinglaw07_BuildParts.j2 kj4 l0 a1 x5_1 x6_1 x7_1 (rdOf ByteArray.empty l0 x7_1) true) else ((names_Gone.f kj4 (rdOf ByteArray.empty l0 x7_1)).bind fun t409 => (if t409 = true then (boltinglaw07_BuildParts.j2 kj4 l0 a1 x5_1 x6_1 x7_1 (rdOf ByteArray.empty l0 x7_1) true) else ((names_Closes.f kj4 (rdOf ByteArray.empty l0 x7_1)).bind fun t410 => (if (t410.length : Int) > 0 then (boltinglaw07_BuildParts.j2 kj4 l0 a1 x5_1 x6_1 x7_1 (rdOf ByteArray.empty l0 x7_1) true) else ((boltinglaw07_plain.f kj4 (rdOf ByteArray.empty l0 x7_1)).bind fun t413 => (boltinglaw07_BuildParts.j2 kj4 l0 a1 x5_1 x6_1 x7_1 (rdOf ByteArray.empty l0 x7_1) (!t413))))))))))))) = some r := by rw [if_pos rfl] at H; exact H
             clear H
             have H := H1
             clear H1
             replace H := Option.bind_eq_some_iff.mp H
             obtain ⟨t406, A140, H⟩ := H
             replace H : (if t406 = true then (boltinglaw07_BuildParts.j2 kj4 l0 a1 x5_1 x6_1 x7_1 (rdOf ByteArray.empty l0 x7_1) true) else ((names_Raw.f kj4 (rdOf ByteArray.empty l0 x7_1)).bind fun t407 => (if t407 = true then (boltinglaw07_BuildParts.j2 kj4 l0 a1 x5_1 x6_1 x7_1 (rdOf ByteArray.empty l0 x7_1) true) else ((names_Soft.f kj4 (rdOf ByteArray.empty l0 x7_1)).bind fun t408 => (if t408 = true then (boltinglaw07_BuildParts.j2 kj4 l0 a1 x5_1 x6_1 x7_1 (rdOf ByteArray.empty l0 x7_1) true) else ((names_Gone.f kj4 (rdOf ByteArray.empty l0 x7_1)).bind fun t409 => (if t409 = true then (boltinglaw07_BuildParts.j2 kj4 l0 a1 x5_1 x6_1 x7_1 (rdOf ByteArray.empty l0 x7_1) true) else ((names_Closes.f kj4 (rdOf ByteArray.empty l0 x7_1)).bind fun t410 => (if (t410.length : Int) > 0 then (boltinglaw07_BuildParts.j2 kj4 l0 a1 x5_1 x6_1 x7_1 (rdOf ByteArray.empty l0 x7_1) true) else ((boltinglaw07_plain.f kj4 (rdOf ByteArray.empty l0 x7_1)).bind fun t413 => (boltinglaw07_BuildParts.j2 kj4 l0 a1 x5_1 x6_1 x7_1 (rdOf ByteArray.empty l0 x7_1) (!t413)))))))))))) = some r := H
             have A14 := Aside0.mk A140
             clear A140
             by_cases c15 : t406 = true
             ·subst c15
              have H1 : (boltinglaw07_BuildParts.j2 kj4 l0 a1 x5_1 x6_1 x7_1 (rdOf ByteArray.empty l0 x7_1) true) = some r := by rw [if_pos rfl] at H; exact H
              clear H
              have H := H1
              clear H1
              have H' := Aside0.mk H
              clear H
              go_wp2_with (first | (go_at_call 30; (with_reducible refine (names_Right.calls kj4 (rdOf ByteArray.empty l0 x7_1) true _ A12.out).mono ?_); rintro e w' ⟨rfl, ⟨nd, rfl⟩⟩) | (go_at_call 31; (with_reducible refine (names_Void.calls kj4 (rdOf ByteArray.empty l0 x7_1) true _ A14.out).mono ?_); rintro e w16 ⟨rfl, hb⟩; have n0_ := Aside0.mk (Kd.N_below (nz HO_6.out) hb); have n1_ := Aside0.mk (below_step bz hb); clear HO_6; clear HB; have HO_6 := n0_; have HB := n1_; clear n0_ n1_; (try clear hb); (try clear hb2); (try clear hk); (try clear hi)))
              go_meet
              case rel => exact ⟨_, (true), (by first | rfl | (simp; done) | (simp [*]; done) | (simp; generalize ByteArray.toList _ = l_; cases l_ <;> rfl)), H', ⟨by have := HK1.out; have := HJ4.out; first | omega | exact Nat.le_refl _⟩, ⟨by (with_reducible repeat (first | apply Kd.N_alloc | apply Kd.N_drewN | apply Kd.N_drew)); exact HO_6.out⟩, ⟨bz⟩⟩
             ·replace c15 := Bool.eq_false_iff.mpr c15
              subst c15
              have H1 : ((names_Raw.f kj4 (rdOf ByteArray.empty l0 x7_1)).bind fun t407 => (if t407 = true then (boltinglaw07_BuildParts.j2 kj4 l0 a1 x5_1 x6_1 x7_1 (rdOf ByteArray.empty l0 x7_1) true) else ((names_Soft.f kj4 (rdOf ByteArray.empty l0 x7_1)).bind fun t408 => (if t408 = true then (boltinglaw07_BuildParts.j2 kj4 l0 a1 x5_1 x6_1 x7_1 (rdOf ByteArray.empty l0 x7_1) true) else ((names_Gone.f kj4 (rdOf ByteArray.empty l0 x7_1)).bind fun t409 => (if t409 = true then (boltinglaw07_BuildParts.j2 kj4 l0 a1 x5_1 x6_1 x7_1 (rdOf ByteArray.empty l0 x7_1) true) else ((names_Closes.f kj4 (rdOf ByteArray.empty l0 x7_1)).bind fun t410 => (if (t410.length : Int) > 0 then (boltinglaw07_BuildParts.j2 kj4 l0 a1 x5_1 x6_1 x7_1 (rdOf ByteArray.empty l0 x7_1) true) else ((boltinglaw07_plain.f kj4 (rdOf ByteArray.empty l0 x7_1)).bind fun t413 => (boltinglaw07_BuildParts.j2 kj4 l0 a1 x5_1 x6_1 x7_1 (rdOf ByteArray.empty l0 x7_1) (!t413))))))))))) = some r := by rw [if_neg (show ¬ (false = true) by decide)] at H; first | exact H | (simp only [eq_self] at H ⊢; exact H) | (simp only [eq_self, if_true] at H ⊢; exact H)
              clear H
              have H := H1
              clear H1
              replace H := Option.bind_eq_some_iff.mp H
              obtain ⟨t407, A170, H⟩ := H
              replace H : (if t407 = true then (boltinglaw07_BuildParts.j2 kj4 l0 a1 x5_1 x6_1 x7_1 (rdOf ByteArray.empty l0 x7_1) true) else ((names_Soft.f kj4 (rdOf ByteArray.empty l0 x7_1)).bind fun t408 => (if t408 = true then (boltinglaw07_BuildParts.j2 kj4 l0 a1 x5_1 x6_1 x7_1 (rdOf ByteArray.empty l0 x7_1) true) else ((names_Gone.f kj4 (rdOf ByteArray.empty l0 x7_1)).bind fun t409 => (if t409 = true then (boltinglaw07_BuildParts.j2 kj4 l0 a1 x5_1 x6_1 x7_1 (rdOf ByteArray.empty l0 x7_1) true) else ((names_Closes.f kj4 (rdOf ByteArray.empty l0 x7_1)).bind fun t410 => (if (t410.length : Int) > 0 then (boltinglaw07_BuildParts.j2 kj4 l0 a1 x5_1 x6_1 x7_1 (rdOf ByteArray.empty l0 x7_1) true) else ((boltinglaw07_plain.f kj4 (rdOf ByteArray.empty l0 x7_1)).bind fun t413 => (boltinglaw07_BuildParts.j2 kj4 l0 a1 x5_1 x6_1 x7_1 (rdOf ByteArray.empty l0 x7_1) (!t413)))))))))) = some r := H
              have A17 := Aside0.mk A170
              clear A170
              by_cases c18 : t407 = true
              ·subst c18
               have H1 : (boltinglaw07_BuildParts.j2 kj4 l0 a1 x5_1 x6_1 x7_1 (rdOf ByteArray.empty l0 x7_1) true) = some r := by rw [if_pos rfl] at H; exact H
               clear H
               have H := H1
               clear H1
               have H' := Aside0.mk H
               clear H
               go_wp2_with (first | (go_at_call 30; (with_reducible refine (names_Right.calls kj4 (rdOf ByteArray.empty l0 x7_1) true _ A12.out).mono ?_); rintro e w' ⟨rfl, ⟨nd, rfl⟩⟩) | (go_at_call 31; (with_reducible refine (names_Void.calls kj4 (rdOf ByteArray.empty l0 x7_1) false _ A14.out).mono ?_); rintro e w19 ⟨rfl, hb⟩; have n0_ := Aside0.mk (Kd.N_below (nz HO_6.out) hb); have n1_ := Aside0.mk (below_step bz hb); clear HO_6; clear HB; have HO_6 := n0_; have HB := n1_; clear n0_ n1_; (try clear hb); (try clear hb2); (try clear hk); (try clear hi)) | (go_at_call 32; (with_reducible refine (names_Raw.calls kj4 (rdOf ByteArray.empty l0 x7_1) true _ A17.out).mono ?_); rintro e w20 ⟨rfl, hb⟩; have n0_ := Aside0.mk (Kd.N_below (nz HO_6.out) hb); have n1_ := Aside0.mk (below_step bz hb); clear HO_6; clear HB; have HO_6 := n0_; have HB := n1_; clear n0_ n1_; (try clear hb); (try clear hb2); (try clear hk); (try clear hi)))
               go_meet
               case rel => exact ⟨_, (true), (by first | rfl | (simp; done) | (simp [*]; done) | (simp; generalize ByteArray.toList _ = l_; cases l_ <;> rfl)), H', ⟨by have := HK1.out; have := HJ4.out; first | omega | exact Nat.le_refl _⟩, ⟨by (with_reducible repeat (first | apply Kd.N_alloc | apply Kd.N_drewN | apply Kd.N_drew)); exact HO_6.out⟩, ⟨bz⟩⟩
              ·replace c18 := Bool.eq_false_iff.mpr c18
               subst c18
               have H1 : ((names_Soft.f kj4 (rdOf ByteArray.empty l0 x7_1)).bind fun t408 => (if t408 = true then (boltinglaw07_BuildParts.j2 kj4 l0 a1 x5_1 x6_1 x7_1 (rdOf ByteArray.empty l0 x7_1) true) else ((names_Gone.f kj4 (rdOf ByteArray.empty l0 x7_1)).bind fun t409 => (if t409 = true then (boltinglaw07_BuildParts.j2 kj4 l0 a1 x5_1 x6_1 x7_1 (rdOf ByteArray.empty l0 x7_1) true) else ((names_Closes.f kj4 (rdOf ByteArray.empty l0 x7_1)).bind fun t410 => (if (t410.length : Int) > 0 then (boltinglaw07_BuildParts.j2 kj4 l0 a1 x5_1 x6_1 x7_1 (rdOf ByteArray.empty l0 x7_1) true) else ((boltinglaw07_plain.f kj4 (rdOf ByteArray.empty l0 x7_1)).bind fun t413 => (boltinglaw07_BuildParts.j2 kj4 l0 a1 x5_1 x6_1 x7_1 (rdOf ByteArray.empty l0 x7_1) (!t413))))))))) = some r := by rw [if_neg (show ¬ (false = true) by decide)] at H; first | exact H | (simp only [eq_self] at H ⊢; exact H) | (simp only [eq_self, if_true] at H ⊢; exact H)
               clear H
               have H := H1
               clear H1
               replace H := Option.bind_eq_some_iff.mp H
               obtain ⟨t408, A210, H⟩ := H
               replace H : (if t408 = true then (boltinglaw07_BuildParts.j2 kj4 l0 a1 x5_1 x6_1 x7_1 (rdOf ByteArray.empty l0 x7_1) true) else ((names_Gone.f kj4 (rdOf ByteArray.empty l0 x7_1)).bind fun t409 => (if t409 = true then (boltinglaw07_BuildParts.j2 kj4 l0 a1 x5_1 x6_1 x7_1 (rdOf ByteArray.empty l0 x7_1) true) else ((names_Closes.f kj4 (rdOf ByteArray.empty l0 x7_1)).bind fun t410 => (if (t410.length : Int) > 0 then (boltinglaw07_BuildParts.j2 kj4 l0 a1 x5_1 x6_1 x7_1 (rdOf ByteArray.empty l0 x7_1) true) else ((boltinglaw07_plain.f kj4 (rdOf ByteArray.empty l0 x7_1)).bind fun t413 => (boltinglaw07_BuildParts.j2 kj4 l0 a1 x5_1 x6_1 x7_1 (rdOf ByteArray.empty l0 x7_1) (!t413)))))))) = some r := H
               have A21 := Aside0.mk A210
               clear A210
               by_cases c22 : t408 = true
               ·subst c22
                have H1 : (boltinglaw07_BuildParts.j2 kj4 l0 a1 x5_1 x6_1 x7_1 (rdOf ByteArray.empty l0 x7_1) true) = some r := by rw [if_pos rfl] at H; exact H
                clear H
                have H := H1
                clear H1
                have H' := Aside0.mk H
                clear H
                go_wp2_with (first | (go_at_call 30; (with_reducible refine (names_Right.calls kj4 (rdOf ByteArray.empty l0 x7_1) true _ A12.out).mono ?_); rintro e w' ⟨rfl, ⟨nd, rfl⟩⟩) | (go_at_call 31; (with_reducible refine (names_Void.calls kj4 (rdOf ByteArray.empty l0 x7_1) false _ A14.out).mono ?_); rintro e w23 ⟨rfl, hb⟩; have n0_ := Aside0.mk (Kd.N_below (nz HO_6.out) hb); have n1_ := Aside0.mk (below_step bz hb); clear HO_6; clear HB; have HO_6 := n0_; have HB := n1_; clear n0_ n1_; (try clear hb); (try clear hb2); (try clear hk); (try clear hi)) | (go_at_call 32; (with_reducible refine (names_Raw.calls kj4 (rdOf ByteArray.empty l0 x7_1) false _ A17.out).mono ?_); rintro e w24 ⟨rfl, hb⟩; have n0_ := Aside0.mk (Kd.N_below (nz HO_6.out) hb); have n1_ := Aside0.mk (below_step bz hb); clear HO_6; clear HB; have HO_6 := n0_; have HB := n1_; clear n0_ n1_; (try clear hb); (try clear hb2); (try clear hk); (try clear hi)) | (go_at_call 33; (with_reducible refine (names_Soft.calls kj4 (rdOf ByteArray.empty l0 x7_1) true _ A21.out).mono ?_); rintro e w25 ⟨rfl, hb⟩; have n0_ := Aside0.mk (Kd.N_below (nz HO_6.out) hb); have n1_ := Aside0.mk (below_step bz hb); clear HO_6; clear HB; have HO_6 := n0_; have HB := n1_; clear n0_ n1_; (try clear hb); (try clear hb2); (try clear hk); (try clear hi)))
                go_meet
                case rel => exact ⟨_, (true), (by first | rfl | (simp; done) | (simp [*]; done) | (simp; generalize ByteArray.toList _ = l_; cases l_ <;> rfl)), H', ⟨by have := HK1.out; have := HJ4.out; first | omega | exact Nat.le_refl _⟩, ⟨by (with_reducible repeat (first | apply Kd.N_alloc | apply Kd.N_drewN | apply Kd.N_drew)); exact HO_6.out⟩, ⟨bz⟩⟩
               ·replace c22 := Bool.eq_false_iff.mpr c22
                subst c22
                have H1 : ((names_Gone.f kj4 (rdOf ByteArray.empty l0 x7_1)).bind fun t409 => (if t409 = true then (boltinglaw07_BuildParts.j2 kj4 l0 a1 x5_1 x6_1 x7_1 (rdOf ByteArray.empty l0 x7_1) true) else ((names_Closes.f kj4 (rdOf ByteArray.empty l0 x7_1)).bind fun t410 => (if (t410.length : Int) > 0 then (boltinglaw07_BuildParts.j2 kj4 l0 a1 x5_1 x6_1 x7_1 (rdOf ByteArray.empty l0 x7_1) true) else ((boltinglaw07_plain.f kj4 (rdOf ByteArray.empty l0 x7_1)).bind fun t413 => (boltinglaw07_BuildParts.j2 kj4 l0 a1 x5_1 x6_1 x7_1 (rdOf ByteArray.empty l0 x7_1) (!t413))))))) = some r := by rw [if_neg (show ¬ (false = true) by decide)] at H; first | exact H | (simp only [eq_self] at H ⊢; exact H) | (simp only [eq_self, if_true] at H ⊢; exact H)
                clear H
                have H := H1
                clear H1
                replace H := Option.bind_eq_some_iff.mp H
                obtain ⟨t409, A260, H⟩ := H
                replace H : (if t409 = true then (boltinglaw07_BuildParts.j2 kj4 l0 a1 x5_1 x6_1 x7_1 (rdOf ByteArray.empty l0 x7_1) true) else ((names_Closes.f kj4 (rdOf ByteArray.empty l0 x7_1)).bind fun t410 => (if (t410.length : Int) > 0 then (boltinglaw07_BuildParts.j2 kj4 l0 a1 x5_1 x6_1 x7_1 (rdOf ByteArray.empty l0 x7_1) true) else ((boltinglaw07_plain.f kj4 (rdOf ByteArray.empty l0 x7_1)).bind fun t413 => (boltinglaw07_BuildParts.j2 kj4 l0 a1 x5_1 x6_1 x7_1 (rdOf ByteArray.empty l0 x7_1) (!t413)))))) = some r := H
                have A26 := Aside0.mk A260
                clear A260
                by_cases c27 : t409 = true
                ·subst c27
                 have H1 : (boltinglaw07_BuildParts.j2 kj4 l0 a1 x5_1 x6_1 x7_1 (rdOf ByteArray.empty l0 x7_1) true) = some r := by rw [if_pos rfl] at H; exact H
                 clear H
                 have H := H1
                 clear H1
                 have H' := Aside0.mk H
                 clear H
                 go_wp2_with (first | (go_at_call 30; (with_reducible refine (names_Right.calls kj4 (rdOf ByteArray.empty l0 x7_1) true _ A12.out).mono ?_); rintro e w' ⟨rfl, ⟨nd, rfl⟩⟩) | (go_at_call 31; (with_reducible refine (names_Void.calls kj4 (rdOf ByteArray.empty l0 x7_1) false _ A14.out).mono ?_); rintro e w28 ⟨rfl, hb⟩; have n0_ := Aside0.mk (Kd.N_below (nz HO_6.out) hb); have n1_ := Aside0.mk (below_step bz hb); clear HO_6; clear HB; have HO_6 := n0_; have HB := n1_; clear n0_ n1_; (try clear hb); (try clear hb2); (try clear hk); (try clear hi)) | (go_at_call 32; (with_reducible refine (names_Raw.calls kj4 (rdOf ByteArray.empty l0 x7_1) false _ A17.out).mono ?_); rintro e w29 ⟨rfl, hb⟩; have n0_ := Aside0.mk (Kd.N_below (nz HO_6.out) hb); have n1_ := Aside0.mk (below_step bz hb); clear HO_6; clear HB; have HO_6 := n0_; have HB := n1_; clear n0_ n1_; (try clear hb); (try clear hb2); (try clear hk); (try clear hi)) | (go_at_call 33; (with_reducible refine (names_Soft.calls kj4 (rdOf ByteArray.empty l0 x7_1) false _ A21.out).mono ?_); rintro e w30 ⟨rfl, hb⟩; have n0_ := Aside0.mk (Kd.N_below (nz HO_6.out) hb); have n1_ := Aside0.mk (below_step bz hb); clear HO_6; clear HB; have HO_6 := n0_; have HB := n1_; clear n0_ n1_; (try clear hb); (try clear hb2); (try clear hk); (try clear hi)) | (go_at_call 34; (with_reducible refine (names_Gone.calls kj4 (rdOf ByteArray.empty l0 x7_1) true _ A26.out).mono ?_); rintro e w31 ⟨rfl, hb⟩; have n0_ := Aside0.mk (Kd.N_below (nz HO_6.out) hb); have n1_ := Aside0.mk (below_step bz hb); clear HO_6; clear HB; have HO_6 := n0_; have HB := n1_; clear n0_ n1_; (try clear hb); (try clear hb2); (try clear hk); (try clear hi)))
                 go_meet
                 case rel => exact ⟨_, (true), (by first | rfl | (simp; done) | (simp [*]; done) | (simp; generalize ByteArray.toList _ = l_; cases l_ <;> rfl)), H', ⟨by have := HK1.out; have := HJ4.out; first | omega | exact Nat.le_refl _⟩, ⟨by (with_reducible repeat (first | apply Kd.N_alloc | apply Kd.N_drewN | apply Kd.N_drew)); exact HO_6.out⟩, ⟨bz⟩⟩
                ·replace c27 := Bool.eq_false_iff.mpr c27
                 subst c27
                 have H1 : ((names_Closes.f kj4 (rdOf ByteArray.empty l0 x7_1)).bind fun t410 => (if (t410.length : Int) > 0 then (boltinglaw07_BuildParts.j2 kj4 l0 a1 x5_1 x6_1 x7_1 (rdOf ByteArray.empty l0 x7_1) true) else ((boltinglaw07_plain.f kj4 (rdOf ByteArray.empty l0 x7_1)).bind fun t413 => (boltinglaw07_BuildParts.j2 kj4 l0 a1 x5_1 x6_1 x7_1 (rdOf ByteArray.empty l0 x7_1) (!t413))))) = some r := by rw [if_neg (show ¬ (false = true) by decide)] at H; first | exact H | (simp only [eq_self] at H ⊢; exact H) | (simp only [eq_self, if_true] at H ⊢; exact H)
                 clear H
                 have H := H1
                 clear H1
                 replace H := Option.bind_eq_some_iff.mp H
                 obtain ⟨t410, A320, H⟩ := H
                 replace H : (if (t410.length : Int) > 0 then (boltinglaw07_BuildParts.j2 kj4 l0 a1 x5_1 x6_1 x7_1 (rdOf ByteArray.empty l0 x7_1) true) else ((boltinglaw07_plain.f kj4 (rdOf ByteArray.empty l0 x7_1)).bind fun t413 => (boltinglaw07_BuildParts.j2 kj4 l0 a1 x5_1 x6_1 x7_1 (rdOf ByteArray.empty l0 x7_1) (!t413)))) = some r := H
                 have A32 := Aside0.mk A320
                 clear A320
                 by_cases c33 : (t410.length : Int) > 0
                 ·rw [if_pos c33] at H
                  have c33b0 : decide (0 < (t410.length : Int)) = true := decide_eq_true c33
                  have c33b1 : decide (0 < t410.length) = true := decide_eq_true (by omega)
                  clear c33
                  have H' := Aside0.mk H
                  clear H
                  go_wp2_with (first | (go_at_call 30; (with_reducible refine (names_Right.calls kj4 (rdOf ByteArray.empty l0 x7_1) true _ A12.out).mono ?_); rintro e w' ⟨rfl, ⟨nd, rfl⟩⟩) | (go_at_call 31; (with_reducible refine (names_Void.calls kj4 (rdOf ByteArray.empty l0 x7_1) false _ A14.out).mono ?_); rintro e w34 ⟨rfl, hb⟩; have n0_ := Aside0.mk (Kd.N_below (nz HO_6.out) hb); have n1_ := Aside0.mk (below_step bz hb); clear HO_6; clear HB; have HO_6 := n0_; have HB := n1_; clear n0_ n1_; (try clear hb); (try clear hb2); (try clear hk); (try clear hi)) | (go_at_call 32; (with_reducible refine (names_Raw.calls kj4 (rdOf ByteArray.empty l0 x7_1) false _ A17.out).mono ?_); rintro e w35 ⟨rfl, hb⟩; have n0_ := Aside0.mk (Kd.N_below (nz HO_6.out) hb); have n1_ := Aside0.mk (below_step bz hb); clear HO_6; clear HB; have HO_6 := n0_; have HB := n1_; clear n0_ n1_; (try clear hb); (try clear hb2); (try clear hk); (try clear hi)) | (go_at_call 33; (with_reducible refine (names_Soft.calls kj4 (rdOf ByteArray.empty l0 x7_1) false _ A21.out).mono ?_); rintro e w36 ⟨rfl, hb⟩; have n0_ := Aside0.mk (Kd.N_below (nz HO_6.out) hb); have n1_ := Aside0.mk (below_step bz hb); clear HO_6; clear HB; have HO_6 := n0_; have HB := n1_; clear n0_ n1_; (try clear hb); (try clear hb2); (try clear hk); (try clear hi)) | (go_at_call 34; (with_reducible refine (names_Gone.calls kj4 (rdOf ByteArray.empty l0 x7_1) false _ A26.out).mono ?_); rintro e w37 ⟨rfl, hb⟩; have n0_ := Aside0.mk (Kd.N_below (nz HO_6.out) hb); have n1_ := Aside0.mk (below_step bz hb); clear HO_6; clear HB; have HO_6 := n0_; have HB := n1_; clear n0_ n1_; (try clear hb); (try clear hb2); (try clear hk); (try clear hi)) | (go_at_call 35; (fail_if_success (have zz_ := Ao39)); (with_reducible refine (names_Closes.calls kj4 (rdOf ByteArray.empty l0 x7_1) t410 _ A32.out).mono ?_); rintro e w38 ⟨v411, rfl, ho0, hb⟩; have n0_ := Aside0.mk (Kd.N_elder' (nz HO_6.out) (Kd.R_base ho0) hb); have n1_ := Aside0.mk (Kd.R_lower ho0 (below_size bz)); have n2_ := Aside0.mk (below_step bz hb); clear HO_6; clear HB; have HO_6 := n0_; have HO412 := n1_; have HB := n2_; clear n0_ n1_ n2_; (try clear hb); (try clear hb2); (try clear hk); (try clear hi); (try clear ho0); obtain ⟨Ao39, co39, eo39⟩ := Kd.R_slice HO412.out; subst eo39))
                  go_meet
                  case rel => exact ⟨_, (true), (by first | rfl | (simp; done) | (simp [*]; done) | (simp; generalize ByteArray.toList _ = l_; cases l_ <;> rfl)), H', ⟨by have := HK1.out; have := HJ4.out; first | omega | exact Nat.le_refl _⟩, ⟨by (with_reducible repeat (first | apply Kd.N_alloc | apply Kd.N_drewN | apply Kd.N_drew)); exact Kd.N_mono HO_6.out (fun _ hk => trivial)⟩, ⟨bz⟩⟩
                 ·rw [if_neg c33] at H
                  have c33b0 : decide (0 < (t410.length : Int)) = false := decide_eq_false c33
                  have c33b1 : decide (0 < t410.length) = false := decide_eq_false (by omega)
                  clear c33
                  replace H := Option.bind_eq_some_iff.mp H
                  obtain ⟨t413, A400, H⟩ := H
                  replace H : (boltinglaw07_BuildParts.j2 kj4 l0 a1 x5_1 x6_1 x7_1 (rdOf ByteArray.empty l0 x7_1) (!t413)) = some r := H
                  have A40 := Aside0.mk A400
                  clear A400
                  have H' := Aside0.mk H
                  clear H
                  go_wp2_with (first | (go_at_call 30; (with_reducible refine (names_Right.calls kj4 (rdOf ByteArray.empty l0 x7_1) true _ A12.out).mono ?_); rintro e w' ⟨rfl, ⟨nd, rfl⟩⟩) | (go_at_call 31; (with_reducible refine (names_Void.calls kj4 (rdOf ByteArray.empty l0 x7_1) false _ A14.out).mono ?_); rintro e w41 ⟨rfl, hb⟩; have n0_ := Aside0.mk (Kd.N_below (nz HO_6.out) hb); have n1_ := Aside0.mk (below_step bz hb); clear HO_6; clear HB; have HO_6 := n0_; have HB := n1_; clear n0_ n1_; (try clear hb); (try clear hb2); (try clear hk); (try clear hi)) | (go_at_call 32; (with_reducible refine (names_Raw.calls kj4 (rdOf ByteArray.empty l0 x7_1) false _ A17.out).mono ?_); rintro e w42 ⟨rfl, hb⟩; have n0_ := Aside0.mk (Kd.N_below (nz HO_6.out) hb); have n1_ := Aside0.mk (below_step bz hb); clear HO_6; clear HB; have HO_6 := n0_; have HB := n1_; clear n0_ n1_; (try clear hb); (try clear hb2); (try clear hk); (try clear hi)) | (go_at_call 33; (with_reducible refine (names_Soft.calls kj4 (rdOf ByteArray.empty l0 x7_1) false _ A21.out).mono ?_); rintro e w43 ⟨rfl, hb⟩; have n0_ := Aside0.mk (Kd.N_below (nz HO_6.out) hb); have n1_ := Aside0.mk (below_step bz hb); clear HO_6; clear HB; have HO_6 := n0_; have HB := n1_; clear n0_ n1_; (try clear hb); (try clear hb2); (try clear hk); (try clear hi)) | (go_at_call 34; (with_reducible refine (names_Gone.calls kj4 (rdOf ByteArray.empty l0 x7_1) false _ A26.out).mono ?_); rintro e w44 ⟨rfl, hb⟩; have n0_ := Aside0.mk (Kd.N_below (nz HO_6.out) hb); have n1_ := Aside0.mk (below_step bz hb); clear HO_6; clear HB; have HO_6 := n0_; have HB := n1_; clear n0_ n1_; (try clear hb); (try clear hb2); (try clear hk); (try clear hi)) | (go_at_call 35; (fail_if_success (have zz_ := Ao46)); (with_reducible refine (names_Closes.calls kj4 (rdOf ByteArray.empty l0 x7_1) t410 _ A32.out).mono ?_); rintro e w45 ⟨v411, rfl, ho0, hb⟩; have n0_ := Aside0.mk (Kd.N_elder' (nz HO_6.out) (Kd.R_base ho0) hb); have n1_ := Aside0.mk (Kd.R_lower ho0 (below_size bz)); have n2_ := Aside0.mk (below_step bz hb); clear HO_6; clear HB; have HO_6 := n0_; have HO412 := n1_; have HB := n2_; clear n0_ n1_ n2_; (try clear hb); (try clear hb2); (try clear hk); (try clear hi); (try clear ho0); obtain ⟨Ao46, co46, eo46⟩ := Kd.R_slice HO412.out; subst eo46) | (go_at_call 36; (with_reducible refine (boltinglaw07_plain.calls kj4 (rdOf ByteArray.empty l0 x7_1) t413 _ A40.out).mono ?_); rintro e w' ⟨rfl, ⟨nd, rfl⟩⟩))
                  go_meet
                  case rel => exact ⟨_, (!t413), (by first | rfl | (simp; done) | (simp [*]; done) | (simp; generalize ByteArray.toList _ = l_; cases l_ <;> rfl)), H', ⟨by have := HK1.out; have := HJ4.out; first | omega | exact Nat.le_refl _⟩, ⟨by (with_reducible repeat (first | apply Kd.N_alloc | apply Kd.N_drewN | apply Kd.N_drew)); exact Kd.N_mono HO_6.out (fun _ hk => trivial)⟩, ⟨bz⟩⟩
            ·replace c13 := Bool.eq_false_iff.mpr c13
             subst c13
             have H1 : (boltinglaw07_BuildParts.j2 kj4 l0 a1 x5_1 x6_1 x7_1 (rdOf ByteArray.empty l0 x7_1) true) = some r := by rw [if_neg (show ¬ (false = true) by decide)] at H; first | exact H | (simp only [eq_self] at H ⊢; exact H) | (simp only [eq_self, if_true] at H ⊢; exact H)
             clear H
             have H := H1
             clear H1
             have H' := Aside0.mk H
             clear H
             go_wp2_with (first | (go_at_call 30; (with_reducible refine (names_Right.calls kj4 (rdOf ByteArray.empty l0 x7_1) false _ A12.out).mono ?_); rintro e w' ⟨rfl, ⟨nd, rfl⟩⟩))
             go_meet
             case rel => exact ⟨_, (true), (by first | rfl | (simp; done) | (simp [*]; done) | (simp; generalize ByteArray.toList _ = l_; cases l_ <;> rfl)), H', ⟨by have := HK1.out; have := HJ4.out; first | omega | exact Nat.le_refl _⟩, ⟨by (with_reducible repeat (first | apply Kd.N_alloc | apply Kd.N_drewN | apply Kd.N_drew)); exact HO_6.out⟩, ⟨bz⟩⟩
          case rest =>
           clear HC10
           try clear c1
           try clear c2
           try clear p2
           try clear c3
           try clear p4
           try clear q4
           try clear hx4
           try clear c6
           try clear c6b0
           try clear c7
           try clear c8
           try clear c8b0
           try clear c9
           try clear c9b0
           try clear c10
           try clear c11
           try clear c11b0
           try clear c11b1
           try clear c13
           try clear c15
           try clear c18
           try clear c22
           try clear c27
           try clear c33
           try clear c33b0
           try clear c33b1
           try clear p40
           try clear q40
           try clear hx40
           try clear hx404_0
           try clear p2
           try clear p404
           try clear q404
           obtain ⟨kq, x62_9, rfl, HA, HJ9, HO_6, HB⟩ := hcut
           cases kq with
           | zero => exact absurd HA.out (by simp [boltinglaw07_BuildParts.j2])
           | succ kj9 =>
             have H := HA.out
             clear HA
             simp only [boltinglaw07_BuildParts.j2] at H
             by_cases c47 : x62_9 = true
             ·subst c47
              have H1 : (boltinglaw07_BuildParts.l0 kj9 l0 a1 x5_1 x6_1 (wrap64 (x7_1 + 1))) = some r := by rw [if_pos rfl] at H; exact H
              clear H
              have H := H1
              clear H1
              have H' := Aside0.mk H
              clear H
              go_wp2
              go_roundg kj9
              case measure => have := HK1.out; have := HJ4.out; have := HJ9.out; omega
              case rel => exact ⟨(x5_1), (x6_1), (wrap64 (x7_1 + 1)), (by first | rfl | (simp; done) | (simp [*]; done) | (simp; generalize ByteArray.toList _ = l_; cases l_ <;> rfl)), (by first | rfl | (simp; done) | (simp [*]; done) | (simp; generalize ByteArray.toList _ = l_; cases l_ <;> rfl)), H', ⟨by have := HK1.out; have := HJ4.out; have := HJ9.out; omega⟩, ⟨by (with_reducible repeat (first | apply Kd.N_alloc | apply Kd.N_drewN | apply Kd.N_drew)); exact HO_6.out⟩, ⟨bz⟩⟩
             ·replace c47 := Bool.eq_false_iff.mpr c47
              subst c47
              have H1 : (if 1 + (rdOf ByteArray.empty l0 x7_1).size ≤ 9223372036854775807 then (if ((⟨#[60]⟩ : ByteArray) ++ (rdOf ByteArray.empty l0 x7_1)).size + 4 ≤ 9223372036854775807 then (if (((⟨#[60]⟩ : ByteArray) ++ (rdOf ByteArray.empty l0 x7_1)) ++ (⟨#[62, 120, 60, 47]⟩ : ByteArray)).size + (rdOf ByteArray.empty l0 x7_1).size ≤ 9223372036854775807 then (if ((((⟨#[60]⟩ : ByteArray) ++ (rdOf ByteArray.empty l0 x7_1)) ++ (⟨#[62, 120, 60, 47]⟩ : ByteArray)) ++ (rdOf ByteArray.empty l0 x7_1)).size + 1 ≤ 9223372036854775807 then (if x5_1.size + (((((⟨#[60]⟩ : ByteArray) ++ (rdOf ByteArray.empty l0 x7_1)) ++ (⟨#[62, 120, 60, 47]⟩ : ByteArray)) ++ (rdOf ByteArray.empty l0 x7_1)) ++ (⟨#[62]⟩ : ByteArray)).size ≤ 9223372036854775807 then ((boltinglaw07_el.f 0 (rdOf ByteArray.empty l0 x7_1)).bind fun bt414 => ((boltinglaw07_text.f 1 (⟨#[120]⟩ : ByteArray)).bind fun bt421 => ((some (([(⟨bt414.1, bt414.2.1, bt414.2.2.1, bt414.2.2.2.1, bt414.2.2.2.2⟩ : S34), (⟨bt421.1, bt421.2.1, bt421.2.2.1, bt421.2.2.2.1, bt421.2.2.2.2⟩ : S34)] : List (S34)) : List (S34))).bind fun y428 => (if x6_1.length + y428.length < 1954687338268 then (boltinglaw07_BuildParts.l0 kj9 l0 a1 (x5_1 ++ (((((⟨#[60]⟩ : ByteArray) ++ (rdOf ByteArray.empty l0 x7_1)) ++ (⟨#[62, 120, 60, 47]⟩ : ByteArray)) ++ (rdOf ByteArray.empty l0 x7_1)) ++ (⟨#[62]⟩ : ByteArray))) (x6_1 ++ y428) (wrap64 (x7_1 + 1))) else (none))))) else (none)) else (none)) else (none)) else (none)) else (none)) = some r := by rw [if_neg (show ¬ (false = true) by decide)] at H; first | exact H | (simp only [eq_self] at H ⊢; exact H) | (simp only [eq_self, if_true] at H ⊢; exact H)
              clear H
              have H := H1
              clear H1
              by_cases c48 : 1 + (rdOf ByteArray.empty l0 x7_1).size ≤ 9223372036854775807
              ·rw [if_pos c48] at H
               have c48b0 := eq_true c48
               have c48b1 : decide (1 + (rdOf ByteArray.empty l0 x7_1).size ≤ 9223372036854775807) = true := decide_eq_true c48
               try have c48b2 : (9223372036854775807 < 1 + (rdOf ByteArray.empty l0 x7_1).size) = False := eq_false (Nat.not_lt.2 c48)
               by_cases c49 : ((⟨#[60]⟩ : ByteArray) ++ (rdOf ByteArray.empty l0 x7_1)).size + 4 ≤ 9223372036854775807
               ·rw [if_pos c49] at H
                have c49b0 := eq_true c49
                have c49b1 : decide (((⟨#[60]⟩ : ByteArray) ++ (rdOf ByteArray.empty l0 x7_1)).size + 4 ≤ 9223372036854775807) = true := decide_eq_true c49
                try have c49b2 : (9223372036854775807 < ((⟨#[60]⟩ : ByteArray) ++ (rdOf ByteArray.empty l0 x7_1)).size + 4) = False := eq_false (Nat.not_lt.2 c49)
                try have c49b3 := c49b2
                try simp only [ByteArray.size_append, (show ∀ a : UInt8, (ByteArray.mk #[a]).size = 1 from fun _ => rfl), (show ∀ a b : UInt8, (ByteArray.mk #[a, b]).size = 2 from fun _ _ => rfl), (show ∀ a b c : UInt8, (ByteArray.mk #[a, b, c]).size = 3 from fun _ _ _ => rfl), (show ∀ a b c d : UInt8, (ByteArray.mk #[a, b, c, d]).size = 4 from fun _ _ _ _ => rfl), (show ∀ a b c d e : UInt8, (ByteArray.mk #[a, b, c, d, e]).size = 5 from fun _ _ _ _ _ => rfl), (show ∀ a b c d e f : UInt8, (ByteArray.mk #[a, b, c, d, e, f]).size = 6 from fun _ _ _ _ _ _ => rfl)] at c49b3
                by_cases c50 : (((⟨#[60]⟩ : ByteArray) ++ (rdOf ByteArray.empty l0 x7_1)) ++ (⟨#[62, 120, 60, 47]⟩ : ByteArray)).size + (rdOf ByteArray.empty l0 x7_1).size ≤ 9223372036854775807
                ·rw [if_pos c50] at H
                 have c50b0 := eq_true c50
                 have c50b1 : decide ((((⟨#[60]⟩ : ByteArray) ++ (rdOf ByteArray.empty l0 x7_1)) ++ (⟨#[62, 120, 60, 47]⟩ : ByteArray)).size + (rdOf ByteArray.empty l0 x7_1).size ≤ 9223372036854775807) = true := decide_eq_true c50
                 try have c50b2 : (9223372036854775807 < (((⟨#[60]⟩ : ByteArray) ++ (rdOf ByteArray.empty l0 x7_1)) ++ (⟨#[62, 120, 60, 47]⟩ : ByteArray)).size + (rdOf ByteArray.empty l0 x7_1).size) = False := eq_false (Nat.not_lt.2 c50)
                 try have c50b3 := c50b2
                 try simp only [ByteArray.size_append, (show ∀ a : UInt8, (ByteArray.mk #[a]).size = 1 from fun _ => rfl), (show ∀ a b : UInt8, (ByteArray.mk #[a, b]).size = 2 from fun _ _ => rfl), (show ∀ a b c : UInt8, (ByteArray.mk #[a, b, c]).size = 3 from fun _ _ _ => rfl), (show ∀ a b c d : UInt8, (ByteArray.mk #[a, b, c, d]).size = 4 from fun _ _ _ _ => rfl), (show ∀ a b c d e : UInt8, (ByteArray.mk #[a, b, c, d, e]).size = 5 from fun _ _ _ _ _ => rfl), (show ∀ a b c d e f : UInt8, (ByteArray.mk #[a, b, c, d, e, f]).size = 6 from fun _ _ _ _ _ _ => rfl)] at c50b3
                 by_cases c51 : ((((⟨#[60]⟩ : ByteArray) ++ (rdOf ByteArray.empty l0 x7_1)) ++ (⟨#[62, 120, 60, 47]⟩ : ByteArray)) ++ (rdOf ByteArray.empty l0 x7_1)).size + 1 ≤ 9223372036854775807
                 ·rw [if_pos c51] at H
                  have c51b0 := eq_true c51
                  have c51b1 : decide (((((⟨#[60]⟩ : ByteArray) ++ (rdOf ByteArray.empty l0 x7_1)) ++ (⟨#[62, 120, 60, 47]⟩ : ByteArray)) ++ (rdOf ByteArray.empty l0 x7_1)).size + 1 ≤ 9223372036854775807) = true := decide_eq_true c51
                  try have c51b2 : (9223372036854775807 < ((((⟨#[60]⟩ : ByteArray) ++ (rdOf ByteArray.empty l0 x7_1)) ++ (⟨#[62, 120, 60, 47]⟩ : ByteArray)) ++ (rdOf ByteArray.empty l0 x7_1)).size + 1) = False := eq_false (Nat.not_lt.2 c51)
                  try have c51b3 := c51b2
                  try simp only [ByteArray.size_append, (show ∀ a : UInt8, (ByteArray.mk #[a]).size = 1 from fun _ => rfl), (show ∀ a b : UInt8, (ByteArray.mk #[a, b]).size = 2 from fun _ _ => rfl), (show ∀ a b c : UInt8, (ByteArray.mk #[a, b, c]).size = 3 from fun _ _ _ => rfl), (show ∀ a b c d : UInt8, (ByteArray.mk #[a, b, c, d]).size = 4 from fun _ _ _ _ => rfl), (show ∀ a b c d e : UInt8, (ByteArray.mk #[a, b, c, d, e]).size = 5 from fun _ _ _ _ _ => rfl), (show ∀ a b c d e f : UInt8, (ByteArray.mk #[a, b, c, d, e, f]).size = 6 from fun _ _ _ _ _ _ => rfl)] at c51b3
                  by_cases c52 : x5_1.size + (((((⟨#[60]⟩ : ByteArray) ++ (rdOf ByteArray.empty l0 x7_1)) ++ (⟨#[62, 120, 60, 47]⟩ : ByteArray)) ++ (rdOf ByteArray.empty l0 x7_1)) ++ (⟨#[62]⟩ : ByteArray)).size ≤ 9223372036854775807
                  ·rw [if_pos c52] at H
                   have c52b0 := eq_true c52
                   have c52b1 : decide (x5_1.size + (((((⟨#[60]⟩ : ByteArray) ++ (rdOf ByteArray.empty l0 x7_1)) ++ (⟨#[62, 120, 60, 47]⟩ : ByteArray)) ++ (rdOf ByteArray.empty l0 x7_1)) ++ (⟨#[62]⟩ : ByteArray)).size ≤ 9223372036854775807) = true := decide_eq_true c52
                   try have c52b2 : (9223372036854775807 < x5_1.size + (((((⟨#[60]⟩ : ByteArray) ++ (rdOf ByteArray.empty l0 x7_1)) ++ (⟨#[62, 120, 60, 47]⟩ : ByteArray)) ++ (rdOf ByteArray.empty l0 x7_1)) ++ (⟨#[62]⟩ : ByteArray)).size) = False := eq_false (Nat.not_lt.2 c52)
                   try have c52b3 := c52b2
                   try simp only [ByteArray.size_append, (show ∀ a : UInt8, (ByteArray.mk #[a]).size = 1 from fun _ => rfl), (show ∀ a b : UInt8, (ByteArray.mk #[a, b]).size = 2 from fun _ _ => rfl), (show ∀ a b c : UInt8, (ByteArray.mk #[a, b, c]).size = 3 from fun _ _ _ => rfl), (show ∀ a b c d : UInt8, (ByteArray.mk #[a, b, c, d]).size = 4 from fun _ _ _ _ => rfl), (show ∀ a b c d e : UInt8, (ByteArray.mk #[a, b, c, d, e]).size = 5 from fun _ _ _ _ _ => rfl), (show ∀ a b c d e f : UInt8, (ByteArray.mk #[a, b, c, d, e, f]).size = 6 from fun _ _ _ _ _ _ => rfl)] at c52b3
                   replace H := Option.bind_eq_some_iff.mp H
                   obtain ⟨⟨t414, t415, t416, t417, t418⟩, A530, H⟩ := H
                   replace H : ((boltinglaw07_text.f 1 (⟨#[120]⟩ : ByteArray)).bind fun bt421 => ((some (([(⟨t414, t415, t416, t417, t418⟩ : S34), (⟨bt421.1, bt421.2.1, bt421.2.2.1, bt421.2.2.2.1, bt421.2.2.2.2⟩ : S34)] : List (S34)) : List (S34))).bind fun y428 => (if x6_1.length + y428.length < 1954687338268 then (boltinglaw07_BuildParts.l0 kj9 l0 a1 (x5_1 ++ (((((⟨#[60]⟩ : ByteArray) ++ (rdOf ByteArray.empty l0 x7_1)) ++ (⟨#[62, 120, 60, 47]⟩ : ByteArray)) ++ (rdOf ByteArray.empty l0 x7_1)) ++ (⟨#[62]⟩ : ByteArray))) (x6_1 ++ y428) (wrap64 (x7_1 + 1))) else (none)))) = some r := H
                   have A53 := Aside0.mk A530
                   clear A530
                   replace H := Option.bind_eq_some_iff.mp H
                   obtain ⟨⟨t421, t422, t423, t424, t425⟩, A540, H⟩ := H
                   replace H : ((some (([(⟨t414, t415, t416, t417, t418⟩ : S34), (⟨t421, t422, t423, t424, t425⟩ : S34)] : List (S34)) : List (S34))).bind fun y428 => (if x6_1.length + y428.length < 1954687338268 then (boltinglaw07_BuildParts.l0 kj9 l0 a1 (x5_1 ++ (((((⟨#[60]⟩ : ByteArray) ++ (rdOf ByteArray.empty l0 x7_1)) ++ (⟨#[62, 120, 60, 47]⟩ : ByteArray)) ++ (rdOf ByteArray.empty l0 x7_1)) ++ (⟨#[62]⟩ : ByteArray))) (x6_1 ++ y428) (wrap64 (x7_1 + 1))) else (none))) = some r := H
                   have A54 := Aside0.mk A540
                   clear A540
                   obtain ⟨y428, hy428⟩ : ∃ y_ : List (S34), y_ = (([(⟨t414, t415, t416, t417, t418⟩ : S34), (⟨t421, t422, t423, t424, t425⟩ : S34)] : List (S34))) := ⟨_, rfl⟩
                   replace H : (if x6_1.length + y428.length < 1954687338268 then (boltinglaw07_BuildParts.l0 kj9 l0 a1 (x5_1 ++ (((((⟨#[60]⟩ : ByteArray) ++ (rdOf ByteArray.empty l0 x7_1)) ++ (⟨#[62, 120, 60, 47]⟩ : ByteArray)) ++ (rdOf ByteArray.empty l0 x7_1)) ++ (⟨#[62]⟩ : ByteArray))) (x6_1 ++ y428) (wrap64 (x7_1 + 1))) else (none)) = some r := by first | (rw [hy428]; with_reducible exact H) | (have H2_ := (Option.bind_some _ _).symm.trans H; rw [hy428]; with_reducible exact H2_) | (have H2_ := (Option.bind_some _ _).symm.trans H; with_reducible exact H2_) | with_reducible exact H | (rw [hy428]; exact H) | exact H
                   have Ny428 := Aside0.mk hy428
                   clear hy428
                   by_cases c55 : x6_1.length + y428.length < 1954687338268
                   ·rw [if_pos c55] at H
                    have LMc55 := Aside0.mk c55
                    clear c55
                    obtain ⟨y431, hy431⟩ : ∃ y_ : List (S34), y_ = (x6_1 ++ y428) := ⟨_, rfl⟩
                    replace H : (boltinglaw07_BuildParts.l0 kj9 l0 a1 (x5_1 ++ (((((⟨#[60]⟩ : ByteArray) ++ (rdOf ByteArray.empty l0 x7_1)) ++ (⟨#[62, 120, 60, 47]⟩ : ByteArray)) ++ (rdOf ByteArray.empty l0 x7_1)) ++ (⟨#[62]⟩ : ByteArray))) y431 (wrap64 (x7_1 + 1))) = some r := by first | (rw [hy431]; with_reducible exact H) | (have H2_ := (Option.bind_some _ _).symm.trans H; rw [hy431]; with_reducible exact H2_) | (have H2_ := (Option.bind_some _ _).symm.trans H; with_reducible exact H2_) | with_reducible exact H | (rw [hy431]; exact H) | exact H
                    have Ny431 := Aside0.mk hy431
                    clear hy431
                    have H' := Aside0.mk H
                    clear H
                    go_wp2_with (first | ((with_reducible refine gate_callee (f := 37) rfl ?_); refine goesL_ (some 73) rfl rfl Tryz.func37 (by kernel_rfl) rfl #[.int .i64 0, .string (rdOf ByteArray.empty l0 x7_1)] rfl (by (try simp only [List.map_toArray, List.map_cons, List.map_nil]); first | done | rfl | (simp only [List.length_drop, List.length_take]; rfl)) ?_; (with_reducible refine (boltinglaw07_el.calls 0 (rdOf ByteArray.empty l0 x7_1) t414 t415 t416 t417 t418 _ A53.out).mono ?_); rintro e w56 ⟨v419, rfl, ho0, hb⟩; refine ⟨_, rfl, ?_⟩; have n0_ := Aside0.mk (Kd.N_elder' (nz HO_6.out) (Kd.R_base ho0) hb); have n1_ := Aside0.mk (Kd.R_lower ho0 (below_size bz)); have n2_ := Aside0.mk (below_step bz hb); clear HO_6; clear HB; have HO_6 := n0_; have HO420 := n1_; have HB := n2_; clear n0_ n1_ n2_; (try clear hb); (try clear hb2); (try clear hk); (try clear hi); (try clear ho0)) | ((with_reducible refine gate_callee (f := 29) rfl ?_); refine goesL_ (some 74) rfl rfl Tryz.func29 (by kernel_rfl) rfl #[.int .i64 1, .string (⟨#[120]⟩ : ByteArray)] rfl (by (try simp only [List.map_toArray, List.map_cons, List.map_nil]); first | done | rfl | (simp only [List.length_drop, List.length_take]; rfl)) ?_; (with_reducible refine (boltinglaw07_text.calls 1 (⟨#[120]⟩ : ByteArray) t421 t422 t423 t424 t425 _ A54.out).mono ?_); rintro e w57 ⟨v426, rfl, ho0, hb⟩; refine ⟨_, rfl, ?_⟩; have n0_ := Aside0.mk (Kd.N_elder' (nz HO_6.out) (Kd.R_base ho0) hb); have n1_ := Aside0.mk (Kd.R_elder' (rz HO420.out) (Kd.R_base ho0) hb); have n2_ := Aside0.mk (Kd.R_lower (Kd.R_new' ho0 (Kd.R_lt (rz HO420.out))) (below_size bz)); have n3_ := Aside0.mk (below_step bz hb); clear HO_6; clear HO420; clear HB; have HO_6 := n0_; have HO420 := n1_; have HO427 := n2_; have HB := n3_; clear n0_ n1_ n2_ n3_; (try clear hb); (try clear hb2); (try clear hk); (try clear hi); (try clear ho0); obtain ⟨Ao58, co58, eo58⟩ := Kd.R_slice HO420.out; subst eo58; obtain ⟨Ao59, co59, eo59⟩ := Kd.R_slice HO427.out; subst eo59) | ((with_reducible refine gate_dst (N := 75) rfl ?_); (try (refine gate_guard (by rfl) ?_; dsimp only)); refine Kd.N_lit k34 _ 34 ?hg (N' := 75) ?hd (xs := ([(⟨t414, t415, t416, t417, t418⟩ : S34), (⟨t421, t422, t423, t424, t425⟩ : S34)] : List (S34))) (inner := [.int .i64 t414, .int .i64 t415, .string t416, .string t417, .slice Ao58 t418.length co58, .int .i64 t421, .int .i64 t422, .string t423, .string t424, .slice Ao59 t425.length co59]) (ok := (fun k_ => some k_ ≠ (u6 : Value).ownBlock)) (okp := (fun k_ => some k_ ≠ (u6 : Value).ownBlock)) ?hr ?hp (fun _ hk => hk) ((show ∀ k_, w57.heap.size ≤ k_ → (fun k_ => some k_ ≠ (u6 : Value).ownBlock) k_ from fun k_ hk => Kd.fresh' (Kd.N_lt (nz HO_6.out)) k_ hk) _ (Nat.le_refl _)) (Below.refl _ _) (Nat.le_refl _) (by simp) ?_; (case hd => rfl); (case hg => rfl); (case hr => first | (go_simp; done) | (go_simp; rfl)); (case hp => exact (Reps.c5 (show Kd.FK k34 _ _ (⟨t414, t415, t416, t417, t418⟩ : S34) [.int .i64 t414, .int .i64 t415, .string t416, .string t417, .slice Ao58 t418.length co58] from (k34_mkF _ _ (⟨t414, t415, t416, t417, t418⟩ : S34) (Kd.R_reads' (Kd.R_mono (ok' := (fun k_ => some k_ ≠ (u6 : Value).ownBlock)) (Kd.R_apart' (HO420.out) (Kd.N_typed HO_6.out) (by decide)) (fun k_ hk => hk.2))).2.1 (Kd.R_F (Kd.R_mono (ok' := (fun k_ => some k_ ≠ (u6 : Value).ownBlock)) (Kd.R_apart' (HO420.out) (Kd.N_typed HO_6.out) (by decide)) (fun k_ hk => hk.2))))) (Reps.c5 (show Kd.FK k34 _ _ (⟨t421, t422, t423, t424, t425⟩ : S34) [.int .i64 t421, .int .i64 t422, .string t423, .string t424, .slice Ao59 t425.length co59] from (k34_mkF _ _ (⟨t421, t422, t423, t424, t425⟩ : S34) (Kd.R_reads' (Kd.R_mono (ok' := (fun k_ => some k_ ≠ (u6 : Value).ownBlock)) (Kd.R_apart' (HO427.out) (Kd.N_typed HO_6.out) (by decide)) (fun k_ hk => hk.2))).2.1 (Kd.R_F (Kd.R_mono (ok' := (fun k_ => some k_ ≠ (u6 : Value).ownBlock)) (Kd.R_apart' (HO427.out) (Kd.N_typed HO_6.out) (by decide)) (fun k_ hk => hk.2))))) (Reps.none _ _)))); intro v429 w60 ho61 hb hg_ hnew_; clear hg_ hnew_; (first | rw [← Ny428.out] at ho61 | (simp only [Int.reduceToNat] at ho61; rw [← Ny428.out] at ho61)); have n0_ := Aside0.mk (Kd.N_elder' (nz HO_6.out) (by first | exact Kd.N_base ho61 | exact Kd.R_base ho61) hb); have n1_ := Aside0.mk (Kd.N_lower ho61 (below_size bz)); have n2_ := Aside0.mk (below_step bz hb); clear HO_6; clear HB; clear HO420; clear HO427; have HO_6 := n0_; have HO430 := n1_; have HB := n2_; clear n0_ n1_ n2_; clear hb ho61; obtain ⟨Ao63, co63, eo63⟩ := Kd.N_slice HO430.out; subst eo63) | ((with_reducible refine gate_builtin (b := .append) (xs := #[.tmp 71, .tmp 75]) rfl ?_); (try (refine gate_guard (by rfl) ?_; dsimp only)); at_builtin; refine Kd.N_append_rows k34 (w0 := w) w.heap.size rfl (.tmp 71) (.tmp 75) 22 34 (.agg #[(.int .i64 0), (.int .i64 0), (.string ⟨#[]⟩), (.string ⟨#[]⟩), (.slice none 0 0)]) 72 rfl Tryz.underlying22 info34 rfl (by decide) (by omega) u6 x6_1 y428 _ _ _ (fun _ => True) (fun k_ => ((fun _ => True)) k_ ∧ some k_ ≠ (u6 : Value).ownBlock) rfl rfl ?aO ?aR (fun _ hk => hk) ?aF ?aB ?aS ?aL ?_; (case aR => exact (by skip; exact Kd.N_F (Kd.N_mono (ok' := (fun k_ => ((fun _ => True)) k_ ∧ some k_ ≠ (u6 : Value).ownBlock)) (HO430.out) (fun k_ hk => ⟨trivial, hk⟩)))); (case aB => exact bz); (case aF => exact (fun _ _ => trivial)); (case aO => exact (by (with_reducible repeat (first | apply Kd.N_alloc | apply Kd.N_drewN | apply Kd.N_drew)); exact Kd.N_mono HO_6.out (fun _ hk => trivial))); (case aS => exact (below_size bz)); (case aL => have := LMc55.out; omega); intro v432 w62 ho hb hg hat; rw [← Ny431.out] at ho; have n0_ := Aside0.mk (Kd.N_afterv (ok := (fun _ => True)) (by (with_reducible repeat (first | apply Kd.N_alloc | apply Kd.N_drewN | apply Kd.N_drew)); exact Kd.N_mono HO430.out (fun _ hk => ⟨trivial, hk⟩)) hg hat); have n1_ := Aside0.mk (hb); have n2_ := Aside0.mk (ho); clear HO430; clear HB; clear HO_6; have HO430 := n0_; have HB := n1_; have HO433 := n2_; clear n0_ n1_ n2_; clear ho hb hg hat))
                    go_roundg kj9
                    case measure => have := HK1.out; have := HJ4.out; have := HJ9.out; omega
                    case rel => exact ⟨(x5_1 ++ (((((⟨#[60]⟩ : ByteArray) ++ (rdOf ByteArray.empty l0 x7_1)) ++ (⟨#[62, 120, 60, 47]⟩ : ByteArray)) ++ (rdOf ByteArray.empty l0 x7_1)) ++ (⟨#[62]⟩ : ByteArray))), (y431), (wrap64 (x7_1 + 1)), (by first | rfl | (simp; done) | (simp [*]; done) | (simp; generalize ByteArray.toList _ = l_; cases l_ <;> rfl)), (by first | rfl | (simp; done) | (simp [*]; done) | (simp; generalize ByteArray.toList _ = l_; cases l_ <;> rfl)), H', ⟨by have := HK1.out; have := HJ4.out; have := HJ9.out; omega⟩, ⟨by (with_reducible repeat (first | apply Kd.N_alloc | apply Kd.N_drewN | apply Kd.N_drew)); exact HO433.out⟩, ⟨bz⟩⟩
                   ·rw [if_neg c55] at H
                    exact absurd H (by simp)
                  ·rw [if_neg c52] at H
                   exact absurd H (by simp)
                 ·rw [if_neg c51] at H
                  exact absurd H (by simp)
                ·rw [if_neg c50] at H
                 exact absurd H (by simp)
               ·rw [if_neg c49] at H
                exact absurd H (by simp)
              ·rw [if_neg c48] at H
               exact absurd H (by simp)
         ·rw [if_neg c9] at H
          exact absurd H (by simp)
        ·rw [if_neg c8] at H
         exact absurd H (by simp)
       ·replace c7 := Bool.eq_false_iff.mpr c7
        subst c7
        have H1 : (if 0 ≤ (mn (a1.size : Int) 100) then (if (mn (a1.size : Int) 100) ≤ (a1.size : Int) then ((build_Parse.f (a1.extract 0 ((mn (a1.size : Int) 100) : Int).toNat)).bind fun bt434 => (if x5_1.size + 7 ≤ 9223372036854775807 then (if (x5_1 ++ (⟨#[60, 105, 62, 60, 47, 105, 62]⟩ : ByteArray)).size + (a1.extract 0 ((mn (a1.size : Int) 100) : Int).toNat).size ≤ 9223372036854775807 then ((build_Parse.f ((x5_1 ++ (⟨#[60, 105, 62, 60, 47, 105, 62]⟩ : ByteArray)) ++ (a1.extract 0 ((mn (a1.size : Int) 100) : Int).toNat))).bind fun bt438 => ((boltinglaw07_el.f 0 (⟨#[105]⟩ : ByteArray)).bind fun bt442 => (if x6_1.length < 1954687338268 then (if bt434.2 = bt438.2 then (if bt434.2 = 0 then ((boltingref04_Join.f kj4 (x6_1 ++ [(⟨bt442.1, bt442.2.1, bt442.2.2.1, bt442.2.2.2.1, bt442.2.2.2.2⟩ : S34)]) bt434.1).bind fun t452 => ((boltingref04_Same.f bt438.1 t452).bind fun t455 => (if t455 = true then ((boltinglaw07_fixed.f).bind fun t456 => (some t456)) else (some false)))) else ((boltinglaw07_fixed.f).bind fun t457 => (some t457))) else (some false)) else (none)))) else (none)) else (none))) else (none)) else (none)) = some r := by rw [if_neg (show ¬ (false = true) by decide)] at H; first | exact H | (simp only [eq_self] at H ⊢; exact H) | (simp only [eq_self, if_true] at H ⊢; exact H)
        clear H
        have H := H1
        clear H1
        obtain ⟨ji64, hji64⟩ : ∃ j_ : Int, (mn (a1.size : Int) 100) = j_ := ⟨_, rfl⟩
        replace H : (if 0 ≤ (ji64) then (if (ji64) ≤ (a1.size : Int) then ((build_Parse.f (a1.extract 0 ((ji64) : Int).toNat)).bind fun bt434 => (if x5_1.size + 7 ≤ 9223372036854775807 then (if (x5_1 ++ (⟨#[60, 105, 62, 60, 47, 105, 62]⟩ : ByteArray)).size + (a1.extract 0 ((ji64) : Int).toNat).size ≤ 9223372036854775807 then ((build_Parse.f ((x5_1 ++ (⟨#[60, 105, 62, 60, 47, 105, 62]⟩ : ByteArray)) ++ (a1.extract 0 ((ji64) : Int).toNat))).bind fun bt438 => ((boltinglaw07_el.f 0 (⟨#[105]⟩ : ByteArray)).bind fun bt442 => (if x6_1.length < 1954687338268 then (if bt434.2 = bt438.2 then (if bt434.2 = 0 then ((boltingref04_Join.f kj4 (x6_1 ++ [(⟨bt442.1, bt442.2.1, bt442.2.2.1, bt442.2.2.2.1, bt442.2.2.2.2⟩ : S34)]) bt434.1).bind fun t452 => ((boltingref04_Same.f bt438.1 t452).bind fun t455 => (if t455 = true then ((boltinglaw07_fixed.f).bind fun t456 => (some t456)) else (some false)))) else ((boltinglaw07_fixed.f).bind fun t457 => (some t457))) else (some false)) else (none)))) else (none)) else (none))) else (none)) else (none)) = some r := by first | (rw [hji64] at H; exact H) | (simp only [hji64] at H ⊢; exact H)
        have hji64_ : (if 100 < (a1.size : Int) then 100 else (a1.size : Int)) = ji64 := hji64
        by_cases c65 : 0 ≤ (ji64)
        ·rw [if_pos c65] at H
         have c65b0 := eq_true c65
         have c65b1 : decide (0 ≤ (ji64)) = true := decide_eq_true c65
         clear c65
         by_cases c66 : (ji64) ≤ (a1.size : Int)
         ·rw [if_pos c66] at H
          have c66b0 := eq_true c66
          have c66b1 : decide ((ji64) ≤ (a1.size : Int)) = true := decide_eq_true c66
          clear c66
          replace H := Option.bind_eq_some_iff.mp H
          obtain ⟨⟨t434, t435⟩, A670, H⟩ := H
          replace H : (if x5_1.size + 7 ≤ 9223372036854775807 then (if (x5_1 ++ (⟨#[60, 105, 62, 60, 47, 105, 62]⟩ : ByteArray)).size + (a1.extract 0 ((ji64) : Int).toNat).size ≤ 9223372036854775807 then ((build_Parse.f ((x5_1 ++ (⟨#[60, 105, 62, 60, 47, 105, 62]⟩ : ByteArray)) ++ (a1.extract 0 ((ji64) : Int).toNat))).bind fun bt438 => ((boltinglaw07_el.f 0 (⟨#[105]⟩ : ByteArray)).bind fun bt442 => (if x6_1.length < 1954687338268 then (if t435 = bt438.2 then (if t435 = 0 then ((boltingref04_Join.f kj4 (x6_1 ++ [(⟨bt442.1, bt442.2.1, bt442.2.2.1, bt442.2.2.2.1, bt442.2.2.2.2⟩ : S34)]) t434).bind fun t452 => ((boltingref04_Same.f bt438.1 t452).bind fun t455 => (if t455 = true then ((boltinglaw07_fixed.f).bind fun t456 => (some t456)) else (some false)))) else ((boltinglaw07_fixed.f).bind fun t457 => (some t457))) else (some false)) else (none)))) else (none)) else (none)) = some r := H
          have A67 := Aside0.mk A670
          clear A670
          by_cases c68 : x5_1.size + 7 ≤ 9223372036854775807
          ·rw [if_pos c68] at H
           have c68b0 := eq_true c68
           have c68b1 : decide (x5_1.size + 7 ≤ 9223372036854775807) = true := decide_eq_true c68
           try have c68b2 : (9223372036854775807 < x5_1.size + 7) = False := eq_false (Nat.not_lt.2 c68)
           by_cases c69 : (x5_1 ++ (⟨#[60, 105, 62, 60, 47, 105, 62]⟩ : ByteArray)).size + (a1.extract 0 ((ji64) : Int).toNat).size ≤ 9223372036854775807
           ·rw [if_pos c69] at H
            have c69b0 := eq_true c69
            have c69b1 : decide ((x5_1 ++ (⟨#[60, 105, 62, 60, 47, 105, 62]⟩ : ByteArray)).size + (a1.extract 0 ((ji64) : Int).toNat).size ≤ 9223372036854775807) = true := decide_eq_true c69
            try have c69b2 : (9223372036854775807 < (x5_1 ++ (⟨#[60, 105, 62, 60, 47, 105, 62]⟩ : ByteArray)).size + (a1.extract 0 ((ji64) : Int).toNat).size) = False := eq_false (Nat.not_lt.2 c69)
            try have c69b3 := c69b2
            try simp only [ByteArray.size_append, (show ∀ a : UInt8, (ByteArray.mk #[a]).size = 1 from fun _ => rfl), (show ∀ a b : UInt8, (ByteArray.mk #[a, b]).size = 2 from fun _ _ => rfl), (show ∀ a b c : UInt8, (ByteArray.mk #[a, b, c]).size = 3 from fun _ _ _ => rfl), (show ∀ a b c d : UInt8, (ByteArray.mk #[a, b, c, d]).size = 4 from fun _ _ _ _ => rfl), (show ∀ a b c d e : UInt8, (ByteArray.mk #[a, b, c, d, e]).size = 5 from fun _ _ _ _ _ => rfl), (show ∀ a b c d e f : UInt8, (ByteArray.mk #[a, b, c, d, e, f]).size = 6 from fun _ _ _ _ _ _ => rfl)] at c69b3
            replace H := Option.bind_eq_some_iff.mp H
            obtain ⟨⟨t438, t439⟩, A700, H⟩ := H
            replace H : ((boltinglaw07_el.f 0 (⟨#[105]⟩ : ByteArray)).bind fun bt442 => (if x6_1.length < 1954687338268 then (if t435 = t439 then (if t435 = 0 then ((boltingref04_Join.f kj4 (x6_1 ++ [(⟨bt442.1, bt442.2.1, bt442.2.2.1, bt442.2.2.2.1, bt442.2.2.2.2⟩ : S34)]) t434).bind fun t452 => ((boltingref04_Same.f t438 t452).bind fun t455 => (if t455 = true then ((boltinglaw07_fixed.f).bind fun t456 => (some t456)) else (some false)))) else ((boltinglaw07_fixed.f).bind fun t457 => (some t457))) else (some false)) else (none))) = some r := H
            have A70 := Aside0.mk A700
            clear A700
            replace H := Option.bind_eq_some_iff.mp H
            obtain ⟨⟨t442, t443, t444, t445, t446⟩, A710, H⟩ := H
            replace H : (if x6_1.length < 1954687338268 then (if t435 = t439 then (if t435 = 0 then ((boltingref04_Join.f kj4 (x6_1 ++ [(⟨t442, t443, t444, t445, t446⟩ : S34)]) t434).bind fun t452 => ((boltingref04_Same.f t438 t452).bind fun t455 => (if t455 = true then ((boltinglaw07_fixed.f).bind fun t456 => (some t456)) else (some false)))) else ((boltinglaw07_fixed.f).bind fun t457 => (some t457))) else (some false)) else (none)) = some r := H
            have A71 := Aside0.mk A710
            clear A710
            by_cases c72 : x6_1.length < 1954687338268
            ·rw [if_pos c72] at H
             have LMc72 := Aside0.mk c72
             clear c72
             obtain ⟨y449, hy449⟩ : ∃ y_ : List (S34), y_ = (x6_1 ++ [(⟨t442, t443, t444, t445, t446⟩ : S34)]) := ⟨_, rfl⟩
             replace H : (if t435 = t439 then (if t435 = 0 then ((boltingref04_Join.f kj4 y449 t434).bind fun t452 => ((boltingref04_Same.f t438 t452).bind fun t455 => (if t455 = true then ((boltinglaw07_fixed.f).bind fun t456 => (some t456)) else (some false)))) else ((boltinglaw07_fixed.f).bind fun t457 => (some t457))) else (some false)) = some r := by first | (rw [hy449]; with_reducible exact H) | (have H2_ := (Option.bind_some _ _).symm.trans H; rw [hy449]; with_reducible exact H2_) | (have H2_ := (Option.bind_some _ _).symm.trans H; with_reducible exact H2_) | with_reducible exact H | (rw [hy449]; exact H) | exact H
             have Ny449 := Aside0.mk hy449
             clear hy449
             by_cases c73 : t435 = t439
             ·rw [if_pos c73] at H
              have c73b0 : (t435 == t439) = true := beq_iff_eq.mpr c73
              have c73b1 : (t435 != t439) = false := bne_eq_false_iff_eq.mpr c73
              clear c73
              by_cases c74 : t435 = 0
              ·rw [if_pos c74] at H
               have c74b0 : (t435 == 0) = true := beq_iff_eq.mpr c74
               have c74b1 : (t435 != 0) = false := bne_eq_false_iff_eq.mpr c74
               clear c74
               replace H := Option.bind_eq_some_iff.mp H
               obtain ⟨t452, A750, H⟩ := H
               replace H : ((boltingref04_Same.f t438 t452).bind fun t455 => (if t455 = true then ((boltinglaw07_fixed.f).bind fun t456 => (some t456)) else (some false))) = some r := H
               have A75 := Aside0.mk A750
               clear A750
               replace H := Option.bind_eq_some_iff.mp H
               obtain ⟨t455, A760, H⟩ := H
               replace H : (if t455 = true then ((boltinglaw07_fixed.f).bind fun t456 => (some t456)) else (some false)) = some r := H
               have A76 := Aside0.mk A760
               clear A760
               by_cases c77 : t455 = true
               ·subst c77
                have H1 : ((boltinglaw07_fixed.f).bind fun t456 => (some t456)) = some r := by rw [if_pos rfl] at H; exact H
                clear H
                have H := H1
                clear H1
                replace H := Option.bind_eq_some_iff.mp H
                obtain ⟨t456, A780, H⟩ := H
                replace H : (some t456) = some r := H
                have A78 := Aside0.mk A780
                clear A780
                obtain rfl := Option.some.inj H
                go_wp2_with (first | ((with_reducible refine gate_callee (f := 26) rfl ?_); refine goesL_ (some 84) rfl rfl Tryz.func26 (by kernel_rfl) rfl #[.string (a1.extract 0 ((ji64) : Int).toNat)] rfl (by (try simp only [List.map_toArray, List.map_cons, List.map_nil]); first | done | (simp only [hji64]; rfl) | rfl | (simp only [List.length_drop, List.length_take]; rfl)) ?_; (with_reducible refine (build_Parse.calls (a1.extract 0 ((ji64) : Int).toNat) t434 t435 _ A67.out (Go.Proofs.YtkcmghlhpbepcaaGreatDoor.Std.below HS_.out bz)).mono ?_); rintro e w79 ⟨v436, rfl, ho0, hb⟩; refine ⟨_, rfl, ?_⟩; have n0_ := Aside0.mk (Kd.N_elder' (nz HO_6.out) (by first | exact Kd.N_base ho0 | exact Kd.R_base ho0) hb); have n1_ := Aside0.mk (Kd.N_lower (Kd.N_mono (ok' := fun k_ => some k_ ≠ (u6 : Value).ownBlock) (Kd.R_N (Kd.R_bound ho0)) (fun k_ hk_ => (Kd.fresh' (Kd.N_lt (nz HO_6.out)) k_ hk_.2.1))) (below_size bz)); have n2_ := Aside0.mk (below_step bz hb); clear HO_6; clear HB; have HO_6 := n0_; have HO437 := n1_; have HB := n2_; clear n0_ n1_ n2_; (try clear hb); (try clear hb2); (try clear hk); (try clear hi); (try clear ho0)) | ((with_reducible refine gate_callee (f := 26) rfl ?_); refine goesL_ (some 92) rfl rfl Tryz.func26 (by kernel_rfl) rfl #[.string ((x5_1 ++ (⟨#[60, 105, 62, 60, 47, 105, 62]⟩ : ByteArray)) ++ (a1.extract 0 ((ji64) : Int).toNat))] rfl (by (try simp only [List.map_toArray, List.map_cons, List.map_nil]); first | done | (simp only [hji64]; rfl) | rfl | (simp only [List.length_drop, List.length_take]; rfl)) ?_; (with_reducible refine (build_Parse.calls ((x5_1 ++ (⟨#[60, 105, 62, 60, 47, 105, 62]⟩ : ByteArray)) ++ (a1.extract 0 ((ji64) : Int).toNat)) t438 t439 _ A70.out (Go.Proofs.YtkcmghlhpbepcaaGreatDoor.Std.below HS_.out bz)).mono ?_); rintro e w80 ⟨v440, rfl, ho0, hb⟩; refine ⟨_, rfl, ?_⟩; have n0_ := Aside0.mk (Kd.N_elder' (nz HO_6.out) (by first | exact Kd.N_base ho0 | exact Kd.R_base ho0) hb); have n1_ := Aside0.mk (Kd.N_elder' (nz HO437.out) (by first | exact Kd.N_base ho0 | exact Kd.R_base ho0) hb); have n2_ := Aside0.mk (Kd.N_lower (Kd.N_mono (ok' := fun k_ => some k_ ≠ (u6 : Value).ownBlock ∧ some k_ ≠ (v436 : Value).ownBlock) (Kd.R_N (Kd.R_bound ho0)) (fun k_ hk_ => ⟨(Kd.fresh' (Kd.N_lt (nz HO_6.out)) k_ hk_.2.1), (Kd.fresh' (Kd.N_lt (nz HO437.out)) k_ hk_.2.1)⟩)) (below_size bz)); have n3_ := Aside0.mk (below_step bz hb); clear HO_6; clear HO437; clear HB; have HO_6 := n0_; have HO437 := n1_; have HO441 := n2_; have HB := n3_; clear n0_ n1_ n2_ n3_; (try clear hb); (try clear hb2); (try clear hk); (try clear hi); (try clear ho0)) | ((with_reducible refine gate_callee (f := 37) rfl ?_); refine goesL_ (some 96) rfl rfl Tryz.func37 (by kernel_rfl) rfl #[.int .i64 0, .string (⟨#[105]⟩ : ByteArray)] rfl (by (try simp only [List.map_toArray, List.map_cons, List.map_nil]); first | done | rfl | (simp only [List.length_drop, List.length_take]; rfl)) ?_; (with_reducible refine (boltinglaw07_el.calls 0 (⟨#[105]⟩ : ByteArray) t442 t443 t444 t445 t446 _ A71.out).mono ?_); rintro e w81 ⟨v447, rfl, ho0, hb⟩; refine ⟨_, rfl, ?_⟩; have n0_ := Aside0.mk (Kd.N_elder' (nz HO_6.out) (Kd.R_base ho0) hb); have n1_ := Aside0.mk (Kd.N_elder' (nz HO437.out) (Kd.R_base ho0) hb); have n2_ := Aside0.mk (Kd.N_elder' (nz HO441.out) (Kd.R_base ho0) hb); have n3_ := Aside0.mk (Kd.R_lower ho0 (below_size bz)); have n4_ := Aside0.mk (below_step bz hb); clear HO_6; clear HO437; clear HO441; clear HB; have HO_6 := n0_; have HO437 := n1_; have HO441 := n2_; have HO448 := n3_; have HB := n4_; clear n0_ n1_ n2_ n3_ n4_; (try clear hb); (try clear hb2); (try clear hk); (try clear hi); (try clear ho0); obtain ⟨Ao83, co83, eo83⟩ := Kd.R_slice HO448.out; subst eo83) | ((with_reducible refine gate_builtin (b := .append) (xs := #[.tmp 95, .tmp 97]) rfl ?_); (try (refine gate_guard (by rfl) ?_; dsimp only)); at_builtin; refine Kd.N_append k34 (w0 := w) w.heap.size rfl (.tmp 95) (.tmp 97) 22 34 (.agg #[(.int .i64 0), (.int .i64 0), (.string ⟨#[]⟩), (.string ⟨#[]⟩), (.slice none 0 0)]) 72 rfl Tryz.underlying22 info34 rfl (by decide) (by omega) u6 x6_1 (⟨t442, t443, t444, t445, t446⟩ : S34) [.int .i64 t442, .int .i64 t443, .string t444, .string t445, .slice Ao83 t446.length co83] (fun k_ => some k_ ≠ (v436 : Value).ownBlock ∧ some k_ ≠ (v440 : Value).ownBlock) (fun k_ => ((fun k_ => some k_ ≠ (v436 : Value).ownBlock ∧ some k_ ≠ (v440 : Value).ownBlock)) k_ ∧ some k_ ≠ (u6 : Value).ownBlock) rfl rfl ?aP (fun _ hk => hk) ?aF ?aO ?aB ?aS ?aL ?_; (case aP => exact (k34_mkF _ _ (⟨t442, t443, t444, t445, t446⟩ : S34) (Kd.R_reads' (Kd.R_mono (ok' := (fun k_ => ((fun k_ => some k_ ≠ (v436 : Value).ownBlock ∧ some k_ ≠ (v440 : Value).ownBlock)) k_ ∧ some k_ ≠ (u6 : Value).ownBlock)) (Kd.R_apart' (Kd.R_apart' (Kd.R_apart' (HO448.out) (Kd.N_typed HO437.out) (by decide)) (Kd.N_typed HO441.out) (by decide)) (Kd.N_typed HO_6.out) (by decide)) (fun k_ hk => ⟨⟨hk.1.1.2, hk.1.2⟩, hk.2⟩))).2.1 (Kd.R_F (Kd.R_mono (ok' := (fun k_ => ((fun k_ => some k_ ≠ (v436 : Value).ownBlock ∧ some k_ ≠ (v440 : Value).ownBlock)) k_ ∧ some k_ ≠ (u6 : Value).ownBlock)) (Kd.R_apart' (Kd.R_apart' (Kd.R_apart' (HO448.out) (Kd.N_typed HO437.out) (by decide)) (Kd.N_typed HO441.out) (by decide)) (Kd.N_typed HO_6.out) (by decide)) (fun k_ hk => ⟨⟨hk.1.1.2, hk.1.2⟩, hk.2⟩))))); (case aB => exact bz); (case aF => exact (fun k_ hk => ⟨Kd.fresh' (Kd.N_lt (nz HO437.out)) k_ hk, Kd.fresh' (Kd.N_lt (nz HO441.out)) k_ hk⟩)); (case aO => exact (by (with_reducible repeat (first | apply Kd.N_alloc | apply Kd.N_drewN | apply Kd.N_drew)); exact Kd.N_mono HO_6.out (fun _ hk => ⟨hk.1.1.2, hk.1.2⟩))); (case aS => exact (below_size bz)); (case aL => have := LMc72.out; omega); intro v450 w82 ho hb hg hat; rw [← Ny449.out] at ho; have n0_ := Aside0.mk (Kd.N_afterv (ok := (fun k_ => some k_ ≠ (v440 : Value).ownBlock ∧ some k_ ≠ (.slice Ao83 t446.length co83 : Value).ownBlock)) (by (with_reducible repeat (first | apply Kd.N_alloc | apply Kd.N_drewN | apply Kd.N_drew)); exact Kd.N_mono HO437.out (fun _ hk => ⟨⟨hk.1.2, hk.2⟩, hk.1.1⟩)) hg hat); have n1_ := Aside0.mk (Kd.N_afterv (ok := (fun k_ => some k_ ≠ (v436 : Value).ownBlock ∧ some k_ ≠ (.slice Ao83 t446.length co83 : Value).ownBlock)) (by (with_reducible repeat (first | apply Kd.N_alloc | apply Kd.N_drewN | apply Kd.N_drew)); exact Kd.N_mono HO441.out (fun _ hk => ⟨⟨hk.1.2, hk.2⟩, hk.1.1⟩)) hg hat); have n2_ := Aside0.mk (hb); have n3_ := Aside0.mk (ho); clear HO437; clear HO441; clear HB; clear HO_6; clear HO448; have HO437 := n0_; have HO441 := n1_; have HB := n2_; have HO451 := n3_; clear n0_ n1_ n2_ n3_; clear ho hb hg hat; obtain ⟨Ao84, co84, eo84⟩ := Kd.N_slice HO451.out; subst eo84; obtain ⟨Ao85, co85, eo85⟩ := Kd.N_slice HO437.out; subst eo85) | (go_at_call 38; (fail_if_success (have zz_ := Ao88)); (with_reducible refine (boltingref04_Join.calls kj4 _ _ y449 _ _ t434 t452 _ ?side1 ?side2 ?side3 ?side4 A75.out).mono ?_); (case side1 => exact cz (Kd.N_reads' HO451.out).2.2); (case side2 => exact (Kd.N_reads' HO451.out).2.1); (case side3 => exact cz (Kd.N_reads' HO437.out).2.2); (case side4 => exact (Kd.N_reads' HO437.out).2.1); rintro e w86 ⟨v453, rfl, ho0, hb⟩; have n0_ := Aside0.mk (Kd.N_elder' (nz HO437.out) (by first | exact Kd.N_base ho0 | exact Kd.R_base ho0) hb); have n1_ := Aside0.mk (Kd.N_elder' (nz HO441.out) (by first | exact Kd.N_base ho0 | exact Kd.R_base ho0) hb); have n2_ := Aside0.mk (Kd.N_elder' (nz HO451.out) (by first | exact Kd.N_base ho0 | exact Kd.R_base ho0) hb); have n3_ := Aside0.mk (Kd.N_lower (Kd.N_mono (ok' := fun k_ => some k_ ≠ (.slice Ao85 t434.length co85 : Value).ownBlock ∧ some k_ ≠ (v440 : Value).ownBlock ∧ some k_ ≠ (.slice Ao84 y449.length co84 : Value).ownBlock) ho0 (fun k_ hk_ => ⟨(Kd.fresh' (Kd.N_lt (nz HO437.out)) k_ hk_), (Kd.fresh' (Kd.N_lt (nz HO441.out)) k_ hk_), (Kd.fresh' (Kd.N_lt (nz HO451.out)) k_ hk_)⟩)) (below_size bz)); have n4_ := Aside0.mk (below_step bz hb); clear HO437; clear HO441; clear HO451; clear HB; have HO437 := n0_; have HO441 := n1_; have HO451 := n2_; have HO454 := n3_; have HB := n4_; clear n0_ n1_ n2_ n3_ n4_; (try clear hb); (try clear hb2); (try clear hk); (try clear hi); (try clear ho0); obtain ⟨Ao87, co87, eo87⟩ := Kd.N_slice HO441.out; subst eo87; obtain ⟨Ao88, co88, eo88⟩ := Kd.N_slice HO454.out; subst eo88) | (go_at_call 22; (with_reducible refine (boltingref04_Same.calls _ _ t438 _ _ t452 true _ ?side1 ?side2 ?side3 ?side4 A76.out).mono ?_); (case side1 => exact cz (Kd.N_reads' HO441.out).2.2); (case side2 => exact (Kd.N_reads' HO441.out).2.1); (case side3 => exact cz (Kd.N_reads' HO454.out).2.2); (case side4 => exact (Kd.N_reads' HO454.out).2.1); rintro e w89 ⟨rfl, hb⟩; have n0_ := Aside0.mk (Kd.N_below (nz HO437.out) hb); have n1_ := Aside0.mk (Kd.N_below (nz HO441.out) hb); have n2_ := Aside0.mk (Kd.N_below (nz HO451.out) hb); have n3_ := Aside0.mk (Kd.N_below (nz HO454.out) hb); have n4_ := Aside0.mk (below_step bz hb); clear HO437; clear HO441; clear HO451; clear HO454; clear HB; have HO437 := n0_; have HO441 := n1_; have HO451 := n2_; have HO454 := n3_; have HB := n4_; clear n0_ n1_ n2_ n3_ n4_; (try clear hb); (try clear hb2); (try clear hk); (try clear hi)) | (go_at_call 23; (with_reducible refine (boltinglaw07_fixed.calls  t456 _ A78.out (Go.Proofs.YtkcmghlhpbepcaaGreatDoor.Std.below HS_.out bz)).mono ?_); rintro e w90 ⟨rfl, hb⟩; have n0_ := Aside0.mk (Kd.N_below (nz HO437.out) hb); have n1_ := Aside0.mk (Kd.N_below (nz HO441.out) hb); have n2_ := Aside0.mk (Kd.N_below (nz HO451.out) hb); have n3_ := Aside0.mk (Kd.N_below (nz HO454.out) hb); have n4_ := Aside0.mk (below_step bz hb); clear HO437; clear HO441; clear HO451; clear HO454; clear HB; have HO437 := n0_; have HO441 := n1_; have HO451 := n2_; have HO454 := n3_; have HB := n4_; clear n0_ n1_ n2_ n3_ n4_; (try clear hb); (try clear hb2); (try clear hk); (try clear hi)))
                go_ret
                exact ⟨by first | rfl | (simp [errW_none, errW_some] <;> rfl) | (simp only [← hji64]; first | rfl | (simp [errW_none, errW_some] <;> rfl)) | (simp [*, errW_none, errW_some] <;> rfl), bz⟩
               ·replace c77 := Bool.eq_false_iff.mpr c77
                subst c77
                have H1 : (some false) = some r := by rw [if_neg (show ¬ (false = true) by decide)] at H; first | exact H | (simp only [eq_self] at H ⊢; exact H) | (simp only [eq_self, if_true] at H ⊢; exact H)
                clear H
                have H := H1
                clear H1
                obtain rfl := Option.some.inj H
                go_wp2_with (first | ((with_reducible refine gate_callee (f := 26) rfl ?_); refine goesL_ (some 84) rfl rfl Tryz.func26 (by kernel_rfl) rfl #[.string (a1.extract 0 ((ji64) : Int).toNat)] rfl (by (try simp only [List.map_toArray, List.map_cons, List.map_nil]); first | done | (simp only [hji64]; rfl) | rfl | (simp only [List.length_drop, List.length_take]; rfl)) ?_; (with_reducible refine (build_Parse.calls (a1.extract 0 ((ji64) : Int).toNat) t434 t435 _ A67.out (Go.Proofs.YtkcmghlhpbepcaaGreatDoor.Std.below HS_.out bz)).mono ?_); rintro e w91 ⟨v436, rfl, ho0, hb⟩; refine ⟨_, rfl, ?_⟩; have n0_ := Aside0.mk (Kd.N_elder' (nz HO_6.out) (by first | exact Kd.N_base ho0 | exact Kd.R_base ho0) hb); have n1_ := Aside0.mk (Kd.N_lower (Kd.N_mono (ok' := fun k_ => some k_ ≠ (u6 : Value).ownBlock) (Kd.R_N (Kd.R_bound ho0)) (fun k_ hk_ => (Kd.fresh' (Kd.N_lt (nz HO_6.out)) k_ hk_.2.1))) (below_size bz)); have n2_ := Aside0.mk (below_step bz hb); clear HO_6; clear HB; have HO_6 := n0_; have HO437 := n1_; have HB := n2_; clear n0_ n1_ n2_; (try clear hb); (try clear hb2); (try clear hk); (try clear hi); (try clear ho0)) | ((with_reducible refine gate_callee (f := 26) rfl ?_); refine goesL_ (some 92) rfl rfl Tryz.func26 (by kernel_rfl) rfl #[.string ((x5_1 ++ (⟨#[60, 105, 62, 60, 47, 105, 62]⟩ : ByteArray)) ++ (a1.extract 0 ((ji64) : Int).toNat))] rfl (by (try simp only [List.map_toArray, List.map_cons, List.map_nil]); first | done | (simp only [hji64]; rfl) | rfl | (simp only [List.length_drop, List.length_take]; rfl)) ?_; (with_reducible refine (build_Parse.calls ((x5_1 ++ (⟨#[60, 105, 62, 60, 47, 105, 62]⟩ : ByteArray)) ++ (a1.extract 0 ((ji64) : Int).toNat)) t438 t439 _ A70.out (Go.Proofs.YtkcmghlhpbepcaaGreatDoor.Std.below HS_.out bz)).mono ?_); rintro e w92 ⟨v440, rfl, ho0, hb⟩; refine ⟨_, rfl, ?_⟩; have n0_ := Aside0.mk (Kd.N_elder' (nz HO_6.out) (by first | exact Kd.N_base ho0 | exact Kd.R_base ho0) hb); have n1_ := Aside0.mk (Kd.N_elder' (nz HO437.out) (by first | exact Kd.N_base ho0 | exact Kd.R_base ho0) hb); have n2_ := Aside0.mk (Kd.N_lower (Kd.N_mono (ok' := fun k_ => some k_ ≠ (u6 : Value).ownBlock ∧ some k_ ≠ (v436 : Value).ownBlock) (Kd.R_N (Kd.R_bound ho0)) (fun k_ hk_ => ⟨(Kd.fresh' (Kd.N_lt (nz HO_6.out)) k_ hk_.2.1), (Kd.fresh' (Kd.N_lt (nz HO437.out)) k_ hk_.2.1)⟩)) (below_size bz)); have n3_ := Aside0.mk (below_step bz hb); clear HO_6; clear HO437; clear HB; have HO_6 := n0_; have HO437 := n1_; have HO441 := n2_; have HB := n3_; clear n0_ n1_ n2_ n3_; (try clear hb); (try clear hb2); (try clear hk); (try clear hi); (try clear ho0)) | ((with_reducible refine gate_callee (f := 37) rfl ?_); refine goesL_ (some 96) rfl rfl Tryz.func37 (by kernel_rfl) rfl #[.int .i64 0, .string (⟨#[105]⟩ : ByteArray)] rfl (by (try simp only [List.map_toArray, List.map_cons, List.map_nil]); first | done | rfl | (simp only [List.length_drop, List.length_take]; rfl)) ?_; (with_reducible refine (boltinglaw07_el.calls 0 (⟨#[105]⟩ : ByteArray) t442 t443 t444 t445 t446 _ A71.out).mono ?_); rintro e w93 ⟨v447, rfl, ho0, hb⟩; refine ⟨_, rfl, ?_⟩; have n0_ := Aside0.mk (Kd.N_elder' (nz HO_6.out) (Kd.R_base ho0) hb); have n1_ := Aside0.mk (Kd.N_elder' (nz HO437.out) (Kd.R_base ho0) hb); have n2_ := Aside0.mk (Kd.N_elder' (nz HO441.out) (Kd.R_base ho0) hb); have n3_ := Aside0.mk (Kd.R_lower ho0 (below_size bz)); have n4_ := Aside0.mk (below_step bz hb); clear HO_6; clear HO437; clear HO441; clear HB; have HO_6 := n0_; have HO437 := n1_; have HO441 := n2_; have HO448 := n3_; have HB := n4_; clear n0_ n1_ n2_ n3_ n4_; (try clear hb); (try clear hb2); (try clear hk); (try clear hi); (try clear ho0); obtain ⟨Ao95, co95, eo95⟩ := Kd.R_slice HO448.out; subst eo95) | ((with_reducible refine gate_builtin (b := .append) (xs := #[.tmp 95, .tmp 97]) rfl ?_); (try (refine gate_guard (by rfl) ?_; dsimp only)); at_builtin; refine Kd.N_append k34 (w0 := w) w.heap.size rfl (.tmp 95) (.tmp 97) 22 34 (.agg #[(.int .i64 0), (.int .i64 0), (.string ⟨#[]⟩), (.string ⟨#[]⟩), (.slice none 0 0)]) 72 rfl Tryz.underlying22 info34 rfl (by decide) (by omega) u6 x6_1 (⟨t442, t443, t444, t445, t446⟩ : S34) [.int .i64 t442, .int .i64 t443, .string t444, .string t445, .slice Ao95 t446.length co95] (fun k_ => some k_ ≠ (v436 : Value).ownBlock ∧ some k_ ≠ (v440 : Value).ownBlock) (fun k_ => ((fun k_ => some k_ ≠ (v436 : Value).ownBlock ∧ some k_ ≠ (v440 : Value).ownBlock)) k_ ∧ some k_ ≠ (u6 : Value).ownBlock) rfl rfl ?aP (fun _ hk => hk) ?aF ?aO ?aB ?aS ?aL ?_; (case aP => exact (k34_mkF _ _ (⟨t442, t443, t444, t445, t446⟩ : S34) (Kd.R_reads' (Kd.R_mono (ok' := (fun k_ => ((fun k_ => some k_ ≠ (v436 : Value).ownBlock ∧ some k_ ≠ (v440 : Value).ownBlock)) k_ ∧ some k_ ≠ (u6 : Value).ownBlock)) (Kd.R_apart' (Kd.R_apart' (Kd.R_apart' (HO448.out) (Kd.N_typed HO437.out) (by decide)) (Kd.N_typed HO441.out) (by decide)) (Kd.N_typed HO_6.out) (by decide)) (fun k_ hk => ⟨⟨hk.1.1.2, hk.1.2⟩, hk.2⟩))).2.1 (Kd.R_F (Kd.R_mono (ok' := (fun k_ => ((fun k_ => some k_ ≠ (v436 : Value).ownBlock ∧ some k_ ≠ (v440 : Value).ownBlock)) k_ ∧ some k_ ≠ (u6 : Value).ownBlock)) (Kd.R_apart' (Kd.R_apart' (Kd.R_apart' (HO448.out) (Kd.N_typed HO437.out) (by decide)) (Kd.N_typed HO441.out) (by decide)) (Kd.N_typed HO_6.out) (by decide)) (fun k_ hk => ⟨⟨hk.1.1.2, hk.1.2⟩, hk.2⟩))))); (case aB => exact bz); (case aF => exact (fun k_ hk => ⟨Kd.fresh' (Kd.N_lt (nz HO437.out)) k_ hk, Kd.fresh' (Kd.N_lt (nz HO441.out)) k_ hk⟩)); (case aO => exact (by (with_reducible repeat (first | apply Kd.N_alloc | apply Kd.N_drewN | apply Kd.N_drew)); exact Kd.N_mono HO_6.out (fun _ hk => ⟨hk.1.1.2, hk.1.2⟩))); (case aS => exact (below_size bz)); (case aL => have := LMc72.out; omega); intro v450 w94 ho hb hg hat; rw [← Ny449.out] at ho; have n0_ := Aside0.mk (Kd.N_afterv (ok := (fun k_ => some k_ ≠ (v440 : Value).ownBlock ∧ some k_ ≠ (.slice Ao95 t446.length co95 : Value).ownBlock)) (by (with_reducible repeat (first | apply Kd.N_alloc | apply Kd.N_drewN | apply Kd.N_drew)); exact Kd.N_mono HO437.out (fun _ hk => ⟨⟨hk.1.2, hk.2⟩, hk.1.1⟩)) hg hat); have n1_ := Aside0.mk (Kd.N_afterv (ok := (fun k_ => some k_ ≠ (v436 : Value).ownBlock ∧ some k_ ≠ (.slice Ao95 t446.length co95 : Value).ownBlock)) (by (with_reducible repeat (first | apply Kd.N_alloc | apply Kd.N_drewN | apply Kd.N_drew)); exact Kd.N_mono HO441.out (fun _ hk => ⟨⟨hk.1.2, hk.2⟩, hk.1.1⟩)) hg hat); have n2_ := Aside0.mk (hb); have n3_ := Aside0.mk (ho); clear HO437; clear HO441; clear HB; clear HO_6; clear HO448; have HO437 := n0_; have HO441 := n1_; have HB := n2_; have HO451 := n3_; clear n0_ n1_ n2_ n3_; clear ho hb hg hat; obtain ⟨Ao96, co96, eo96⟩ := Kd.N_slice HO451.out; subst eo96; obtain ⟨Ao97, co97, eo97⟩ := Kd.N_slice HO437.out; subst eo97) | (go_at_call 38; (fail_if_success (have zz_ := Ao100)); (with_reducible refine (boltingref04_Join.calls kj4 _ _ y449 _ _ t434 t452 _ ?side1 ?side2 ?side3 ?side4 A75.out).mono ?_); (case side1 => exact cz (Kd.N_reads' HO451.out).2.2); (case side2 => exact (Kd.N_reads' HO451.out).2.1); (case side3 => exact cz (Kd.N_reads' HO437.out).2.2); (case side4 => exact (Kd.N_reads' HO437.out).2.1); rintro e w98 ⟨v453, rfl, ho0, hb⟩; have n0_ := Aside0.mk (Kd.N_elder' (nz HO437.out) (by first | exact Kd.N_base ho0 | exact Kd.R_base ho0) hb); have n1_ := Aside0.mk (Kd.N_elder' (nz HO441.out) (by first | exact Kd.N_base ho0 | exact Kd.R_base ho0) hb); have n2_ := Aside0.mk (Kd.N_elder' (nz HO451.out) (by first | exact Kd.N_base ho0 | exact Kd.R_base ho0) hb); have n3_ := Aside0.mk (Kd.N_lower (Kd.N_mono (ok' := fun k_ => some k_ ≠ (.slice Ao97 t434.length co97 : Value).ownBlock ∧ some k_ ≠ (v440 : Value).ownBlock ∧ some k_ ≠ (.slice Ao96 y449.length co96 : Value).ownBlock) ho0 (fun k_ hk_ => ⟨(Kd.fresh' (Kd.N_lt (nz HO437.out)) k_ hk_), (Kd.fresh' (Kd.N_lt (nz HO441.out)) k_ hk_), (Kd.fresh' (Kd.N_lt (nz HO451.out)) k_ hk_)⟩)) (below_size bz)); have n4_ := Aside0.mk (below_step bz hb); clear HO437; clear HO441; clear HO451; clear HB; have HO437 := n0_; have HO441 := n1_; have HO451 := n2_; have HO454 := n3_; have HB := n4_; clear n0_ n1_ n2_ n3_ n4_; (try clear hb); (try clear hb2); (try clear hk); (try clear hi); (try clear ho0); obtain ⟨Ao99, co99, eo99⟩ := Kd.N_slice HO441.out; subst eo99; obtain ⟨Ao100, co100, eo100⟩ := Kd.N_slice HO454.out; subst eo100) | (go_at_call 22; (with_reducible refine (boltingref04_Same.calls _ _ t438 _ _ t452 false _ ?side1 ?side2 ?side3 ?side4 A76.out).mono ?_); (case side1 => exact cz (Kd.N_reads' HO441.out).2.2); (case side2 => exact (Kd.N_reads' HO441.out).2.1); (case side3 => exact cz (Kd.N_reads' HO454.out).2.2); (case side4 => exact (Kd.N_reads' HO454.out).2.1); rintro e w101 ⟨rfl, hb⟩; have n0_ := Aside0.mk (Kd.N_below (nz HO437.out) hb); have n1_ := Aside0.mk (Kd.N_below (nz HO441.out) hb); have n2_ := Aside0.mk (Kd.N_below (nz HO451.out) hb); have n3_ := Aside0.mk (Kd.N_below (nz HO454.out) hb); have n4_ := Aside0.mk (below_step bz hb); clear HO437; clear HO441; clear HO451; clear HO454; clear HB; have HO437 := n0_; have HO441 := n1_; have HO451 := n2_; have HO454 := n3_; have HB := n4_; clear n0_ n1_ n2_ n3_ n4_; (try clear hb); (try clear hb2); (try clear hk); (try clear hi)))
                go_ret
                exact ⟨by first | rfl | (simp [errW_none, errW_some] <;> rfl) | (simp only [← hji64]; first | rfl | (simp [errW_none, errW_some] <;> rfl)) | (simp [*, errW_none, errW_some] <;> rfl), bz⟩
              ·rw [if_neg c74] at H
               have c74b0 : (t435 == 0) = false := beq_eq_false_iff_ne.mpr c74
               have c74b1 : (t435 != 0) = true := bne_iff_ne.mpr c74
               replace H := Option.bind_eq_some_iff.mp H
               obtain ⟨t457, A1020, H⟩ := H
               replace H : (some t457) = some r := H
               have A102 := Aside0.mk A1020
               clear A1020
               obtain rfl := Option.some.inj H
               go_wp2_with (first | ((with_reducible refine gate_callee (f := 26) rfl ?_); refine goesL_ (some 84) rfl rfl Tryz.func26 (by kernel_rfl) rfl #[.string (a1.extract 0 ((ji64) : Int).toNat)] rfl (by (try simp only [List.map_toArray, List.map_cons, List.map_nil]); first | done | (simp only [hji64]; rfl) | rfl | (simp only [List.length_drop, List.length_take]; rfl)) ?_; (with_reducible refine (build_Parse.calls (a1.extract 0 ((ji64) : Int).toNat) t434 t435 _ A67.out (Go.Proofs.YtkcmghlhpbepcaaGreatDoor.Std.below HS_.out bz)).mono ?_); rintro e w103 ⟨v436, rfl, ho0, hb⟩; refine ⟨_, rfl, ?_⟩; have n0_ := Aside0.mk (Kd.N_elder' (nz HO_6.out) (by first | exact Kd.N_base ho0 | exact Kd.R_base ho0) hb); have n1_ := Aside0.mk (Kd.N_lower (Kd.N_mono (ok' := fun k_ => some k_ ≠ (u6 : Value).ownBlock) (Kd.R_N (Kd.R_bound ho0)) (fun k_ hk_ => (Kd.fresh' (Kd.N_lt (nz HO_6.out)) k_ hk_.2.1))) (below_size bz)); have n2_ := Aside0.mk (below_step bz hb); clear HO_6; clear HB; have HO_6 := n0_; have HO437 := n1_; have HB := n2_; clear n0_ n1_ n2_; (try clear hb); (try clear hb2); (try clear hk); (try clear hi); (try clear ho0)) | ((with_reducible refine gate_callee (f := 26) rfl ?_); refine goesL_ (some 92) rfl rfl Tryz.func26 (by kernel_rfl) rfl #[.string ((x5_1 ++ (⟨#[60, 105, 62, 60, 47, 105, 62]⟩ : ByteArray)) ++ (a1.extract 0 ((ji64) : Int).toNat))] rfl (by (try simp only [List.map_toArray, List.map_cons, List.map_nil]); first | done | (simp only [hji64]; rfl) | rfl | (simp only [List.length_drop, List.length_take]; rfl)) ?_; (with_reducible refine (build_Parse.calls ((x5_1 ++ (⟨#[60, 105, 62, 60, 47, 105, 62]⟩ : ByteArray)) ++ (a1.extract 0 ((ji64) : Int).toNat)) t438 t439 _ A70.out (Go.Proofs.YtkcmghlhpbepcaaGreatDoor.Std.below HS_.out bz)).mono ?_); rintro e w104 ⟨v440, rfl, ho0, hb⟩; refine ⟨_, rfl, ?_⟩; have n0_ := Aside0.mk (Kd.N_elder' (nz HO_6.out) (by first | exact Kd.N_base ho0 | exact Kd.R_base ho0) hb); have n1_ := Aside0.mk (Kd.N_elder' (nz HO437.out) (by first | exact Kd.N_base ho0 | exact Kd.R_base ho0) hb); have n2_ := Aside0.mk (Kd.N_lower (Kd.N_mono (ok' := fun k_ => some k_ ≠ (u6 : Value).ownBlock ∧ some k_ ≠ (v436 : Value).ownBlock) (Kd.R_N (Kd.R_bound ho0)) (fun k_ hk_ => ⟨(Kd.fresh' (Kd.N_lt (nz HO_6.out)) k_ hk_.2.1), (Kd.fresh' (Kd.N_lt (nz HO437.out)) k_ hk_.2.1)⟩)) (below_size bz)); have n3_ := Aside0.mk (below_step bz hb); clear HO_6; clear HO437; clear HB; have HO_6 := n0_; have HO437 := n1_; have HO441 := n2_; have HB := n3_; clear n0_ n1_ n2_ n3_; (try clear hb); (try clear hb2); (try clear hk); (try clear hi); (try clear ho0)) | ((with_reducible refine gate_callee (f := 37) rfl ?_); refine goesL_ (some 96) rfl rfl Tryz.func37 (by kernel_rfl) rfl #[.int .i64 0, .string (⟨#[105]⟩ : ByteArray)] rfl (by (try simp only [List.map_toArray, List.map_cons, List.map_nil]); first | done | rfl | (simp only [List.length_drop, List.length_take]; rfl)) ?_; (with_reducible refine (boltinglaw07_el.calls 0 (⟨#[105]⟩ : ByteArray) t442 t443 t444 t445 t446 _ A71.out).mono ?_); rintro e w105 ⟨v447, rfl, ho0, hb⟩; refine ⟨_, rfl, ?_⟩; have n0_ := Aside0.mk (Kd.N_elder' (nz HO_6.out) (Kd.R_base ho0) hb); have n1_ := Aside0.mk (Kd.N_elder' (nz HO437.out) (Kd.R_base ho0) hb); have n2_ := Aside0.mk (Kd.N_elder' (nz HO441.out) (Kd.R_base ho0) hb); have n3_ := Aside0.mk (Kd.R_lower ho0 (below_size bz)); have n4_ := Aside0.mk (below_step bz hb); clear HO_6; clear HO437; clear HO441; clear HB; have HO_6 := n0_; have HO437 := n1_; have HO441 := n2_; have HO448 := n3_; have HB := n4_; clear n0_ n1_ n2_ n3_ n4_; (try clear hb); (try clear hb2); (try clear hk); (try clear hi); (try clear ho0); obtain ⟨Ao107, co107, eo107⟩ := Kd.R_slice HO448.out; subst eo107) | ((with_reducible refine gate_builtin (b := .append) (xs := #[.tmp 95, .tmp 97]) rfl ?_); (try (refine gate_guard (by rfl) ?_; dsimp only)); at_builtin; refine Kd.N_append k34 (w0 := w) w.heap.size rfl (.tmp 95) (.tmp 97) 22 34 (.agg #[(.int .i64 0), (.int .i64 0), (.string ⟨#[]⟩), (.string ⟨#[]⟩), (.slice none 0 0)]) 72 rfl Tryz.underlying22 info34 rfl (by decide) (by omega) u6 x6_1 (⟨t442, t443, t444, t445, t446⟩ : S34) [.int .i64 t442, .int .i64 t443, .string t444, .string t445, .slice Ao107 t446.length co107] (fun k_ => some k_ ≠ (v436 : Value).ownBlock ∧ some k_ ≠ (v440 : Value).ownBlock) (fun k_ => ((fun k_ => some k_ ≠ (v436 : Value).ownBlock ∧ some k_ ≠ (v440 : Value).ownBlock)) k_ ∧ some k_ ≠ (u6 : Value).ownBlock) rfl rfl ?aP (fun _ hk => hk) ?aF ?aO ?aB ?aS ?aL ?_; (case aP => exact (k34_mkF _ _ (⟨t442, t443, t444, t445, t446⟩ : S34) (Kd.R_reads' (Kd.R_mono (ok' := (fun k_ => ((fun k_ => some k_ ≠ (v436 : Value).ownBlock ∧ some k_ ≠ (v440 : Value).ownBlock)) k_ ∧ some k_ ≠ (u6 : Value).ownBlock)) (Kd.R_apart' (Kd.R_apart' (Kd.R_apart' (HO448.out) (Kd.N_typed HO437.out) (by decide)) (Kd.N_typed HO441.out) (by decide)) (Kd.N_typed HO_6.out) (by decide)) (fun k_ hk => ⟨⟨hk.1.1.2, hk.1.2⟩, hk.2⟩))).2.1 (Kd.R_F (Kd.R_mono (ok' := (fun k_ => ((fun k_ => some k_ ≠ (v436 : Value).ownBlock ∧ some k_ ≠ (v440 : Value).ownBlock)) k_ ∧ some k_ ≠ (u6 : Value).ownBlock)) (Kd.R_apart' (Kd.R_apart' (Kd.R_apart' (HO448.out) (Kd.N_typed HO437.out) (by decide)) (Kd.N_typed HO441.out) (by decide)) (Kd.N_typed HO_6.out) (by decide)) (fun k_ hk => ⟨⟨hk.1.1.2, hk.1.2⟩, hk.2⟩))))); (case aB => exact bz); (case aF => exact (fun k_ hk => ⟨Kd.fresh' (Kd.N_lt (nz HO437.out)) k_ hk, Kd.fresh' (Kd.N_lt (nz HO441.out)) k_ hk⟩)); (case aO => exact (by (with_reducible repeat (first | apply Kd.N_alloc | apply Kd.N_drewN | apply Kd.N_drew)); exact Kd.N_mono HO_6.out (fun _ hk => ⟨hk.1.1.2, hk.1.2⟩))); (case aS => exact (below_size bz)); (case aL => have := LMc72.out; omega); intro v450 w106 ho hb hg hat; rw [← Ny449.out] at ho; have n0_ := Aside0.mk (Kd.N_afterv (ok := (fun k_ => some k_ ≠ (v440 : Value).ownBlock ∧ some k_ ≠ (.slice Ao107 t446.length co107 : Value).ownBlock)) (by (with_reducible repeat (first | apply Kd.N_alloc | apply Kd.N_drewN | apply Kd.N_drew)); exact Kd.N_mono HO437.out (fun _ hk => ⟨⟨hk.1.2, hk.2⟩, hk.1.1⟩)) hg hat); have n1_ := Aside0.mk (Kd.N_afterv (ok := (fun k_ => some k_ ≠ (v436 : Value).ownBlock ∧ some k_ ≠ (.slice Ao107 t446.length co107 : Value).ownBlock)) (by (with_reducible repeat (first | apply Kd.N_alloc | apply Kd.N_drewN | apply Kd.N_drew)); exact Kd.N_mono HO441.out (fun _ hk => ⟨⟨hk.1.2, hk.2⟩, hk.1.1⟩)) hg hat); have n2_ := Aside0.mk (hb); have n3_ := Aside0.mk (ho); clear HO437; clear HO441; clear HB; clear HO_6; clear HO448; have HO437 := n0_; have HO441 := n1_; have HB := n2_; have HO451 := n3_; clear n0_ n1_ n2_ n3_; clear ho hb hg hat) | (go_at_call 23; (with_reducible refine (boltinglaw07_fixed.calls  t457 _ A102.out (Go.Proofs.YtkcmghlhpbepcaaGreatDoor.Std.below HS_.out bz)).mono ?_); rintro e w108 ⟨rfl, hb⟩; have n0_ := Aside0.mk (Kd.N_below (nz HO437.out) hb); have n1_ := Aside0.mk (Kd.N_below (nz HO441.out) hb); have n2_ := Aside0.mk (Kd.N_below (nz HO451.out) hb); have n3_ := Aside0.mk (below_step bz hb); clear HO437; clear HO441; clear HO451; clear HB; have HO437 := n0_; have HO441 := n1_; have HO451 := n2_; have HB := n3_; clear n0_ n1_ n2_ n3_; (try clear hb); (try clear hb2); (try clear hk); (try clear hi)))
               go_ret
               exact ⟨by first | rfl | (simp [errW_none, errW_some] <;> rfl) | (simp only [← hji64]; first | rfl | (simp [errW_none, errW_some] <;> rfl)) | (simp [*, errW_none, errW_some] <;> rfl), bz⟩
             ·rw [if_neg c73] at H
              have c73b0 : (t435 == t439) = false := beq_eq_false_iff_ne.mpr c73
              have c73b1 : (t435 != t439) = true := bne_iff_ne.mpr c73
              obtain rfl := Option.some.inj H
              go_wp2_with (first | ((with_reducible refine gate_callee (f := 26) rfl ?_); refine goesL_ (some 84) rfl rfl Tryz.func26 (by kernel_rfl) rfl #[.string (a1.extract 0 ((ji64) : Int).toNat)] rfl (by (try simp only [List.map_toArray, List.map_cons, List.map_nil]); first | done | (simp only [hji64]; rfl) | rfl | (simp only [List.length_drop, List.length_take]; rfl)) ?_; (with_reducible refine (build_Parse.calls (a1.extract 0 ((ji64) : Int).toNat) t434 t435 _ A67.out (Go.Proofs.YtkcmghlhpbepcaaGreatDoor.Std.below HS_.out bz)).mono ?_); rintro e w109 ⟨v436, rfl, ho0, hb⟩; refine ⟨_, rfl, ?_⟩; have n0_ := Aside0.mk (Kd.N_elder' (nz HO_6.out) (by first | exact Kd.N_base ho0 | exact Kd.R_base ho0) hb); have n1_ := Aside0.mk (Kd.N_lower (Kd.N_mono (ok' := fun k_ => some k_ ≠ (u6 : Value).ownBlock) (Kd.R_N (Kd.R_bound ho0)) (fun k_ hk_ => (Kd.fresh' (Kd.N_lt (nz HO_6.out)) k_ hk_.2.1))) (below_size bz)); have n2_ := Aside0.mk (below_step bz hb); clear HO_6; clear HB; have HO_6 := n0_; have HO437 := n1_; have HB := n2_; clear n0_ n1_ n2_; (try clear hb); (try clear hb2); (try clear hk); (try clear hi); (try clear ho0)) | ((with_reducible refine gate_callee (f := 26) rfl ?_); refine goesL_ (some 92) rfl rfl Tryz.func26 (by kernel_rfl) rfl #[.string ((x5_1 ++ (⟨#[60, 105, 62, 60, 47, 105, 62]⟩ : ByteArray)) ++ (a1.extract 0 ((ji64) : Int).toNat))] rfl (by (try simp only [List.map_toArray, List.map_cons, List.map_nil]); first | done | (simp only [hji64]; rfl) | rfl | (simp only [List.length_drop, List.length_take]; rfl)) ?_; (with_reducible refine (build_Parse.calls ((x5_1 ++ (⟨#[60, 105, 62, 60, 47, 105, 62]⟩ : ByteArray)) ++ (a1.extract 0 ((ji64) : Int).toNat)) t438 t439 _ A70.out (Go.Proofs.YtkcmghlhpbepcaaGreatDoor.Std.below HS_.out bz)).mono ?_); rintro e w110 ⟨v440, rfl, ho0, hb⟩; refine ⟨_, rfl, ?_⟩; have n0_ := Aside0.mk (Kd.N_elder' (nz HO_6.out) (by first | exact Kd.N_base ho0 | exact Kd.R_base ho0) hb); have n1_ := Aside0.mk (Kd.N_elder' (nz HO437.out) (by first | exact Kd.N_base ho0 | exact Kd.R_base ho0) hb); have n2_ := Aside0.mk (Kd.N_lower (Kd.N_mono (ok' := fun k_ => some k_ ≠ (u6 : Value).ownBlock ∧ some k_ ≠ (v436 : Value).ownBlock) (Kd.R_N (Kd.R_bound ho0)) (fun k_ hk_ => ⟨(Kd.fresh' (Kd.N_lt (nz HO_6.out)) k_ hk_.2.1), (Kd.fresh' (Kd.N_lt (nz HO437.out)) k_ hk_.2.1)⟩)) (below_size bz)); have n3_ := Aside0.mk (below_step bz hb); clear HO_6; clear HO437; clear HB; have HO_6 := n0_; have HO437 := n1_; have HO441 := n2_; have HB := n3_; clear n0_ n1_ n2_ n3_; (try clear hb); (try clear hb2); (try clear hk); (try clear hi); (try clear ho0)) | ((with_reducible refine gate_callee (f := 37) rfl ?_); refine goesL_ (some 96) rfl rfl Tryz.func37 (by kernel_rfl) rfl #[.int .i64 0, .string (⟨#[105]⟩ : ByteArray)] rfl (by (try simp only [List.map_toArray, List.map_cons, List.map_nil]); first | done | rfl | (simp only [List.length_drop, List.length_take]; rfl)) ?_; (with_reducible refine (boltinglaw07_el.calls 0 (⟨#[105]⟩ : ByteArray) t442 t443 t444 t445 t446 _ A71.out).mono ?_); rintro e w111 ⟨v447, rfl, ho0, hb⟩; refine ⟨_, rfl, ?_⟩; have n0_ := Aside0.mk (Kd.N_elder' (nz HO_6.out) (Kd.R_base ho0) hb); have n1_ := Aside0.mk (Kd.N_elder' (nz HO437.out) (Kd.R_base ho0) hb); have n2_ := Aside0.mk (Kd.N_elder' (nz HO441.out) (Kd.R_base ho0) hb); have n3_ := Aside0.mk (Kd.R_lower ho0 (below_size bz)); have n4_ := Aside0.mk (below_step bz hb); clear HO_6; clear HO437; clear HO441; clear HB; have HO_6 := n0_; have HO437 := n1_; have HO441 := n2_; have HO448 := n3_; have HB := n4_; clear n0_ n1_ n2_ n3_ n4_; (try clear hb); (try clear hb2); (try clear hk); (try clear hi); (try clear ho0); obtain ⟨Ao113, co113, eo113⟩ := Kd.R_slice HO448.out; subst eo113) | ((with_reducible refine gate_builtin (b := .append) (xs := #[.tmp 95, .tmp 97]) rfl ?_); (try (refine gate_guard (by rfl) ?_; dsimp only)); at_builtin; refine Kd.N_append k34 (w0 := w) w.heap.size rfl (.tmp 95) (.tmp 97) 22 34 (.agg #[(.int .i64 0), (.int .i64 0), (.string ⟨#[]⟩), (.string ⟨#[]⟩), (.slice none 0 0)]) 72 rfl Tryz.underlying22 info34 rfl (by decide) (by omega) u6 x6_1 (⟨t442, t443, t444, t445, t446⟩ : S34) [.int .i64 t442, .int .i64 t443, .string t444, .string t445, .slice Ao113 t446.length co113] (fun k_ => some k_ ≠ (v436 : Value).ownBlock ∧ some k_ ≠ (v440 : Value).ownBlock) (fun k_ => ((fun k_ => some k_ ≠ (v436 : Value).ownBlock ∧ some k_ ≠ (v440 : Value).ownBlock)) k_ ∧ some k_ ≠ (u6 : Value).ownBlock) rfl rfl ?aP (fun _ hk => hk) ?aF ?aO ?aB ?aS ?aL ?_; (case aP => exact (k34_mkF _ _ (⟨t442, t443, t444, t445, t446⟩ : S34) (Kd.R_reads' (Kd.R_mono (ok' := (fun k_ => ((fun k_ => some k_ ≠ (v436 : Value).ownBlock ∧ some k_ ≠ (v440 : Value).ownBlock)) k_ ∧ some k_ ≠ (u6 : Value).ownBlock)) (Kd.R_apart' (Kd.R_apart' (Kd.R_apart' (HO448.out) (Kd.N_typed HO437.out) (by decide)) (Kd.N_typed HO441.out) (by decide)) (Kd.N_typed HO_6.out) (by decide)) (fun k_ hk => ⟨⟨hk.1.1.2, hk.1.2⟩, hk.2⟩))).2.1 (Kd.R_F (Kd.R_mono (ok' := (fun k_ => ((fun k_ => some k_ ≠ (v436 : Value).ownBlock ∧ some k_ ≠ (v440 : Value).ownBlock)) k_ ∧ some k_ ≠ (u6 : Value).ownBlock)) (Kd.R_apart' (Kd.R_apart' (Kd.R_apart' (HO448.out) (Kd.N_typed HO437.out) (by decide)) (Kd.N_typed HO441.out) (by decide)) (Kd.N_typed HO_6.out) (by decide)) (fun k_ hk => ⟨⟨hk.1.1.2, hk.1.2⟩, hk.2⟩))))); (case aB => exact bz); (case aF => exact (fun k_ hk => ⟨Kd.fresh' (Kd.N_lt (nz HO437.out)) k_ hk, Kd.fresh' (Kd.N_lt (nz HO441.out)) k_ hk⟩)); (case aO => exact (by (with_reducible repeat (first | apply Kd.N_alloc | apply Kd.N_drewN | apply Kd.N_drew)); exact Kd.N_mono HO_6.out (fun _ hk => ⟨hk.1.1.2, hk.1.2⟩))); (case aS => exact (below_size bz)); (case aL => have := LMc72.out; omega); intro v450 w112 ho hb hg hat; rw [← Ny449.out] at ho; have n0_ := Aside0.mk (Kd.N_afterv (ok := (fun k_ => some k_ ≠ (v440 : Value).ownBlock ∧ some k_ ≠ (.slice Ao113 t446.length co113 : Value).ownBlock)) (by (with_reducible repeat (first | apply Kd.N_alloc | apply Kd.N_drewN | apply Kd.N_drew)); exact Kd.N_mono HO437.out (fun _ hk => ⟨⟨hk.1.2, hk.2⟩, hk.1.1⟩)) hg hat); have n1_ := Aside0.mk (Kd.N_afterv (ok := (fun k_ => some k_ ≠ (v436 : Value).ownBlock ∧ some k_ ≠ (.slice Ao113 t446.length co113 : Value).ownBlock)) (by (with_reducible repeat (first | apply Kd.N_alloc | apply Kd.N_drewN | apply Kd.N_drew)); exact Kd.N_mono HO441.out (fun _ hk => ⟨⟨hk.1.2, hk.2⟩, hk.1.1⟩)) hg hat); have n2_ := Aside0.mk (hb); have n3_ := Aside0.mk (ho); clear HO437; clear HO441; clear HB; clear HO_6; clear HO448; have HO437 := n0_; have HO441 := n1_; have HB := n2_; have HO451 := n3_; clear n0_ n1_ n2_ n3_; clear ho hb hg hat))
              go_ret
              exact ⟨by first | rfl | (simp [errW_none, errW_some] <;> rfl) | (simp only [← hji64]; first | rfl | (simp [errW_none, errW_some] <;> rfl)) | (simp [*, errW_none, errW_some] <;> rfl), bz⟩
            ·rw [if_neg c72] at H
             exact absurd H (by simp)
           ·rw [if_neg c69] at H
            exact absurd H (by simp)
          ·rw [if_neg c68] at H
           exact absurd H (by simp)
         ·rw [if_neg c66] at H
          exact absurd H (by simp)
        ·rw [if_neg c65] at H
         exact absurd H (by simp)
end Go.Proofs.YtkcmghlhpbepcaaGreatDoorH.W7
