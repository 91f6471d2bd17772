/- Lemmas and walks, part 11: QPW8x11, QPW8x10, QPW8x9, QPW8x8, QPW8x43. -/
import Derived.Test.YtdnbaliibiginaaDoorY4
import Derived.Test.YtdnbaliibiginaaDoorY8
set_option linter.unusedVariables false
set_option linter.unusedSimpArgs false

/- Words and walks used below. -/
namespace Go.Proofs.YtdnbaliibiginaaDoorH.W8
open Go.RowKit Go.Proofs.YtdnbaliibiginaaDoorW.PrintWords Go.Proofs.YtdnbaliibiginaaDoorW.PrintLast Go.Proofs.YtdnbaliibiginaaDoorW.PrintMore
attribute [local go_sem] max2_int min2_int max_two min_two max_three min_three max_four min_four   -- for this text's walks alone
def boltingref08_tag.l0 : Nat → ByteArray → Int → Int → Int → ByteArray → ByteArray → List (S45) → Option (ByteArray)
 | 0, _, _, _, _, _, _, _ => none
 | k + 1, x3, x4, x129000, x129001, x129002, x129003, x129004 => if x4 < (x129004.length : Int) then (if 0 ≤ x4 then (if 1 + ((rd_T45 x129004 x4).f0).size ≤ 9223372036854775807 then (if ((⟨#[32]⟩ : ByteArray) ++ ((rd_T45 x129004 x4).f0)).size + 2 ≤ 9223372036854775807 then ((boltingref03_Write.f ((rd_T45 x129004 x4).f1) true).bind fun t131 => (if (((⟨#[32]⟩ : ByteArray) ++ ((rd_T45 x129004 x4).f0)) ++ (⟨#[61, 34]⟩ : ByteArray)).size + t131.size ≤ 9223372036854775807 then (if ((((⟨#[32]⟩ : ByteArray) ++ ((rd_T45 x129004 x4).f0)) ++ (⟨#[61, 34]⟩ : ByteArray)) ++ t131).size + 1 ≤ 9223372036854775807 then (if x3.size + (((((⟨#[32]⟩ : ByteArray) ++ ((rd_T45 x129004 x4).f0)) ++ (⟨#[61, 34]⟩ : ByteArray)) ++ t131) ++ (⟨#[34]⟩ : ByteArray)).size ≤ 9223372036854775807 then (boltingref08_tag.l0 k (x3 ++ (((((⟨#[32]⟩ : ByteArray) ++ ((rd_T45 x129004 x4).f0)) ++ (⟨#[61, 34]⟩ : ByteArray)) ++ t131) ++ (⟨#[34]⟩ : ByteArray))) (wrap64 (x4 + 1)) x129000 x129001 x129002 x129003 x129004) else (none)) else (none)) else (none))) else (none)) else (none)) else (none)) else (if x3.size + 1 ≤ 9223372036854775807 then (some (x3 ++ (⟨#[62]⟩ : ByteArray))) else (none))
def boltingref08_tag.f (k : Nat) (a0_0 : Int) (a0_1 : Int) (a0_2 : ByteArray) (a0_3 : ByteArray) (l0_4 : List (S45)) : Option (ByteArray) := if 1 + a0_2.size ≤ 9223372036854775807 then (boltingref08_tag.l0 k ((⟨#[60]⟩ : ByteArray) ++ a0_2) 0 a0_0 a0_1 a0_2 a0_3 l0_4) else (none)
def boltingref08_tag.T5 : Bool × List (List Nat × List Nat) := (true, [([], []), ([], []), ([1], [1]), ([], []), ([2, 3], [2, 3]), ([4], [4]), ([5], [5]), ([6], [6]), ([7], [7]), ([], []), ([9], [9]), ([], []), ([10, 11], [10, 11]), ([12], [12]), ([13], [13]), ([14], [14]), ([8, 15], [8, 15]), ([16], [16]), ([0, 17], [0, 17]), ([18, 15, 0, 1, 2, 3, 4, 5, 6, 7, 8, 9, 10, 11, 12, 13, 14, 15, 16, 17, 18], [0, 18])])
def boltingref08_tag.B5 : List Nat := [0, 0, 2, 0, 14, 30, 62, 126, 254, 0, 512, 0, 3584, 7680, 15872, 32256, 65534, 131070, 262143, 524287]
end Go.Proofs.YtdnbaliibiginaaDoorH.W8

/- Words and walks used below. -/
namespace Go.Proofs.YtdnbaliibiginaaDoorH.W8
open Go.RowKit Go.Proofs.YtdnbaliibiginaaDoorW.PrintWords Go.Proofs.YtdnbaliibiginaaDoorW.PrintLast Go.Proofs.YtdnbaliibiginaaDoorW.PrintMore
attribute [local go_sem] max2_int min2_int max_two min_two max_three min_three max_four min_four   -- for this text's walks alone
def boltingref05_Void.f  : Option (List ByteArray) := some (([(⟨#[97, 114, 101, 97]⟩ : ByteArray), (⟨#[98, 97, 115, 101]⟩ : ByteArray), (⟨#[98, 114]⟩ : ByteArray), (⟨#[99, 111, 108]⟩ : ByteArray), (⟨#[101, 109, 98, 101, 100]⟩ : ByteArray), (⟨#[104, 114]⟩ : ByteArray), (⟨#[105, 109, 103]⟩ : ByteArray), (⟨#[105, 110, 112, 117, 116]⟩ : ByteArray), (⟨#[108, 105, 110, 107]⟩ : ByteArray), (⟨#[109, 101, 116, 97]⟩ : ByteArray), (⟨#[112, 97, 114, 97, 109]⟩ : ByteArray), (⟨#[115, 111, 117, 114, 99, 101]⟩ : ByteArray), (⟨#[116, 114, 97, 99, 107]⟩ : ByteArray), (⟨#[119, 98, 114]⟩ : ByteArray)] : List ByteArray))
end Go.Proofs.YtdnbaliibiginaaDoorH.W8

/- Words and walks used below. -/
namespace Go.Proofs.YtdnbaliibiginaaDoorH.W8
open Go.RowKit Go.Proofs.YtdnbaliibiginaaDoorW.PrintWords Go.Proofs.YtdnbaliibiginaaDoorW.PrintLast Go.Proofs.YtdnbaliibiginaaDoorW.PrintMore
attribute [local go_sem] max2_int min2_int max_two min_two max_three min_three max_four min_four   -- for this text's walks alone
def boltingref05_Raw.f  : Option (List ByteArray) := some (([(⟨#[105, 102, 114, 97, 109, 101]⟩ : ByteArray), (⟨#[110, 111, 101, 109, 98, 101, 100]⟩ : ByteArray), (⟨#[110, 111, 102, 114, 97, 109, 101, 115]⟩ : ByteArray), (⟨#[115, 99, 114, 105, 112, 116]⟩ : ByteArray), (⟨#[115, 116, 121, 108, 101]⟩ : ByteArray), (⟨#[120, 109, 112]⟩ : ByteArray)] : List ByteArray))
end Go.Proofs.YtdnbaliibiginaaDoorH.W8

/- Words and walks used below. -/
namespace Go.Proofs.YtdnbaliibiginaaDoorH.W8
open Go.RowKit Go.Proofs.YtdnbaliibiginaaDoorW.PrintWords Go.Proofs.YtdnbaliibiginaaDoorW.PrintLast Go.Proofs.YtdnbaliibiginaaDoorW.PrintMore
attribute [local go_sem] max2_int min2_int max_two min_two max_three min_three max_four min_four   -- for this text's walks alone
def boltingref02_Has.l0 : Nat → List ByteArray → ByteArray → Int → Option (Bool)
 | 0, _, _, _ => none
 | k + 1, x0, x1, x5 => if x5 < (x0.length : Int) then (if 0 ≤ x5 then (if (rdOf ByteArray.empty x0 x5).toList = x1.toList then (some true) else (boltingref02_Has.l0 k x0 x1 (wrap64 (x5 + 1)))) else (none)) else (some false)
def boltingref02_Has.f (k : Nat) (l0 : List ByteArray) (a1 : ByteArray) : Option (Bool) := boltingref02_Has.l0 k l0 a1 0
end Go.Proofs.YtdnbaliibiginaaDoorH.W8

/- Words and walks used below. -/
namespace Go.Proofs.YtdnbaliibiginaaDoorH.W8
open Go.RowKit Go.Proofs.YtdnbaliibiginaaDoorW.PrintWords Go.Proofs.YtdnbaliibiginaaDoorW.PrintLast Go.Proofs.YtdnbaliibiginaaDoorW.PrintMore
attribute [local go_sem] max2_int min2_int max_two min_two max_three min_three max_four min_four   -- for this text's walks alone
mutual
def boltingref04_End.j0 : Nat → List (S35) → Int → Bool → Option (Int)
 | 0, _, _, _ => none
 | k + 1, x0, x1, x13 => if x13 = true then (some 0) else (boltingref04_End.l0 k x0 x1 (wrap64 (x1 + 1)))
def boltingref04_End.l0 : Nat → List (S35) → Int → Int → Option (Int)
 | 0, _, _, _ => none
 | k + 1, x0, x1, x5 => if x5 < (x0.length : Int) then (if 0 ≤ x5 then (if 0 ≤ x1 then (if x1 < (x0.length : Int) then (if ((rd_T35 x0 x5).f0) ≤ ((rd_T35 x0 x1).f0) then (some x5) else (boltingref04_End.l0 k x0 x1 (wrap64 (x5 + 1)))) else (none)) else (none)) else (none)) else (some (x0.length : Int))
end
def boltingref04_End.f (k : Nat) (l0 : List (S35)) (a1 : Int) : Option (Int) := if a1 < 0 then (boltingref04_End.j0 k l0 a1 true) else (boltingref04_End.j0 k l0 a1 (decide (a1 ≥ (l0.length : Int))))
set_option maxHeartbeats 8000000 in
set_option maxRecDepth 100000 in
theorem boltingref04_End.calls (k : Nat) (A0 : Option Addr) (c0 : Nat) (l0 : List (S35)) (a1 : Int) (r : Int) (w : World) (hr0 : Kd.C k35 w A0 l0.length l0) (hc0 : l0.length ≤ c0) (h : boltingref04_End.f k l0 a1 = some r) :
  Calls Tryd.prog 16 #[.slice A0 l0.length c0, .int .i64 a1] w fun e w' => e = .returned (.int .i64 r) ∧ Drawn0 w w' := by
 have HR0 := Aside0.mk hr0
 have HC0 := Aside0.mk hc0
 clear hr0 hc0
 have H : (if a1 < 0 then (boltingref04_End.j0 k l0 a1 true) else (boltingref04_End.j0 k l0 a1 (decide (a1 ≥ (l0.length : Int))))) = some r := h
 clear h
 have HC3 := Aside0.mk H
 clear H
 go_enter Tryd.func16, Tryd.ntmps16
 go_upto_region 1 with (fail)
 repeat (go_quiet (fail); go_upto_region 1 with (fail))
 go_cut [13] (fun v13 wc => ∃ (kq : Nat) (x13_2 : Bool), v13 = .bool x13_2 ∧ Aside0 (boltingref04_End.j0 kq l0 a1 x13_2 = some r) ∧ Aside0 (kq ≤ k) ∧ Drawn0 w wc)
 case first =>
  have H := HC3.out
  clear HC3
  by_cases c4 : a1 < 0
  ·rw [if_pos c4] at H
   have c4b0 : decide (a1 < 0) = true := decide_eq_true c4
   clear c4
   (first | rw [c4b0] | (simp only [i64_w, i32_w]; rw [c4b0]) | skip)
   have H' := Aside0.mk H
   clear H
   go_wp2
   repeat (go_quiet (fail); try go_wp2)
   go_meet
   case rel => exact ⟨_, (true), (by first | rfl | (simp; done) | (simp [*]; done) | (simp; generalize ByteArray.toList _ = l_; cases l_ <;> rfl)), H', ⟨by first | omega | exact Nat.le_refl _⟩, by repeat (first | exact Drawn0.refl _ | apply Drawn0.step)⟩
  ·rw [if_neg c4] at H
   have c4b0 : decide (a1 < 0) = false := decide_eq_false c4
   clear c4
   (first | rw [c4b0] | (simp only [i64_w, i32_w]; rw [c4b0]) | skip)
   have H' := Aside0.mk H
   clear H
   go_wp2
   repeat (go_quiet (fail); try go_wp2)
   go_meet
   case rel => exact ⟨_, (decide (a1 ≥ (l0.length : Int))), (by first | rfl | (simp; done) | (simp [*]; done) | (simp; generalize ByteArray.toList _ = l_; cases l_ <;> rfl)), H', ⟨by first | omega | exact Nat.le_refl _⟩, by repeat (first | exact Drawn0.refl _ | apply Drawn0.step)⟩
 case rest =>
  clear HC3
  try clear c1
  try clear p2
  try clear c4
  try clear c4b0
  obtain ⟨kq, x13_2, rfl, HA, HJ2, ⟨mc2, rfl⟩⟩ := hcut
  cases kq with
  | zero => exact absurd HA.out (by simp [boltingref04_End.j0])
  | succ kj2 =>
   have H := HA.out
   clear HA
   simp only [boltingref04_End.j0] at H
   by_cases c5 : x13_2 = true
   ·subst c5
    have H1 : (some 0) = some r := by rw [if_pos rfl] at H; exact H
    clear H
    have H := H1
    clear H1
    obtain rfl := Option.some.inj H
    go_wp2
    repeat (go_quiet (fail); try go_wp2)
    go_ret
    exact ⟨by first | rfl | (simp; done) | (simp [*]; done) | (simp; generalize ByteArray.toList _ = l_; cases l_ <;> rfl), by repeat (first | exact Drawn0.refl _ | apply Drawn0.step)⟩
   ·replace c5 := Bool.eq_false_iff.mpr c5
    subst c5
    have H1 : (boltingref04_End.l0 kj2 l0 a1 (wrap64 (a1 + 1))) = some r := by rw [if_neg (show ¬ (false = true) by decide)] at H; first | exact H | (simp only [eq_self] at H ⊢; exact H) | (simp only [eq_self, if_true] at H ⊢; exact H)
    clear H
    have H := H1
    clear H1
    have H' := Aside0.mk H
    clear H
    go_wp2
    repeat (go_quiet (fail); try go_wp2)
    go_loopg [5] kj2 (fun kq v5 w' => ∃ (x5_2 : Int), v5 = .int .i64 x5_2 ∧ Aside0 (boltingref04_End.l0 kq l0 a1 x5_2 = some r) ∧ Aside0 (kq ≤ kj2) ∧ Drawn0 w w')
    case atStart => exact ⟨(wrap64 (a1 + 1)), (by first | rfl | (simp; done) | (simp [*]; done) | (simp; generalize ByteArray.toList _ = l_; cases l_ <;> rfl)), H', ⟨Nat.le_refl _⟩, by repeat (first | exact Drawn0.refl _ | apply Drawn0.step)⟩
    case round =>
     clear H'
     try clear c1
     try clear c2
     try clear p2
     try clear c4
     try clear c4b0
     try clear c5
     try clear p2
     obtain ⟨x5_2, rfl, HA, HK2, ⟨m2, rfl⟩⟩ := hrel
     cases gk with
     | zero => exact absurd HA.out (by simp [boltingref04_End.l0])
     | succ k2 =>
      have H := HA.out
      clear HA
      simp only [boltingref04_End.l0] at H
      by_cases c6 : x5_2 < (l0.length : Int)
      ·rw [if_pos c6] at H
       have c6b0 : decide (x5_2 < (l0.length : Int)) = true := decide_eq_true c6
       clear c6
       by_cases c7 : 0 ≤ x5_2
       ·rw [if_pos c7] at H
        have c7b0 : decide (0 ≤ x5_2) = true := decide_eq_true c7
        clear c7
        by_cases c8 : 0 ≤ a1
        ·rw [if_pos c8] at H
         have c8b0 : decide (0 ≤ a1) = true := decide_eq_true c8
         clear c8
         by_cases c9 : a1 < (l0.length : Int)
         ·rw [if_pos c9] at H
          have c9b0 : decide (a1 < (l0.length : Int)) = true := decide_eq_true c9
          clear c9
          by_cases c10 : ((rd_T35 l0 x5_2).f0) ≤ ((rd_T35 l0 a1).f0)
          ·rw [if_pos c10] at H
           have c10b0 : decide (((rd_T35 l0 x5_2).f0) ≤ ((rd_T35 l0 a1).f0)) = true := decide_eq_true c10
           clear c10
           obtain rfl := Option.some.inj H
           have p339 : 0 ≤ (x5_2 : Int) := (by first | exact of_decide_eq_true (by first | (with_reducible assumption) | assumption) | assumption | omega)
           have q339 : x5_2 < (l0.length : Int) := (by first | exact of_decide_eq_true (by first | (with_reducible assumption) | assumption) | assumption | omega)
           obtain ⟨ad339, A339_4, c339_4, e339, hx339_0, hx339_1, hx339_2, hx339_3, hx339_4, hl339_4, hi339_4⟩ := at_T35 HR0.out x5_2 p339 q339
           cases e339
           have HR339_4 := Aside0.mk hi339_4
           have HC339_4 := Aside0.mk hl339_4
           clear hi339_4 hl339_4
           replace p339 := eq_true p339
           replace q339 := eq_true q339
           have p340 : 0 ≤ (a1 : Int) := (by first | exact of_decide_eq_true (by first | (with_reducible assumption) | assumption) | assumption | omega)
           have q340 : a1 < (l0.length : Int) := (by first | exact of_decide_eq_true (by first | (with_reducible assumption) | assumption) | assumption | omega)
           obtain ⟨ad340, A340_4, c340_4, e340, hx340_0, hx340_1, hx340_2, hx340_3, hx340_4, hl340_4, hi340_4⟩ := at_T35 HR0.out a1 p340 q340
           obtain rfl : ad339 = ad340 := (by injection e340)
           have HR340_4 := Aside0.mk hi340_4
           have HC340_4 := Aside0.mk hl340_4
           clear hi340_4 hl340_4
           replace p340 := eq_true p340
           replace q340 := eq_true q340
           go_wp2
           repeat (go_quiet (fail); try go_wp2)
           go_ret
           exact ⟨by first | rfl | (simp; done) | (simp [*]; done) | (simp; generalize ByteArray.toList _ = l_; cases l_ <;> rfl), by repeat (first | exact Drawn0.refl _ | apply Drawn0.step)⟩
          ·rw [if_neg c10] at H
           have c10b0 : decide (((rd_T35 l0 x5_2).f0) ≤ ((rd_T35 l0 a1).f0)) = false := decide_eq_false c10
           clear c10
           have H' := Aside0.mk H
           clear H
           have p339 : 0 ≤ (x5_2 : Int) := (by first | exact of_decide_eq_true (by first | (with_reducible assumption) | assumption) | assumption | omega)
           have q339 : x5_2 < (l0.length : Int) := (by first | exact of_decide_eq_true (by first | (with_reducible assumption) | assumption) | assumption | omega)
           obtain ⟨ad339, A339_4, c339_4, e339, hx339_0, hx339_1, hx339_2, hx339_3, hx339_4, hl339_4, hi339_4⟩ := at_T35 HR0.out x5_2 p339 q339
           cases e339
           have HR339_4 := Aside0.mk hi339_4
           have HC339_4 := Aside0.mk hl339_4
           clear hi339_4 hl339_4
           replace p339 := eq_true p339
           replace q339 := eq_true q339
           have p340 : 0 ≤ (a1 : Int) := (by first | exact of_decide_eq_true (by first | (with_reducible assumption) | assumption) | assumption | omega)
           have q340 : a1 < (l0.length : Int) := (by first | exact of_decide_eq_true (by first | (with_reducible assumption) | assumption) | assumption | omega)
           obtain ⟨ad340, A340_4, c340_4, e340, hx340_0, hx340_1, hx340_2, hx340_3, hx340_4, hl340_4, hi340_4⟩ := at_T35 HR0.out a1 p340 q340
           obtain rfl : ad339 = ad340 := (by injection e340)
           have HR340_4 := Aside0.mk hi340_4
           have HC340_4 := Aside0.mk hl340_4
           clear hi340_4 hl340_4
           replace p340 := eq_true p340
           replace q340 := eq_true q340
           go_wp2
           repeat (go_quiet (fail); try go_wp2)
           go_roundg k2
           case measure => have := HJ2.out; have := HK2.out; omega
           case rel => exact ⟨(wrap64 (x5_2 + 1)), (by first | rfl | (simp; done) | (simp [*]; done) | (simp; generalize ByteArray.toList _ = l_; cases l_ <;> rfl)), H', ⟨by have := HJ2.out; have := HK2.out; omega⟩, by repeat (first | exact Drawn0.refl _ | apply Drawn0.step)⟩
         ·rw [if_neg c9] at H
          exact absurd H (by simp)
        ·rw [if_neg c8] at H
         exact absurd H (by simp)
       ·rw [if_neg c7] at H
        exact absurd H (by simp)
      ·rw [if_neg c6] at H
       have c6b0 : decide (x5_2 < (l0.length : Int)) = false := decide_eq_false c6
       clear c6
       obtain rfl := Option.some.inj H
       go_wp2
       repeat (go_quiet (fail); try go_wp2)
       go_ret
       exact ⟨by first | rfl | (simp; done) | (simp [*]; done) | (simp; generalize ByteArray.toList _ = l_; cases l_ <;> rfl), by repeat (first | exact Drawn0.refl _ | apply Drawn0.step)⟩
end Go.Proofs.YtdnbaliibiginaaDoorH.W8
