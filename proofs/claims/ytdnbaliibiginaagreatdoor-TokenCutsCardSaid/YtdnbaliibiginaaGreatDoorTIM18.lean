/- Lemmas and walks, part 18: PTIx3. -/
import Derived.Test.YtdnbaliibiginaaGreatDoorTIM1
import Derived.Test.YtdnbaliibiginaaGreatDoorTIM13
import Derived.Test.YtdnbaliibiginaaGreatDoorTIM16
set_option linter.unusedVariables false
set_option linter.unusedSimpArgs false

-- Walks of Go functions by a program (wip/hook/hook.py over the kit's printer): each as a Lean function, and that the call comes to what it tells. Not trusted: Lean checks it.
namespace Go.Proofs.YtdnbaliibiginaaGreatDoorH.TI
open Go.RowKit Go.Proofs.YtdnbaliibiginaaGreatDoorW.PrintWords Go.Proofs.YtdnbaliibiginaaGreatDoorW.PrintLast Go.Proofs.YtdnbaliibiginaaGreatDoorW.PrintMore
attribute [local go_sem] max2_int min2_int max_two min_two max_three min_three max_four min_four   -- for this text's walks alone

/-! ### boltingref06_known: function 87 -/
def boltingref06_known.l0 : Nat → List (S40) → ByteArray → Int → Option (Bool)
  | 0, _, _, _ => none
  | k + 1, x0, x1, x5 => if x5 < (x0.length : Int) then (if 0 ≤ x5 then (if ((rd_T40 x0 x5).f0).toList = x1.toList then (some true) else (boltingref06_known.l0 k x0 x1 (wrap64 (x5 + 1)))) else (none)) else (some false)
def boltingref06_known.f (k : Nat) (l0 : List (S40)) (a1 : ByteArray) : Option (Bool) := boltingref06_known.l0 k l0 a1 0
theorem boltingref06_known.mono_l : ∀ k, (∀ y0 y1 y2, LeO (boltingref06_known.l0 k y0 y1 y2) (boltingref06_known.l0 (k + 1) y0 y1 y2))
  | 0 => fun _ _ _ r h => by simp [boltingref06_known.l0] at h
  | k + 1 => by
    have ih0 := boltingref06_known.mono_l k
    · intro y0 y1 y2
      unfold boltingref06_known.l0
      repeat' first
      | (with_reducible exact ih0 _ _ _)
      | (with_reducible exact LeO.refl _)
      | (with_reducible exact LeO.none _)
      | (with_reducible refine LeO.ite ?_ ?_)
      | (with_reducible refine LeO.bind ?_ (fun _ => ?_))
      | exact ih0 _ _ _
      | exact LeO.none _
      | refine LeO.ite ?_ ?_
      | refine LeO.bind ?_ (fun _ => ?_)
theorem boltingref06_known.mono : ∀ a0 a1 k, LeO (boltingref06_known.f k a0 a1) (boltingref06_known.f (k + 1) a0 a1) := by
  intro a0 a1 k
  have ih0 := boltingref06_known.mono_l k
  unfold boltingref06_known.f
  repeat' first
      | (with_reducible exact ih0 _ _ _)
      | (with_reducible exact LeO.refl _)
      | (with_reducible exact LeO.none _)
      | (with_reducible refine LeO.ite ?_ ?_)
      | (with_reducible refine LeO.bind ?_ (fun _ => ?_))
      | exact ih0 _ _ _
      | exact LeO.none _
      | refine LeO.ite ?_ ?_
      | refine LeO.bind ?_ (fun _ => ?_)
set_option maxHeartbeats 8000000 in
set_option maxRecDepth 100000 in
theorem boltingref06_known.calls (k : Nat) (A0 : Option Addr) (c0 : Nat) (l0 : List (S40)) (a1 : ByteArray) (r : Bool) (w : World) (hr0 : Kd.C k40 w A0 l0.length l0) (hc0 : l0.length ≤ c0) (h : boltingref06_known.f k l0 a1 = some r) :
    Calls Tryz.prog 87 #[.slice A0 l0.length c0, .string a1] w fun e w' => e = .returned (.bool r) ∧ Drawn0 w w' := by
  have HR0 := Aside0.mk hr0
  have HC0 := Aside0.mk hc0
  clear hr0 hc0
  have H : (boltingref06_known.l0 k l0 a1 0) = some r := h
  clear h
  have H' := Aside0.mk H
  clear H
  go_enter Tryz.func87, Tryz.ntmps87
  go_wp2
  go_loopg [5] k (fun kq v5 w' => ∃ (x5_1 : Int), v5 = .int .i64 x5_1 ∧ Aside0 (boltingref06_known.l0 kq l0 a1 x5_1 = some r) ∧ Aside0 (kq ≤ k) ∧ Drawn0 w w')
  case atStart => exact ⟨(0), (by first | rfl | (simp; done) | (simp [*]; done)), H', ⟨Nat.le_refl _⟩, by repeat (first | exact Drawn0.refl _ | apply Drawn0.step)⟩
  case round =>
    clear H'
    try clear p2
    obtain ⟨x5_1, rfl, HA, HK1, ⟨m1, rfl⟩⟩ := hrel
    cases gk with
    | zero => exact absurd HA.out (by simp [boltingref06_known.l0])
    | succ k1 =>
      have H := HA.out
      clear HA
      simp only [boltingref06_known.l0] at H
      by_cases c3 : x5_1 < (l0.length : Int)
      · rw [if_pos c3] at H
        have c3b0 : decide (x5_1 < (l0.length : Int)) = true := decide_eq_true c3
        clear c3
        by_cases c4 : 0 ≤ x5_1
        · rw [if_pos c4] at H
          have c4b0 : decide (0 ≤ x5_1) = true := decide_eq_true c4
          clear c4
          by_cases c5 : ((rd_T40 l0 x5_1).f0).toList = a1.toList
          · rw [if_pos c5] at H
            have c5b0 : (((rd_T40 l0 x5_1).f0).toList == a1.toList) = true := beq_iff_eq.mpr c5
            have c5b1 : (((rd_T40 l0 x5_1).f0).toList != a1.toList) = false := bne_eq_false_iff_eq.mpr c5
            clear c5
            obtain rfl := Option.some.inj H
            have p117 : 0 ≤ (x5_1 : Int) := (by first | exact of_decide_eq_true (by first | (with_reducible assumption) | assumption) | assumption | omega)
            have q117 : x5_1 < (l0.length : Int) := (by first | exact of_decide_eq_true (by first | (with_reducible assumption) | assumption) | assumption | omega)
            obtain ⟨ad117, e117, hx117_0, hx117_1⟩ := at_T40 HR0.out x5_1 p117 q117
            cases e117
            replace p117 := eq_true p117
            replace q117 := eq_true q117
            go_wp2
            go_ret
            exact ⟨by first | rfl | (simp; done) | (simp [*]; done), by repeat (first | exact Drawn0.refl _ | apply Drawn0.step)⟩
          · rw [if_neg c5] at H
            have c5b0 : (((rd_T40 l0 x5_1).f0).toList == a1.toList) = false := beq_eq_false_iff_ne.mpr c5
            have c5b1 : (((rd_T40 l0 x5_1).f0).toList != a1.toList) = true := bne_iff_ne.mpr c5
            have H' := Aside0.mk H
            clear H
            have p117 : 0 ≤ (x5_1 : Int) := (by first | exact of_decide_eq_true (by first | (with_reducible assumption) | assumption) | assumption | omega)
            have q117 : x5_1 < (l0.length : Int) := (by first | exact of_decide_eq_true (by first | (with_reducible assumption) | assumption) | assumption | omega)
            obtain ⟨ad117, e117, hx117_0, hx117_1⟩ := at_T40 HR0.out x5_1 p117 q117
            cases e117
            replace p117 := eq_true p117
            replace q117 := eq_true q117
            go_wp2
            go_roundg k1
            case measure => have := HK1.out; omega
            case rel => exact ⟨(wrap64 (x5_1 + 1)), (by first | rfl | (simp; done) | (simp [*]; done)), H', ⟨by have := HK1.out; omega⟩, by repeat (first | exact Drawn0.refl _ | apply Drawn0.step)⟩
        · rw [if_neg c4] at H
          exact absurd H (by simp)
      · rw [if_neg c3] at H
        have c3b0 : decide (x5_1 < (l0.length : Int)) = false := decide_eq_false c3
        clear c3
        obtain rfl := Option.some.inj H
        go_wp2
        go_ret
        exact ⟨by first | rfl | (simp; done) | (simp [*]; done), by repeat (first | exact Drawn0.refl _ | apply Drawn0.step)⟩

/-! ### boltingref06_tag: function 43 -/
mutual
def boltingref06_tag.j1 : Nat → ByteArray → Int → Int → Option (Int × ByteArray × ByteArray × (List (S40)) × Bool × Int)
  | 0, _, _, _ => none
  | k + 1, x0, x1, x6 => if 0 ≤ x1 then (if x1 ≤ x6 then (if x6 ≤ (x0.size : Int) then ((boltingref02_Lower.f (x0.extract (x1 : Int).toNat (x6 : Int).toNat)).bind fun t120 => (boltingref06_tag.l1 k x0 x6 0 t120 (⟨#[]⟩ : ByteArray) ([] : List (S40)) false)) else (none)) else (none)) else (none)
def boltingref06_tag.l1 : Nat → ByteArray → Int → Int → ByteArray → ByteArray → List (S40) → Bool → Option (Int × ByteArray × ByteArray × (List (S40)) × Bool × Int)
  | 0, _, _, _, _, _, _, _ => none
  | k + 1, x0, x6, x122000, x122001, x122002, x122003, x122004 => boltingref06_tag.l2 k x0 x6 x6 x122000 x122001 x122002 x122003 x122004
def boltingref06_tag.j4 : Nat → ByteArray → Int → Int → Int → ByteArray → ByteArray → List (S40) → Bool → Option (Int × ByteArray × ByteArray × (List (S40)) × Bool × Int)
  | 0, _, _, _, _, _, _, _, _ => none
  | k + 1, x0, x6, x8, x122000, x122001, x122002, x122003, x122004 => if x6 ≥ (x0.size : Int) then (some (x122000, x122001, x122002, x122003, x122004, wrap64 ((x0.size : Int) + 1))) else (if 0 ≤ x6 then (if x6 < (x0.size : Int) then (if (bt x0 x6) = 62 then (if x6 > x8 then (if 0 ≤ (wrap64 (x6 - 1)) then (if (wrap64 (x6 - 1)) < (x0.size : Int) then (some (x122000, x122001, x122002, x122003, ((bt x0 (wrap64 (x6 - 1))) == 47), wrap64 (x6 + 1))) else (none)) else (none)) else (some (x122000, x122001, x122002, x122003, false, wrap64 (x6 + 1)))) else ((boltingref06_attr.f k x0 x6).bind fun bt123 => (if bt123.2.2 > (x0.size : Int) then (some (x122000, x122001, x122002, x122003, x122004, bt123.2.2)) else ((boltingref06_known.f k x122003 bt123.1).bind fun t127 => (if t127 = true then (boltingref06_tag.l1 k x0 bt123.2.2 x122000 x122001 x122002 x122003 x122004) else (if x122003.length < 4398046511104 then (boltingref06_tag.l1 k x0 bt123.2.2 x122000 x122001 x122002 (x122003 ++ [(⟨bt123.1, bt123.2.1⟩ : S40)]) x122004) else (none))))))) else (none)) else (none))
def boltingref06_tag.l2 : Nat → ByteArray → Int → Int → Int → ByteArray → ByteArray → List (S40) → Bool → Option (Int × ByteArray × ByteArray × (List (S40)) × Bool × Int)
  | 0, _, _, _, _, _, _, _, _ => none
  | k + 1, x0, x6, x8, x122000, x122001, x122002, x122003, x122004 => if x6 < (x0.size : Int) then (if 0 ≤ x6 then ((boltingref02_Space.f (bt x0 x6)).bind fun t122 => (if t122 = true then (boltingref06_tag.l2 k x0 (wrap64 (x6 + 1)) x8 x122000 x122001 x122002 x122003 x122004) else (if (bt x0 x6) = 47 then (boltingref06_tag.l2 k x0 (wrap64 (x6 + 1)) x8 x122000 x122001 x122002 x122003 x122004) else (boltingref06_tag.j4 k x0 x6 x8 x122000 x122001 x122002 x122003 x122004)))) else (none)) else (boltingref06_tag.j4 k x0 x6 x8 x122000 x122001 x122002 x122003 x122004)
def boltingref06_tag.l0 : Nat → ByteArray → Int → Int → Option (Int × ByteArray × ByteArray × (List (S40)) × Bool × Int)
  | 0, _, _, _ => none
  | k + 1, x0, x1, x6 => if x6 < (x0.size : Int) then (if 0 ≤ x6 then ((boltingref06_stops.f (bt x0 x6)).bind fun t119 => (if t119 = true then (boltingref06_tag.j1 k x0 x1 x6) else (boltingref06_tag.l0 k x0 x1 (wrap64 (x6 + 1))))) else (none)) else (boltingref06_tag.j1 k x0 x1 x6)
end
def boltingref06_tag.f (k : Nat) (a0 : ByteArray) (a1 : Int) : Option (Int × ByteArray × ByteArray × (List (S40)) × Bool × Int) := boltingref06_tag.l0 k a0 a1 a1
theorem boltingref06_tag.mono_l : ∀ k, (∀ y0 y1 y2, LeO (boltingref06_tag.j1 k y0 y1 y2) (boltingref06_tag.j1 (k + 1) y0 y1 y2)) ∧ (∀ y0 y1 y2 y3 y4 y5 y6, LeO (boltingref06_tag.l1 k y0 y1 y2 y3 y4 y5 y6) (boltingref06_tag.l1 (k + 1) y0 y1 y2 y3 y4 y5 y6)) ∧ (∀ y0 y1 y2 y3 y4 y5 y6 y7, LeO (boltingref06_tag.j4 k y0 y1 y2 y3 y4 y5 y6 y7) (boltingref06_tag.j4 (k + 1) y0 y1 y2 y3 y4 y5 y6 y7)) ∧ (∀ y0 y1 y2 y3 y4 y5 y6 y7, LeO (boltingref06_tag.l2 k y0 y1 y2 y3 y4 y5 y6 y7) (boltingref06_tag.l2 (k + 1) y0 y1 y2 y3 y4 y5 y6 y7)) ∧ (∀ y0 y1 y2, LeO (boltingref06_tag.l0 k y0 y1 y2) (boltingref06_tag.l0 (k + 1) y0 y1 y2))
  | 0 => ⟨fun _ _ _ r h => by simp [boltingref06_tag.j1] at h, fun _ _ _ _ _ _ _ r h => by simp [boltingref06_tag.l1] at h, fun _ _ _ _ _ _ _ _ r h => by simp [boltingref06_tag.j4] at h, fun _ _ _ _ _ _ _ _ r h => by simp [boltingref06_tag.l2] at h, fun _ _ _ r h => by simp [boltingref06_tag.l0] at h⟩
  | k + 1 => by
    obtain ⟨ih0, ih1, ih2, ih3, ih4⟩ := boltingref06_tag.mono_l k
    refine ⟨?_, ?_, ?_, ?_, ?_⟩
    · intro y0 y1 y2
      unfold boltingref06_tag.j1
      repeat' first
      | (with_reducible exact ih0 _ _ _)
      | (with_reducible exact ih1 _ _ _ _ _ _ _)
      | (with_reducible exact ih2 _ _ _ _ _ _ _ _)
      | (with_reducible exact ih3 _ _ _ _ _ _ _ _)
      | (with_reducible exact ih4 _ _ _)
      | (with_reducible exact boltingref06_attr.mono _ _ _)
      | (with_reducible exact boltingref06_known.mono _ _ _)
      | (with_reducible exact LeO.refl _)
      | (with_reducible exact LeO.none _)
      | (with_reducible refine LeO.ite ?_ ?_)
      | (with_reducible refine LeO.bind ?_ (fun _ => ?_))
      | exact ih0 _ _ _
      | exact ih1 _ _ _ _ _ _ _
      | exact ih2 _ _ _ _ _ _ _ _
      | exact ih3 _ _ _ _ _ _ _ _
      | exact ih4 _ _ _
      | exact boltingref06_attr.mono _ _ _
      | exact boltingref06_known.mono _ _ _
      | exact LeO.none _
      | refine LeO.ite ?_ ?_
      | refine LeO.bind ?_ (fun _ => ?_)
    · intro y0 y1 y2 y3 y4 y5 y6
      unfold boltingref06_tag.l1
      repeat' first
      | (with_reducible exact ih0 _ _ _)
      | (with_reducible exact ih1 _ _ _ _ _ _ _)
      | (with_reducible exact ih2 _ _ _ _ _ _ _ _)
      | (with_reducible exact ih3 _ _ _ _ _ _ _ _)
      | (with_reducible exact ih4 _ _ _)
      | (with_reducible exact boltingref06_attr.mono _ _ _)
      | (with_reducible exact boltingref06_known.mono _ _ _)
      | (with_reducible exact LeO.refl _)
      | (with_reducible exact LeO.none _)
      | (with_reducible refine LeO.ite ?_ ?_)
      | (with_reducible refine LeO.bind ?_ (fun _ => ?_))
      | exact ih0 _ _ _
      | exact ih1 _ _ _ _ _ _ _
      | exact ih2 _ _ _ _ _ _ _ _
      | exact ih3 _ _ _ _ _ _ _ _
      | exact ih4 _ _ _
      | exact boltingref06_attr.mono _ _ _
      | exact boltingref06_known.mono _ _ _
      | exact LeO.none _
      | refine LeO.ite ?_ ?_
      | refine LeO.bind ?_ (fun _ => ?_)
    · intro y0 y1 y2 y3 y4 y5 y6 y7
      unfold boltingref06_tag.j4
      repeat' first
      | (with_reducible exact ih0 _ _ _)
      | (with_reducible exact ih1 _ _ _ _ _ _ _)
      | (with_reducible exact ih2 _ _ _ _ _ _ _ _)
      | (with_reducible exact ih3 _ _ _ _ _ _ _ _)
      | (with_reducible exact ih4 _ _ _)
      | (with_reducible exact boltingref06_attr.mono _ _ _)
      | (with_reducible exact boltingref06_known.mono _ _ _)
      | (with_reducible exact LeO.refl _)
      | (with_reducible exact LeO.none _)
      | (with_reducible refine LeO.ite ?_ ?_)
      | (with_reducible refine LeO.bind ?_ (fun _ => ?_))
      | exact ih0 _ _ _
      | exact ih1 _ _ _ _ _ _ _
      | exact ih2 _ _ _ _ _ _ _ _
      | exact ih3 _ _ _ _ _ _ _ _
      | exact ih4 _ _ _
      | exact boltingref06_attr.mono _ _ _
      | exact boltingref06_known.mono _ _ _
      | exact LeO.none _
      | refine LeO.ite ?_ ?_
      | refine LeO.bind ?_ (fun _ => ?_)
    · intro y0 y1 y2 y3 y4 y5 y6 y7
      unfold boltingref06_tag.l2
      repeat' first
      | (with_reducible exact ih0 _ _ _)
      | (with_reducible exact ih1 _ _ _ _ _ _ _)
      | (with_reducible exact ih2 _ _ _ _ _ _ _ _)
      | (with_reducible exact ih3 _ _ _ _ _ _ _ _)
      | (with_reducible exact ih4 _ _ _)
      | (with_reducible exact boltingref06_attr.mono _ _ _)
      | (with_reducible exact boltingref06_known.mono _ _ _)
      | (with_reducible exact LeO.refl _)
      | (with_reducible exact LeO.none _)
      | (with_reducible refine LeO.ite ?_ ?_)
      | (with_reducible refine LeO.bind ?_ (fun _ => ?_))
      | exact ih0 _ _ _
      | exact ih1 _ _ _ _ _ _ _
      | exact ih2 _ _ _ _ _ _ _ _
      | exact ih3 _ _ _ _ _ _ _ _
      | exact ih4 _ _ _
      | exact boltingref06_attr.mono _ _ _
      | exact boltingref06_known.mono _ _ _
      | exact LeO.none _
      | refine LeO.ite ?_ ?_
      | refine LeO.bind ?_ (fun _ => ?_)
    · intro y0 y1 y2
      unfold boltingref06_tag.l0
      repeat' first
      | (with_reducible exact ih0 _ _ _)
      | (with_reducible exact ih1 _ _ _ _ _ _ _)
      | (with_reducible exact ih2 _ _ _ _ _ _ _ _)
      | (with_reducible exact ih3 _ _ _ _ _ _ _ _)
      | (with_reducible exact ih4 _ _ _)
      | (with_reducible exact boltingref06_attr.mono _ _ _)
      | (with_reducible exact boltingref06_known.mono _ _ _)
      | (with_reducible exact LeO.refl _)
      | (with_reducible exact LeO.none _)
      | (with_reducible refine LeO.ite ?_ ?_)
      | (with_reducible refine LeO.bind ?_ (fun _ => ?_))
      | exact ih0 _ _ _
      | exact ih1 _ _ _ _ _ _ _
      | exact ih2 _ _ _ _ _ _ _ _
      | exact ih3 _ _ _ _ _ _ _ _
      | exact ih4 _ _ _
      | exact boltingref06_attr.mono _ _ _
      | exact boltingref06_known.mono _ _ _
      | exact LeO.none _
      | refine LeO.ite ?_ ?_
      | refine LeO.bind ?_ (fun _ => ?_)
theorem boltingref06_tag.mono : ∀ a0 a1 k, LeO (boltingref06_tag.f k a0 a1) (boltingref06_tag.f (k + 1) a0 a1) := by
  intro a0 a1 k
  obtain ⟨ih0, ih1, ih2, ih3, ih4⟩ := boltingref06_tag.mono_l k
  unfold boltingref06_tag.f
  repeat' first
      | (with_reducible exact ih0 _ _ _)
      | (with_reducible exact ih1 _ _ _ _ _ _ _)
      | (with_reducible exact ih2 _ _ _ _ _ _ _ _)
      | (with_reducible exact ih3 _ _ _ _ _ _ _ _)
      | (with_reducible exact ih4 _ _ _)
      | (with_reducible exact boltingref06_attr.mono _ _ _)
      | (with_reducible exact boltingref06_known.mono _ _ _)
      | (with_reducible exact LeO.refl _)
      | (with_reducible exact LeO.none _)
      | (with_reducible refine LeO.ite ?_ ?_)
      | (with_reducible refine LeO.bind ?_ (fun _ => ?_))
      | exact ih0 _ _ _
      | exact ih1 _ _ _ _ _ _ _
      | exact ih2 _ _ _ _ _ _ _ _
      | exact ih3 _ _ _ _ _ _ _ _
      | exact ih4 _ _ _
      | exact boltingref06_attr.mono _ _ _
      | exact boltingref06_known.mono _ _ _
      | exact LeO.none _
      | refine LeO.ite ?_ ?_
      | refine LeO.bind ?_ (fun _ => ?_)
set_option maxHeartbeats 8000000 in
set_option maxRecDepth 100000 in
theorem boltingref06_tag.calls (k : Nat) (a0 : ByteArray) (a1 : Int) (r1 : Int) (r2 : ByteArray) (r3 : ByteArray) (r4 : List (S40)) (r5 : Bool) (r6 : Int) (w : World) (h : boltingref06_tag.f k a0 a1 = some (r1, r2, r3, r4, r5, r6)) :
    Calls Tryz.prog 43 #[.string a0, .int .i64 a1] w fun e w' => ∃ v3_ : Value, e = .returned (.tuple #[.agg #[.int .i64 r1, .string r2, .string r3, v3_, .bool r5], .int .i64 r6]) ∧ Kd.R k40 40 w' w.heap.size (fun _ => True) v3_ r4 ∧ Below w.heap.size w w' := by
  have hu59 := Tryz.underlying59
  have hu40 := Tryz.underlying40
  have HB := Aside0.mk (Below.refl w.heap.size w)
  have H : (boltingref06_tag.l0 k a0 a1 a1) = some (r1, r2, r3, r4, r5, r6) := h
  clear h
  have HC3 := Aside0.mk H
  clear H
  go_enter Tryz.func43, Tryz.ntmps43
  go_upto_block 0 with (first | ((with_reducible refine gate_dst (N := 4) rfl ?_); refine box_event ?hg (N := 4) ?hd (cs := #[.int .i64 0, .string (⟨#[]⟩ : ByteArray), .string (⟨#[]⟩ : ByteArray), .slice none 0 0, .bool false]) (t := 59) ?hr ?_; (case hd => rfl); (case hg => rfl); (case hr => first | (go_simp; done) | (go_simp; rfl)); intro gb118 hg w4 hbox hb; have n0_ := Aside0.mk (below_step (by repeat (first | (with_reducible first | exact HB.out | apply below_alloc | apply pw_below_drewN | apply below_drew1) | exact HB.out)) hb); have n1_ := Aside0.mk (hbox); have n2_ := Aside0.mk ((by rw [hg]; exact (below_size (by repeat (first | (with_reducible first | exact HB.out | apply below_alloc | apply pw_below_drewN | apply below_drew1) | exact HB.out))) : w.heap.size ≤ gb118)); have n3_ := Aside0.mk ((by rw [hg]; exact (below_size (by repeat (first | (with_reducible first | exact HB.out | apply below_alloc | apply pw_below_drewN | apply below_drew1) | exact HB.out))) : w.heap.size ≤ gb118)); clear HB; have HB := n0_; have BK118 := n1_; have GW118 := n2_; have GE118 := n3_; clear n0_ n1_ n2_ n3_; clear hb hbox hg))
  (try simp only [Act.put, List.setIfInBounds_toArray, List.set_cons_zero, List.set_cons_succ])
  go_cut [6] (fun v6 wc => ∃ (kq : Nat) (x6_2 : Int), v6 = .int .i64 x6_2 ∧ Aside0 (boltingref06_tag.j1 kq a0 a1 x6_2 = some (r1, r2, r3, r4, r5, r6)) ∧ Aside0 (kq ≤ k) ∧ Aside0 (wc.heap[gb118]? = some (.cells #[.int .i64 0, .string (⟨#[]⟩ : ByteArray), .string (⟨#[]⟩ : ByteArray), (.slice none 0 0), .bool false] 59 (0, 0))) ∧ Aside0 (Below w.heap.size w wc))
  case first =>
    have H := HC3.out
    clear HC3
    have H' := Aside0.mk H
    clear H
    go_wp2
    go_loopg [6] k (fun kq v6 w' => ∃ (x6_1 : Int), v6 = .int .i64 x6_1 ∧ Aside0 (boltingref06_tag.l0 kq a0 a1 x6_1 = some (r1, r2, r3, r4, r5, r6)) ∧ Aside0 (kq ≤ k) ∧ Aside0 (w'.heap[gb118]? = some (.cells #[.int .i64 0, .string (⟨#[]⟩ : ByteArray), .string (⟨#[]⟩ : ByteArray), (.slice none 0 0), .bool false] 59 (0, 0))) ∧ Aside0 (Below w.heap.size w w'))
    case atStart => exact ⟨(a1), (by first | rfl | (simp; done) | (simp [*]; done)), H', ⟨Nat.le_refl _⟩, ⟨by (with_reducible repeat (first | refine blk_drewN ?_ _ | refine blk_drew ?_ | refine blk_alloc ?_ _)); exact BK118.out⟩, ⟨by repeat (first | (with_reducible first | exact HB.out | apply below_alloc | apply pw_below_drewN | apply below_drew1 | refine below_set ?_ GE118.out) | exact HB.out)⟩⟩
    case round =>
      clear H'
      try clear p2
      try clear c4
      obtain ⟨x6_1, rfl, HA, HK1, BK118, HB⟩ := hrel
      cases gk with
      | zero => exact absurd HA.out (by simp [boltingref06_tag.l0])
      | succ k1 =>
        have H := HA.out
        clear HA
        simp only [boltingref06_tag.l0] at H
        by_cases c5 : x6_1 < (a0.size : Int)
        · rw [if_pos c5] at H
          have c5b0 : decide (x6_1 < (a0.size : Int)) = true := decide_eq_true c5
          clear c5
          (first | rw [c5b0] | (simp only [i64_w, i32_w]; rw [c5b0]) | skip)
          by_cases c6 : 0 ≤ x6_1
          · rw [if_pos c6] at H
            have c6b0 : decide (0 ≤ x6_1) = true := decide_eq_true c6
            clear c6
            replace H := Option.bind_eq_some_iff.mp H
            obtain ⟨t119, A80, H⟩ := H
            replace H : (if t119 = true then (boltingref06_tag.j1 k1 a0 a1 x6_1) else (boltingref06_tag.l0 k1 a0 a1 (wrap64 (x6_1 + 1)))) = some (r1, r2, r3, r4, r5, r6) := H
            have A8 := Aside0.mk A80
            clear A80
            by_cases c9 : t119 = true
            · subst c9
              have H1 : (boltingref06_tag.j1 k1 a0 a1 x6_1) = some (r1, r2, r3, r4, r5, r6) := by rw [if_pos rfl] at H; exact H
              clear H
              have H := H1
              clear H1
              have H' := Aside0.mk H
              clear H
              have p7 : 0 ≤ (x6_1 : Int) := (by first | exact of_decide_eq_true (by first | (with_reducible assumption) | assumption) | assumption | omega)
              have q7 : x6_1 < (a0.size : Int) := (by first | exact of_decide_eq_true (by first | (with_reducible assumption) | assumption) | assumption | omega)
              have hx7 := bt_at a0 x6_1
              replace p7 := eq_true p7
              replace q7 := eq_true q7
              go_wp2_with (first | (go_at_call 83; (with_reducible refine (boltingref06_stops.calls (bt a0 x6_1) true _ A8.out).mono ?_); rintro e w' ⟨rfl, ⟨nd, rfl⟩⟩))
              go_meet
              case rel => exact ⟨_, (x6_1), (by first | rfl | (simp; done) | (simp [*]; done)), H', ⟨by have := HK1.out; first | omega | exact Nat.le_refl _⟩, ⟨by (with_reducible repeat (first | refine blk_drewN ?_ _ | refine blk_drew ?_ | refine blk_alloc ?_ _)); exact BK118.out⟩, ⟨by repeat (first | (with_reducible first | exact HB.out | apply below_alloc | apply pw_below_drewN | apply below_drew1 | refine below_set ?_ GE118.out) | exact HB.out)⟩⟩
            · replace c9 := Bool.eq_false_iff.mpr c9
              subst c9
              have H1 : (boltingref06_tag.l0 k1 a0 a1 (wrap64 (x6_1 + 1))) = some (r1, r2, r3, r4, r5, r6) := by rw [if_neg (show ¬ (false = true) by decide)] at H; first | exact H | (simp only [eq_self] at H ⊢; exact H) | (simp only [eq_self, if_true] at H ⊢; exact H)
              clear H
              have H := H1
              clear H1
              have H' := Aside0.mk H
              clear H
              have p7 : 0 ≤ (x6_1 : Int) := (by first | exact of_decide_eq_true (by first | (with_reducible assumption) | assumption) | assumption | omega)
              have q7 : x6_1 < (a0.size : Int) := (by first | exact of_decide_eq_true (by first | (with_reducible assumption) | assumption) | assumption | omega)
              have hx7 := bt_at a0 x6_1
              replace p7 := eq_true p7
              replace q7 := eq_true q7
              go_wp2_with (first | (go_at_call 83; (with_reducible refine (boltingref06_stops.calls (bt a0 x6_1) false _ A8.out).mono ?_); rintro e w' ⟨rfl, ⟨nd, rfl⟩⟩))
              go_roundg k1
              case measure => have := HK1.out; omega
              case rel => exact ⟨(wrap64 (x6_1 + 1)), (by first | rfl | (simp; done) | (simp [*]; done)), H', ⟨by have := HK1.out; omega⟩, ⟨by (with_reducible repeat (first | refine blk_drewN ?_ _ | refine blk_drew ?_ | refine blk_alloc ?_ _)); exact BK118.out⟩, ⟨by repeat (first | (with_reducible first | exact HB.out | apply below_alloc | apply pw_below_drewN | apply below_drew1 | refine below_set ?_ GE118.out) | exact HB.out)⟩⟩
          · rw [if_neg c6] at H
            exact absurd H (by simp)
        · rw [if_neg c5] at H
          have c5b0 : decide (x6_1 < (a0.size : Int)) = false := decide_eq_false c5
          clear c5
          (first | rw [c5b0] | (simp only [i64_w, i32_w]; rw [c5b0]) | skip)
          have H' := Aside0.mk H
          clear H
          go_wp2
          go_meet
          case rel => exact ⟨_, (x6_1), (by first | rfl | (simp; done) | (simp [*]; done)), H', ⟨by have := HK1.out; first | omega | exact Nat.le_refl _⟩, ⟨by (with_reducible repeat (first | refine blk_drewN ?_ _ | refine blk_drew ?_ | refine blk_alloc ?_ _)); exact BK118.out⟩, ⟨by repeat (first | (with_reducible first | exact HB.out | apply below_alloc | apply pw_below_drewN | apply below_drew1 | refine below_set ?_ GE118.out) | exact HB.out)⟩⟩
  case rest =>
    clear HC3
    try clear p2
    try clear c4
    try clear c5
    try clear c5b0
    try clear c6
    try clear c6b0
    try clear p6
    try clear p7
    try clear q7
    try clear hx7
    try clear c9
    try clear p2
    try clear p7
    try clear q7
    obtain ⟨kq, x6_2, rfl, HA, HJ2, BK118, HB⟩ := hcut
    cases kq with
    | zero => exact absurd HA.out (by simp [boltingref06_tag.j1])
    | succ kj2 =>
      have H := HA.out
      clear HA
      simp only [boltingref06_tag.j1] at H
      by_cases c10 : 0 ≤ a1
      · rw [if_pos c10] at H
        have c10b0 := eq_true c10
        have c10b1 : decide (0 ≤ a1) = true := decide_eq_true c10
        clear c10
        by_cases c11 : a1 ≤ x6_2
        · rw [if_pos c11] at H
          have c11b0 := eq_true c11
          have c11b1 : decide (a1 ≤ x6_2) = true := decide_eq_true c11
          clear c11
          by_cases c12 : x6_2 ≤ (a0.size : Int)
          · rw [if_pos c12] at H
            have c12b0 := eq_true c12
            have c12b1 : decide (x6_2 ≤ (a0.size : Int)) = true := decide_eq_true c12
            clear c12
            replace H := Option.bind_eq_some_iff.mp H
            obtain ⟨t120, A130, H⟩ := H
            replace H : (boltingref06_tag.l1 kj2 a0 x6_2 0 t120 (⟨#[]⟩ : ByteArray) ([] : List (S40)) false) = some (r1, r2, r3, r4, r5, r6) := H
            have A13 := Aside0.mk A130
            clear A130
            have H' := Aside0.mk H
            clear H
            go_wp2_with (first | ((with_reducible refine gate_callee (f := 84) rfl ?_); refine goesL_ (some 29) rfl rfl Tryz.func84 (by kernel_rfl) rfl #[.string (a0.extract (a1 : Int).toNat (x6_2 : Int).toNat)] rfl (by (try simp only [List.map_toArray, List.map_cons, List.map_nil]); first | done | rfl | (simp only [List.length_drop, List.length_take]; rfl)) ?_; (with_reducible refine (boltingref02_Lower.calls (a0.extract (a1 : Int).toNat (x6_2 : Int).toNat) t120 _ A13.out).mono ?_); rintro e w14 ⟨rfl, hb⟩; refine ⟨_, rfl, ?_⟩; have n0_ := Aside0.mk (blk_below (g := gb118) (o := .cells #[.int .i64 0, .string (⟨#[]⟩ : ByteArray), .string (⟨#[]⟩ : ByteArray), .slice none 0 0, .bool false] 59 (0, 0)) (by (with_reducible repeat (first | refine blk_drewN ?_ _ | refine blk_drew ?_ | refine blk_alloc ?_ _)); exact BK118.out) hb); have n1_ := Aside0.mk (below_step (by repeat (first | (with_reducible first | exact HB.out | apply below_alloc | apply pw_below_drewN | apply below_drew1 | refine below_set ?_ GE118.out) | exact HB.out)) hb); clear BK118; clear HB; have BK118 := n0_; have HB := n1_; clear n0_ n1_; (try clear hb); (try clear hb2); (try clear hk); (try clear hi)) | ((with_reducible refine gate_dst (N := 7) rfl ?_); refine box_event ?hg (N := 7) ?hd (cs := #[.int .i64 0, .string (⟨#[]⟩ : ByteArray), .string (⟨#[]⟩ : ByteArray), .slice none 0 0, .bool false]) (t := 59) ?hr ?_; (case hd => rfl); (case hg => rfl); (case hr => first | (go_simp; done) | (go_simp; rfl)); intro gb121 hg w15 hbox hb; have n0_ := Aside0.mk (blk_below (g := gb118) (o := .cells #[.int .i64 0, .string (⟨#[]⟩ : ByteArray), .string (⟨#[]⟩ : ByteArray), .slice none 0 0, .bool false] 59 (0, 0)) (by (with_reducible repeat (first | refine blk_drewN ?_ _ | refine blk_drew ?_ | refine blk_alloc ?_ _)); exact BK118.out) hb); have n1_ := Aside0.mk (below_step (by repeat (first | (with_reducible first | exact HB.out | apply below_alloc | apply pw_below_drewN | apply below_drew1 | refine below_set ?_ GE118.out) | exact HB.out)) hb); have n2_ := Aside0.mk (hbox); have n3_ := Aside0.mk ((by rw [hg]; exact (below_size (by repeat (first | (with_reducible first | exact HB.out | apply below_alloc | apply pw_below_drewN | apply below_drew1 | refine below_set ?_ GE118.out) | exact HB.out))) : w.heap.size ≤ gb121)); have n4_ := Aside0.mk ((by rw [hg]; exact (below_size (by repeat (first | (with_reducible first | exact HB.out | apply below_alloc | apply pw_below_drewN | apply below_drew1 | refine below_set ?_ GE118.out) | exact HB.out))) : w.heap.size ≤ gb121)); have n5_ := Aside0.mk ((by rw [hg]; exact Nat.ne_of_lt (blk_lt (g := gb118) (o := .cells #[.int .i64 0, .string (⟨#[]⟩ : ByteArray), .string (⟨#[]⟩ : ByteArray), .slice none 0 0, .bool false] 59 (0, 0)) (by (with_reducible repeat (first | refine blk_drewN ?_ _ | refine blk_drew ?_ | refine blk_alloc ?_ _)); exact BK118.out)) : gb118 ≠ gb121)); have n6_ := Aside0.mk ((by rw [hg]; exact Nat.ne_of_gt (blk_lt (g := gb118) (o := .cells #[.int .i64 0, .string (⟨#[]⟩ : ByteArray), .string (⟨#[]⟩ : ByteArray), .slice none 0 0, .bool false] 59 (0, 0)) (by (with_reducible repeat (first | refine blk_drewN ?_ _ | refine blk_drew ?_ | refine blk_alloc ?_ _)); exact BK118.out)) : gb121 ≠ gb118)); clear BK118; clear HB; have BK118 := n0_; have HB := n1_; have BK121 := n2_; have GW121 := n3_; have GE121 := n4_; have NB118_121 := n5_; have NB121_118 := n6_; clear n0_ n1_ n2_ n3_ n4_ n5_ n6_; clear hb hbox hg; have hnb16 := NB121_118.out; have hnc16 := NB118_121.out; have hcz17_0 : w15.cell? ⟨gb121, 0, none⟩ = some (.int .i64 0) := (blk_cell BK121.out 0).trans rfl; have hcz17_1 : w15.cell? ⟨gb121, 1, none⟩ = some (.string (⟨#[]⟩ : ByteArray)) := (blk_cell BK121.out 1).trans rfl; have hcz17_2 : w15.cell? ⟨gb121, 2, none⟩ = some (.string (⟨#[]⟩ : ByteArray)) := (blk_cell BK121.out 2).trans rfl; have hcz17_3 : w15.cell? ⟨gb121, 3, none⟩ = some (.slice none 0 0) := (blk_cell BK121.out 3).trans rfl; have hcz17_4 : w15.cell? ⟨gb121, 4, none⟩ = some (.bool false) := (blk_cell BK121.out 4).trans rfl; have hfz17_0 := blk_frozen BK121.out 0; have hfz17_1 := blk_frozen BK121.out 1; have hfz17_2 := blk_frozen BK121.out 2; have hfz17_3 := blk_frozen BK121.out 3; have hfz17_4 := blk_frozen BK121.out 4))
            go_loopg [6] kj2 (fun kq v6 w' => ∃ (x6_2 : Int) (x119000_2 : Int) (x119001_2 : ByteArray) (x119002_2 : ByteArray) (x119004_2 : Bool) (x122003_2 : List (S40)) (x122004_2 : Bool) (u122003 : Value), v6 = .int .i64 x6_2 ∧ Aside0 (boltingref06_tag.l1 kq a0 x6_2 0 t120 (⟨#[]⟩ : ByteArray) x122003_2 x122004_2 = some (r1, r2, r3, r4, r5, r6)) ∧ Aside0 (kq ≤ kj2) ∧ Aside0 (Kd.R k40 40 w' w.heap.size (fun _ => True) u122003 x122003_2) ∧ Aside0 (w'.heap[gb118]? = some (.cells #[.int .i64 x119000_2, .string x119001_2, .string x119002_2, (.slice none 0 0), .bool x119004_2] 59 (0, 0))) ∧ Aside0 (w'.heap[gb121]? = some (.cells #[.int .i64 0, .string t120, .string (⟨#[]⟩ : ByteArray), u122003, .bool x122004_2] 59 (0, 0))) ∧ Aside0 (Below w.heap.size w w'))
            case atStart => exact ⟨(x6_2), (0), ((⟨#[]⟩ : ByteArray)), ((⟨#[]⟩ : ByteArray)), (false), (([] : List (S40))), (false), (.slice none 0 0), (by first | rfl | (simp; done) | (simp [*]; done)), H', ⟨Nat.le_refl _⟩, ⟨by first | exact Kd.R_nil _ _ _ _ _ | exact Kd.N_nil _ _ _ _ _ | exact Kd.V_nil _ _ _ _ _ | exact Kd.Q_nil _ _ _ _ _ | exact Kd.S_nil _ _ _ _ _⟩, ⟨by (with_reducible repeat (first | refine blk_drewN ?_ _ | refine blk_drew ?_ | refine blk_alloc ?_ _)); refine blk_far ?_ NB118_121.out _; (with_reducible repeat (first | refine blk_drewN ?_ _ | refine blk_drew ?_ | refine blk_alloc ?_ _)); refine blk_far ?_ NB118_121.out _; (with_reducible repeat (first | refine blk_drewN ?_ _ | refine blk_drew ?_ | refine blk_alloc ?_ _)); refine blk_far ?_ NB118_121.out _; (with_reducible repeat (first | refine blk_drewN ?_ _ | refine blk_drew ?_ | refine blk_alloc ?_ _)); refine blk_far ?_ NB118_121.out _; (with_reducible repeat (first | refine blk_drewN ?_ _ | refine blk_drew ?_ | refine blk_alloc ?_ _)); refine blk_far ?_ NB118_121.out _; (with_reducible repeat (first | refine blk_drewN ?_ _ | refine blk_drew ?_ | refine blk_alloc ?_ _)); exact BK118.out⟩, ⟨by (with_reducible repeat (first | refine blk_drewN ?_ _ | refine blk_drew ?_ | refine blk_alloc ?_ _)); refine blk_put (cs := #[.int .i64 0, .string t120, .string (⟨#[]⟩ : ByteArray), .slice none 0 0, .bool false]) ?_ 4 _ rfl; (with_reducible repeat (first | refine blk_drewN ?_ _ | refine blk_drew ?_ | refine blk_alloc ?_ _)); refine blk_put (cs := #[.int .i64 0, .string t120, .string (⟨#[]⟩ : ByteArray), .slice none 0 0, .bool false]) ?_ 3 _ rfl; (with_reducible repeat (first | refine blk_drewN ?_ _ | refine blk_drew ?_ | refine blk_alloc ?_ _)); refine blk_put (cs := #[.int .i64 0, .string t120, .string (⟨#[]⟩ : ByteArray), .slice none 0 0, .bool false]) ?_ 2 _ rfl; (with_reducible repeat (first | refine blk_drewN ?_ _ | refine blk_drew ?_ | refine blk_alloc ?_ _)); refine blk_put (cs := #[.int .i64 0, .string (⟨#[]⟩ : ByteArray), .string (⟨#[]⟩ : ByteArray), .slice none 0 0, .bool false]) ?_ 1 _ rfl; (with_reducible repeat (first | refine blk_drewN ?_ _ | refine blk_drew ?_ | refine blk_alloc ?_ _)); refine blk_put (cs := #[.int .i64 0, .string (⟨#[]⟩ : ByteArray), .string (⟨#[]⟩ : ByteArray), .slice none 0 0, .bool false]) ?_ 0 _ rfl; (with_reducible repeat (first | refine blk_drewN ?_ _ | refine blk_drew ?_ | refine blk_alloc ?_ _)); exact BK121.out⟩, ⟨by repeat (first | (with_reducible first | exact HB.out | apply below_alloc | apply pw_below_drewN | apply below_drew1 | refine below_set ?_ GE118.out | refine below_set ?_ GE121.out) | exact HB.out)⟩⟩
            case round =>
              clear H'
              try clear c1
              try clear p2
              try clear c4
              try clear c5
              try clear c5b0
              try clear c6
              try clear c6b0
              try clear p6
              try clear p7
              try clear q7
              try clear hx7
              try clear c8
              try clear c9
              try clear c10
              try clear c10b0
              try clear c10b1
              try clear c11
              try clear c11b0
              try clear c11b1
              try clear c12
              try clear c12b0
              try clear c12b1
              try clear c16
              try clear hcz17_0
              try clear hcz17_1
              try clear hcz17_2
              try clear hcz17_3
              try clear hcz17_4
              try clear hfz17_0
              try clear hfz17_1
              try clear hfz17_2
              try clear hfz17_3
              try clear hfz17_4
              try clear p2
              try clear p6
              try clear p7
              try clear q7
              obtain ⟨x6_2, x119000_2, x119001_2, x119002_2, x119004_2, x122003_2, x122004_2, u122003, rfl, HA, HK2, HO_122003, BK118, BK121, HB⟩ := hrel
              cases gk with
              | zero => exact absurd HA.out (by simp [boltingref06_tag.l1])
              | succ k2 =>
                have H := HA.out
                clear HA
                simp only [boltingref06_tag.l1] at H
                have HC18 := Aside0.mk H
                clear H
                go_upto_block 4 with (fail)
                go_cut [6] (fun v6 wc => ∃ (kq : Nat) (x6_17 : Int), v6 = .int .i64 x6_17 ∧ Aside0 (boltingref06_tag.j4 kq a0 x6_17 x6_2 0 t120 (⟨#[]⟩ : ByteArray) x122003_2 x122004_2 = some (r1, r2, r3, r4, r5, r6)) ∧ Aside0 (kq ≤ k2) ∧ Aside0 (Kd.R k40 40 wc w.heap.size (fun _ => True) u122003 x122003_2) ∧ Aside0 (wc.heap[gb118]? = some (.cells #[.int .i64 x119000_2, .string x119001_2, .string x119002_2, (.slice none 0 0), .bool x119004_2] 59 (0, 0))) ∧ Aside0 (wc.heap[gb121]? = some (.cells #[.int .i64 0, .string t120, .string (⟨#[]⟩ : ByteArray), u122003, .bool x122004_2] 59 (0, 0))) ∧ Aside0 (Below w.heap.size w wc))
                case first =>
                  have H := HC18.out
                  clear HC18
                  have H' := Aside0.mk H
                  clear H
                  go_wp2
                  go_loopg [6] k2 (fun kq v6 w' => ∃ (x6_3 : Int), v6 = .int .i64 x6_3 ∧ Aside0 (boltingref06_tag.l2 kq a0 x6_3 x6_2 0 t120 (⟨#[]⟩ : ByteArray) x122003_2 x122004_2 = some (r1, r2, r3, r4, r5, r6)) ∧ Aside0 (kq ≤ k2) ∧ Aside0 (Kd.R k40 40 w' w.heap.size (fun _ => True) u122003 x122003_2) ∧ Aside0 (w'.heap[gb118]? = some (.cells #[.int .i64 x119000_2, .string x119001_2, .string x119002_2, (.slice none 0 0), .bool x119004_2] 59 (0, 0))) ∧ Aside0 (w'.heap[gb121]? = some (.cells #[.int .i64 0, .string t120, .string (⟨#[]⟩ : ByteArray), u122003, .bool x122004_2] 59 (0, 0))) ∧ Aside0 (Below w.heap.size w w'))
                  case atStart => exact ⟨(x6_2), (by first | rfl | (simp; done) | (simp [*]; done)), H', ⟨Nat.le_refl _⟩, ⟨by (with_reducible repeat (first | apply Kd.R_alloc | apply Kd.R_drewN | apply Kd.R_drew)); exact HO_122003.out⟩, ⟨by (with_reducible repeat (first | refine blk_drewN ?_ _ | refine blk_drew ?_ | refine blk_alloc ?_ _)); exact BK118.out⟩, ⟨by (with_reducible repeat (first | refine blk_drewN ?_ _ | refine blk_drew ?_ | refine blk_alloc ?_ _)); exact BK121.out⟩, ⟨by repeat (first | (with_reducible first | exact HB.out | apply below_alloc | apply pw_below_drewN | apply below_drew1 | refine below_set ?_ GE118.out | refine below_set ?_ GE121.out) | exact HB.out)⟩⟩
                  case round =>
                    clear H'
                    try clear c1
                    try clear p2
                    try clear c4
                    try clear c5
                    try clear c5b0
                    try clear c6
                    try clear c6b0
                    try clear p6
                    try clear p7
                    try clear q7
                    try clear hx7
                    try clear c8
                    try clear c9
                    try clear c10
                    try clear c10b0
                    try clear c10b1
                    try clear c11
                    try clear c11b0
                    try clear c11b1
                    try clear c12
                    try clear c12b0
                    try clear c12b1
                    try clear c16
                    try clear hcz17_0
                    try clear hcz17_1
                    try clear hcz17_2
                    try clear hcz17_3
                    try clear hcz17_4
                    try clear hfz17_0
                    try clear hfz17_1
                    try clear hfz17_2
                    try clear hfz17_3
                    try clear hfz17_4
                    try clear p2
                    try clear p6
                    try clear p7
                    try clear q7
                    obtain ⟨x6_3, rfl, HA, HK3, HO_122003, BK118, BK121, HB⟩ := hrel
                    cases gk with
                    | zero => exact absurd HA.out (by simp [boltingref06_tag.l2])
                    | succ k3 =>
                      have H := HA.out
                      clear HA
                      simp only [boltingref06_tag.l2] at H
                      by_cases c19 : x6_3 < (a0.size : Int)
                      · rw [if_pos c19] at H
                        have c19b0 : decide (x6_3 < (a0.size : Int)) = true := decide_eq_true c19
                        clear c19
                        (first | rw [c19b0] | (simp only [i64_w, i32_w]; rw [c19b0]) | skip)
                        by_cases c20 : 0 ≤ x6_3
                        · rw [if_pos c20] at H
                          have c20b0 : decide (0 ≤ x6_3) = true := decide_eq_true c20
                          clear c20
                          replace H := Option.bind_eq_some_iff.mp H
                          obtain ⟨t122, A220, H⟩ := H
                          replace H : (if t122 = true then (boltingref06_tag.l2 k3 a0 (wrap64 (x6_3 + 1)) x6_2 0 t120 (⟨#[]⟩ : ByteArray) x122003_2 x122004_2) else (if (bt a0 x6_3) = 47 then (boltingref06_tag.l2 k3 a0 (wrap64 (x6_3 + 1)) x6_2 0 t120 (⟨#[]⟩ : ByteArray) x122003_2 x122004_2) else (boltingref06_tag.j4 k3 a0 x6_3 x6_2 0 t120 (⟨#[]⟩ : ByteArray) x122003_2 x122004_2))) = some (r1, r2, r3, r4, r5, r6) := H
                          have A22 := Aside0.mk A220
                          clear A220
                          by_cases c23 : t122 = true
                          · subst c23
                            have H1 : (boltingref06_tag.l2 k3 a0 (wrap64 (x6_3 + 1)) x6_2 0 t120 (⟨#[]⟩ : ByteArray) x122003_2 x122004_2) = some (r1, r2, r3, r4, r5, r6) := by rw [if_pos rfl] at H; exact H
                            clear H
                            have H := H1
                            clear H1
                            have H' := Aside0.mk H
                            clear H
                            have p21 : 0 ≤ (x6_3 : Int) := (by first | exact of_decide_eq_true (by first | (with_reducible assumption) | assumption) | assumption | omega)
                            have q21 : x6_3 < (a0.size : Int) := (by first | exact of_decide_eq_true (by first | (with_reducible assumption) | assumption) | assumption | omega)
                            have hx21 := bt_at a0 x6_3
                            replace p21 := eq_true p21
                            replace q21 := eq_true q21
                            go_wp2_with (first | (go_at_call 85; (with_reducible refine (boltingref02_Space.calls (bt a0 x6_3) true _ A22.out).mono ?_); rintro e w' ⟨rfl, ⟨nd, rfl⟩⟩))
                            go_roundg k3
                            case measure => have := HJ2.out; have := HK2.out; have := HK3.out; omega
                            case rel => exact ⟨(wrap64 (x6_3 + 1)), (by first | rfl | (simp; done) | (simp [*]; done)), H', ⟨by have := HJ2.out; have := HK2.out; have := HK3.out; omega⟩, ⟨by (with_reducible repeat (first | apply Kd.R_alloc | apply Kd.R_drewN | apply Kd.R_drew)); exact HO_122003.out⟩, ⟨by (with_reducible repeat (first | refine blk_drewN ?_ _ | refine blk_drew ?_ | refine blk_alloc ?_ _)); exact BK118.out⟩, ⟨by (with_reducible repeat (first | refine blk_drewN ?_ _ | refine blk_drew ?_ | refine blk_alloc ?_ _)); exact BK121.out⟩, ⟨by repeat (first | (with_reducible first | exact HB.out | apply below_alloc | apply pw_below_drewN | apply below_drew1 | refine below_set ?_ GE118.out | refine below_set ?_ GE121.out) | exact HB.out)⟩⟩
                          · replace c23 := Bool.eq_false_iff.mpr c23
                            subst c23
                            have H1 : (if (bt a0 x6_3) = 47 then (boltingref06_tag.l2 k3 a0 (wrap64 (x6_3 + 1)) x6_2 0 t120 (⟨#[]⟩ : ByteArray) x122003_2 x122004_2) else (boltingref06_tag.j4 k3 a0 x6_3 x6_2 0 t120 (⟨#[]⟩ : ByteArray) x122003_2 x122004_2)) = some (r1, r2, r3, r4, r5, r6) := by rw [if_neg (show ¬ (false = true) by decide)] at H; first | exact H | (simp only [eq_self] at H ⊢; exact H) | (simp only [eq_self, if_true] at H ⊢; exact H)
                            clear H
                            have H := H1
                            clear H1
                            by_cases c25 : (bt a0 x6_3) = 47
                            · rw [if_pos c25] at H
                              have c25b0 : ((bt a0 x6_3) == 47) = true := beq_iff_eq.mpr c25
                              have c25b1 : ((bt a0 x6_3) != 47) = false := bne_eq_false_iff_eq.mpr c25
                              clear c25
                              have H' := Aside0.mk H
                              clear H
                              have p21 : 0 ≤ (x6_3 : Int) := (by first | exact of_decide_eq_true (by first | (with_reducible assumption) | assumption) | assumption | omega)
                              have q21 : x6_3 < (a0.size : Int) := (by first | exact of_decide_eq_true (by first | (with_reducible assumption) | assumption) | assumption | omega)
                              have hx21 := bt_at a0 x6_3
                              replace p21 := eq_true p21
                              replace q21 := eq_true q21
                              go_wp2_with (first | (go_at_call 85; (with_reducible refine (boltingref02_Space.calls (bt a0 x6_3) false _ A22.out).mono ?_); rintro e w' ⟨rfl, ⟨nd, rfl⟩⟩; have p24 : 0 ≤ (x6_3 : Int) := (by first | exact of_decide_eq_true (by first | (with_reducible assumption) | assumption) | assumption | omega); have q24 : x6_3 < (a0.size : Int) := (by first | exact of_decide_eq_true (by first | (with_reducible assumption) | assumption) | assumption | omega); have hx24 := bt_at a0 x6_3; replace p24 := eq_true p24; replace q24 := eq_true q24))
                              go_roundg k3
                              case measure => have := HJ2.out; have := HK2.out; have := HK3.out; omega
                              case rel => exact ⟨(wrap64 (x6_3 + 1)), (by first | rfl | (simp; done) | (simp [*]; done)), H', ⟨by have := HJ2.out; have := HK2.out; have := HK3.out; omega⟩, ⟨by (with_reducible repeat (first | apply Kd.R_alloc | apply Kd.R_drewN | apply Kd.R_drew)); exact HO_122003.out⟩, ⟨by (with_reducible repeat (first | refine blk_drewN ?_ _ | refine blk_drew ?_ | refine blk_alloc ?_ _)); exact BK118.out⟩, ⟨by (with_reducible repeat (first | refine blk_drewN ?_ _ | refine blk_drew ?_ | refine blk_alloc ?_ _)); exact BK121.out⟩, ⟨by repeat (first | (with_reducible first | exact HB.out | apply below_alloc | apply pw_below_drewN | apply below_drew1 | refine below_set ?_ GE118.out | refine below_set ?_ GE121.out) | exact HB.out)⟩⟩
                            · rw [if_neg c25] at H
                              have c25b0 : ((bt a0 x6_3) == 47) = false := beq_eq_false_iff_ne.mpr c25
                              have c25b1 : ((bt a0 x6_3) != 47) = true := bne_iff_ne.mpr c25
                              have H' := Aside0.mk H
                              clear H
                              have p21 : 0 ≤ (x6_3 : Int) := (by first | exact of_decide_eq_true (by first | (with_reducible assumption) | assumption) | assumption | omega)
                              have q21 : x6_3 < (a0.size : Int) := (by first | exact of_decide_eq_true (by first | (with_reducible assumption) | assumption) | assumption | omega)
                              have hx21 := bt_at a0 x6_3
                              replace p21 := eq_true p21
                              replace q21 := eq_true q21
                              go_wp2_with (first | (go_at_call 85; (with_reducible refine (boltingref02_Space.calls (bt a0 x6_3) false _ A22.out).mono ?_); rintro e w' ⟨rfl, ⟨nd, rfl⟩⟩; have p24 : 0 ≤ (x6_3 : Int) := (by first | exact of_decide_eq_true (by first | (with_reducible assumption) | assumption) | assumption | omega); have q24 : x6_3 < (a0.size : Int) := (by first | exact of_decide_eq_true (by first | (with_reducible assumption) | assumption) | assumption | omega); have hx24 := bt_at a0 x6_3; replace p24 := eq_true p24; replace q24 := eq_true q24))
                              go_meet
                              case rel => exact ⟨_, (x6_3), (by first | rfl | (simp; done) | (simp [*]; done)), H', ⟨by have := HJ2.out; have := HK2.out; have := HK3.out; first | omega | exact Nat.le_refl _⟩, ⟨by (with_reducible repeat (first | apply Kd.R_alloc | apply Kd.R_drewN | apply Kd.R_drew)); exact HO_122003.out⟩, ⟨by (with_reducible repeat (first | refine blk_drewN ?_ _ | refine blk_drew ?_ | refine blk_alloc ?_ _)); exact BK118.out⟩, ⟨by (with_reducible repeat (first | refine blk_drewN ?_ _ | refine blk_drew ?_ | refine blk_alloc ?_ _)); exact BK121.out⟩, ⟨by repeat (first | (with_reducible first | exact HB.out | apply below_alloc | apply pw_below_drewN | apply below_drew1 | refine below_set ?_ GE118.out | refine below_set ?_ GE121.out) | exact HB.out)⟩⟩
                        · rw [if_neg c20] at H
                          exact absurd H (by simp)
                      · rw [if_neg c19] at H
                        have c19b0 : decide (x6_3 < (a0.size : Int)) = false := decide_eq_false c19
                        clear c19
                        (first | rw [c19b0] | (simp only [i64_w, i32_w]; rw [c19b0]) | skip)
                        have H' := Aside0.mk H
                        clear H
                        go_wp2
                        go_meet
                        case rel => exact ⟨_, (x6_3), (by first | rfl | (simp; done) | (simp [*]; done)), H', ⟨by have := HJ2.out; have := HK2.out; have := HK3.out; first | omega | exact Nat.le_refl _⟩, ⟨by (with_reducible repeat (first | apply Kd.R_alloc | apply Kd.R_drewN | apply Kd.R_drew)); exact HO_122003.out⟩, ⟨by (with_reducible repeat (first | refine blk_drewN ?_ _ | refine blk_drew ?_ | refine blk_alloc ?_ _)); exact BK118.out⟩, ⟨by (with_reducible repeat (first | refine blk_drewN ?_ _ | refine blk_drew ?_ | refine blk_alloc ?_ _)); exact BK121.out⟩, ⟨by repeat (first | (with_reducible first | exact HB.out | apply below_alloc | apply pw_below_drewN | apply below_drew1 | refine below_set ?_ GE118.out | refine below_set ?_ GE121.out) | exact HB.out)⟩⟩
                case rest =>
                  clear HC18
                  try clear c1
                  try clear c2
                  try clear p2
                  try clear q2
                  try clear hx2
                  try clear c4
                  try clear c5
                  try clear c5b0
                  try clear c6
                  try clear c6b0
                  try clear p6
                  try clear p7
                  try clear q7
                  try clear hx7
                  try clear c8
                  try clear c9
                  try clear c10
                  try clear c10b0
                  try clear c10b1
                  try clear c11
                  try clear c11b0
                  try clear c11b1
                  try clear c12
                  try clear c12b0
                  try clear c12b1
                  try clear c16
                  try clear c19
                  try clear c19b0
                  try clear c20
                  try clear c20b0
                  try clear p21
                  try clear q21
                  try clear hx21
                  try clear c23
                  try clear p24
                  try clear q24
                  try clear hx24
                  try clear c25
                  try clear c25b0
                  try clear c25b1
                  try clear hcz17_0
                  try clear hcz17_1
                  try clear hcz17_2
                  try clear hcz17_3
                  try clear hcz17_4
                  try clear hfz17_0
                  try clear hfz17_1
                  try clear hfz17_2
                  try clear hfz17_3
                  try clear hfz17_4
                  try clear p2
                  try clear p21
                  try clear p24
                  try clear p6
                  try clear p7
                  try clear q21
                  try clear q24
                  try clear q7
                  obtain ⟨kq, x6_17, rfl, HA, HJ17, HO_122003, BK118, BK121, HB⟩ := hcut
                  cases kq with
                  | zero => exact absurd HA.out (by simp [boltingref06_tag.j4])
                  | succ kj17 =>
                    have H := HA.out
                    clear HA
                    simp only [boltingref06_tag.j4] at H
                    by_cases c26 : x6_17 ≥ (a0.size : Int)
                    · rw [if_pos c26] at H
                      have c26b0 : decide ((a0.size : Int) ≤ x6_17) = true := decide_eq_true c26
                      clear c26
                      simp only [Option.some.injEq, Prod.mk.injEq] at H
                      obtain ⟨rfl, rfl, rfl, rfl, rfl, rfl⟩ := H
                      have hnb27 := NB121_118.out
                      have hnc27 := NB118_121.out
                      have hcz28_0 : wc.cell? ⟨gb121, 0, none⟩ = some (.int .i64 0) := (blk_cell BK121.out 0).trans rfl
                      have hcz28_1 : wc.cell? ⟨gb121, 1, none⟩ = some (.string t120) := (blk_cell BK121.out 1).trans rfl
                      have hcz28_2 : wc.cell? ⟨gb121, 2, none⟩ = some (.string (⟨#[]⟩ : ByteArray)) := (blk_cell BK121.out 2).trans rfl
                      have hcz28_3 : wc.cell? ⟨gb121, 3, none⟩ = some (u122003) := (blk_cell BK121.out 3).trans rfl
                      have hcz28_4 : wc.cell? ⟨gb121, 4, none⟩ = some (.bool x122004_2) := (blk_cell BK121.out 4).trans rfl
                      have hfz28_0 := blk_frozen BK121.out 0
                      have hfz28_1 := blk_frozen BK121.out 1
                      have hfz28_2 := blk_frozen BK121.out 2
                      have hfz28_3 := blk_frozen BK121.out 3
                      have hfz28_4 := blk_frozen BK121.out 4
                      have hcz29_0 : wc.cell? ⟨gb118, 0, none⟩ = some (.int .i64 x119000_2) := (blk_cell BK118.out 0).trans rfl
                      have hcz29_1 : wc.cell? ⟨gb118, 1, none⟩ = some (.string x119001_2) := (blk_cell BK118.out 1).trans rfl
                      have hcz29_2 : wc.cell? ⟨gb118, 2, none⟩ = some (.string x119002_2) := (blk_cell BK118.out 2).trans rfl
                      have hcz29_3 : wc.cell? ⟨gb118, 3, none⟩ = some (.slice none 0 0) := (blk_cell BK118.out 3).trans rfl
                      have hcz29_4 : wc.cell? ⟨gb118, 4, none⟩ = some (.bool x119004_2) := (blk_cell BK118.out 4).trans rfl
                      have hfz29_0 := blk_frozen BK118.out 0
                      have hfz29_1 := blk_frozen BK118.out 1
                      have hfz29_2 := blk_frozen BK118.out 2
                      have hfz29_3 := blk_frozen BK118.out 3
                      have hfz29_4 := blk_frozen BK118.out 4
                      obtain ⟨Ao30, co30, eo30⟩ := Kd.R_slice HO_122003.out
                      subst eo30
                      go_wp2
                      refine bodyPost_ret (results_ct rfl _ _ gb118 59 #[.int .i64 0, .string t120, .string (⟨#[]⟩ : ByteArray), .slice Ao30 x122003_2.length co30, .bool x122004_2] (0, 0) _ rfl (by (with_reducible repeat (first | refine blk_drewN ?_ _ | refine blk_drew ?_ | refine blk_alloc ?_ _)); refine blk_put (cs := #[.int .i64 0, .string t120, .string (⟨#[]⟩ : ByteArray), .slice Ao30 x122003_2.length co30, .bool x119004_2]) ?_ 4 _ rfl; (with_reducible repeat (first | refine blk_drewN ?_ _ | refine blk_drew ?_ | refine blk_alloc ?_ _)); refine blk_put (cs := #[.int .i64 0, .string t120, .string (⟨#[]⟩ : ByteArray), .slice none 0 0, .bool x119004_2]) ?_ 3 _ rfl; (with_reducible repeat (first | refine blk_drewN ?_ _ | refine blk_drew ?_ | refine blk_alloc ?_ _)); refine blk_put (cs := #[.int .i64 0, .string t120, .string x119002_2, .slice none 0 0, .bool x119004_2]) ?_ 2 _ rfl; (with_reducible repeat (first | refine blk_drewN ?_ _ | refine blk_drew ?_ | refine blk_alloc ?_ _)); refine blk_put (cs := #[.int .i64 0, .string x119001_2, .string x119002_2, .slice none 0 0, .bool x119004_2]) ?_ 1 _ rfl; (with_reducible repeat (first | refine blk_drewN ?_ _ | refine blk_drew ?_ | refine blk_alloc ?_ _)); refine blk_put (cs := #[.int .i64 x119000_2, .string x119001_2, .string x119002_2, .slice none 0 0, .bool x119004_2]) ?_ 0 _ rfl; (with_reducible repeat (first | refine blk_drewN ?_ _ | refine blk_drew ?_ | refine blk_alloc ?_ _)); exact BK118.out) Tryz.underlying59 rfl (by kernel_rfl)) rfl ?_
                      exact ⟨_, by first | rfl | (simp [errW_none, errW_some] <;> rfl) | (simp [*, errW_none, errW_some] <;> rfl), by (with_reducible repeat (first | apply Kd.R_alloc | apply Kd.R_drewN | apply Kd.R_drew)); exact Kd.R_mono (Kd.R_far (p := ⟨gb118, 4, none⟩) (Kd.R_far (p := ⟨gb118, 3, none⟩) (Kd.R_far (p := ⟨gb118, 2, none⟩) (Kd.R_far (p := ⟨gb118, 1, none⟩) (Kd.R_far (p := ⟨gb118, 0, none⟩) (Kd.R_types HO_122003.out BK118.out (by decide)) (fun _ hk => hk.2) (.int .i64 0)) (fun _ hk => hk.2) (.string t120)) (fun _ hk => hk.2) (.string (⟨#[]⟩ : ByteArray))) (fun _ hk => hk.2) (.slice Ao30 x122003_2.length co30)) (fun _ hk => hk.2) (.bool x122004_2)) (fun _ hk => trivial), by repeat (first | (with_reducible first | exact HB.out | apply below_alloc | apply pw_below_drewN | apply below_drew1 | refine below_set ?_ GE118.out | refine below_set ?_ GE121.out) | exact HB.out)⟩
                    · rw [if_neg c26] at H
                      have c26b0 : decide ((a0.size : Int) ≤ x6_17) = false := decide_eq_false c26
                      clear c26
                      by_cases c31 : 0 ≤ x6_17
                      · rw [if_pos c31] at H
                        have c31b0 : decide (0 ≤ x6_17) = true := decide_eq_true c31
                        clear c31
                        by_cases c32 : x6_17 < (a0.size : Int)
                        · rw [if_pos c32] at H
                          have c32b0 : decide (x6_17 < (a0.size : Int)) = true := decide_eq_true c32
                          clear c32
                          by_cases c34 : (bt a0 x6_17) = 62
                          · rw [if_pos c34] at H
                            have c34b0 : ((bt a0 x6_17) == 62) = true := beq_iff_eq.mpr c34
                            have c34b1 : ((bt a0 x6_17) != 62) = false := bne_eq_false_iff_eq.mpr c34
                            clear c34
                            by_cases c35 : x6_17 > x6_2
                            · rw [if_pos c35] at H
                              have c35b0 : decide (x6_2 < x6_17) = true := decide_eq_true c35
                              clear c35
                              obtain ⟨ji36, hji36⟩ : ∃ j_ : Int, (wrap64 (x6_17 - 1)) = j_ := ⟨_, rfl⟩
                              replace H : (if 0 ≤ (ji36) then (if (ji36) < (a0.size : Int) then (some (0, t120, (⟨#[]⟩ : ByteArray), x122003_2, ((bt a0 (ji36)) == 47), wrap64 (x6_17 + 1))) else (none)) else (none)) = some (r1, r2, r3, r4, r5, r6) := by first | (rw [hji36] at H; exact H) | (simp only [hji36] at H ⊢; exact H)
                              have hji36w : (IntKind.i64.wrap (x6_17 - 1)) = ji36 := (i64_w _).trans hji36
                              by_cases c37 : 0 ≤ (ji36)
                              · rw [if_pos c37] at H
                                have c37b0 : decide (0 ≤ (ji36)) = true := decide_eq_true c37
                                clear c37
                                by_cases c38 : (ji36) < (a0.size : Int)
                                · rw [if_pos c38] at H
                                  have c38b0 : decide ((ji36) < (a0.size : Int)) = true := decide_eq_true c38
                                  clear c38
                                  simp only [Option.some.injEq, Prod.mk.injEq] at H
                                  obtain ⟨rfl, rfl, rfl, rfl, rfl, rfl⟩ := H
                                  have p33 : 0 ≤ (x6_17 : Int) := (by first | exact of_decide_eq_true (by first | (with_reducible assumption) | assumption) | assumption | omega)
                                  have q33 : x6_17 < (a0.size : Int) := (by first | exact of_decide_eq_true (by first | (with_reducible assumption) | assumption) | assumption | omega)
                                  have hx33 := bt_at a0 x6_17
                                  replace p33 := eq_true p33
                                  replace q33 := eq_true q33
                                  have p39 : 0 ≤ ((ji36) : Int) := (by first | exact of_decide_eq_true (by first | (with_reducible assumption) | assumption) | assumption | omega)
                                  have q39 : (ji36) < (a0.size : Int) := (by first | exact of_decide_eq_true (by first | (with_reducible assumption) | assumption) | assumption | omega)
                                  have hx39 := bt_at a0 (ji36)
                                  replace p39 := eq_true p39
                                  replace q39 := eq_true q39
                                  have hnb40 := NB121_118.out
                                  have hnc40 := NB118_121.out
                                  have hcz41_0 : wc.cell? ⟨gb121, 0, none⟩ = some (.int .i64 0) := (blk_cell BK121.out 0).trans rfl
                                  have hcz41_1 : wc.cell? ⟨gb121, 1, none⟩ = some (.string t120) := (blk_cell BK121.out 1).trans rfl
                                  have hcz41_2 : wc.cell? ⟨gb121, 2, none⟩ = some (.string (⟨#[]⟩ : ByteArray)) := (blk_cell BK121.out 2).trans rfl
                                  have hcz41_3 : wc.cell? ⟨gb121, 3, none⟩ = some (u122003) := (blk_cell BK121.out 3).trans rfl
                                  have hcz41_4 : wc.cell? ⟨gb121, 4, none⟩ = some (.bool x122004_2) := (blk_cell BK121.out 4).trans rfl
                                  have hfz41_0 := blk_frozen BK121.out 0
                                  have hfz41_1 := blk_frozen BK121.out 1
                                  have hfz41_2 := blk_frozen BK121.out 2
                                  have hfz41_3 := blk_frozen BK121.out 3
                                  have hfz41_4 := blk_frozen BK121.out 4
                                  have hcz42_0 : wc.cell? ⟨gb118, 0, none⟩ = some (.int .i64 x119000_2) := (blk_cell BK118.out 0).trans rfl
                                  have hcz42_1 : wc.cell? ⟨gb118, 1, none⟩ = some (.string x119001_2) := (blk_cell BK118.out 1).trans rfl
                                  have hcz42_2 : wc.cell? ⟨gb118, 2, none⟩ = some (.string x119002_2) := (blk_cell BK118.out 2).trans rfl
                                  have hcz42_3 : wc.cell? ⟨gb118, 3, none⟩ = some (.slice none 0 0) := (blk_cell BK118.out 3).trans rfl
                                  have hcz42_4 : wc.cell? ⟨gb118, 4, none⟩ = some (.bool x119004_2) := (blk_cell BK118.out 4).trans rfl
                                  have hfz42_0 := blk_frozen BK118.out 0
                                  have hfz42_1 := blk_frozen BK118.out 1
                                  have hfz42_2 := blk_frozen BK118.out 2
                                  have hfz42_3 := blk_frozen BK118.out 3
                                  have hfz42_4 := blk_frozen BK118.out 4
                                  obtain ⟨Ao43, co43, eo43⟩ := Kd.R_slice HO_122003.out
                                  subst eo43
                                  go_wp2
                                  refine bodyPost_ret (results_ct rfl _ _ gb118 59 #[.int .i64 0, .string t120, .string (⟨#[]⟩ : ByteArray), .slice Ao43 x122003_2.length co43, .bool ((bt a0 (ji36)) == 47)] (0, 0) _ rfl (by (with_reducible repeat (first | refine blk_drewN ?_ _ | refine blk_drew ?_ | refine blk_alloc ?_ _)); refine blk_put (cs := #[.int .i64 0, .string t120, .string (⟨#[]⟩ : ByteArray), .slice Ao43 x122003_2.length co43, .bool x119004_2]) ?_ 4 _ rfl; (with_reducible repeat (first | refine blk_drewN ?_ _ | refine blk_drew ?_ | refine blk_alloc ?_ _)); refine blk_put (cs := #[.int .i64 0, .string t120, .string (⟨#[]⟩ : ByteArray), .slice none 0 0, .bool x119004_2]) ?_ 3 _ rfl; (with_reducible repeat (first | refine blk_drewN ?_ _ | refine blk_drew ?_ | refine blk_alloc ?_ _)); refine blk_put (cs := #[.int .i64 0, .string t120, .string x119002_2, .slice none 0 0, .bool x119004_2]) ?_ 2 _ rfl; (with_reducible repeat (first | refine blk_drewN ?_ _ | refine blk_drew ?_ | refine blk_alloc ?_ _)); refine blk_put (cs := #[.int .i64 0, .string x119001_2, .string x119002_2, .slice none 0 0, .bool x119004_2]) ?_ 1 _ rfl; (with_reducible repeat (first | refine blk_drewN ?_ _ | refine blk_drew ?_ | refine blk_alloc ?_ _)); refine blk_put (cs := #[.int .i64 x119000_2, .string x119001_2, .string x119002_2, .slice none 0 0, .bool x119004_2]) ?_ 0 _ rfl; (with_reducible repeat (first | refine blk_drewN ?_ _ | refine blk_drew ?_ | refine blk_alloc ?_ _)); refine blk_far ?_ NB118_121.out _; (with_reducible repeat (first | refine blk_drewN ?_ _ | refine blk_drew ?_ | refine blk_alloc ?_ _)); exact BK118.out) Tryz.underlying59 rfl (by kernel_rfl)) rfl ?_
                                  exact ⟨_, by first | rfl | (simp [errW_none, errW_some] <;> rfl) | (simp only [← hji36]; first | rfl | (simp [errW_none, errW_some] <;> rfl)) | (simp [*, errW_none, errW_some] <;> rfl), by (with_reducible repeat (first | apply Kd.R_alloc | apply Kd.R_drewN | apply Kd.R_drew)); exact Kd.R_mono (Kd.R_far (p := ⟨gb118, 4, none⟩) (Kd.R_far (p := ⟨gb118, 3, none⟩) (Kd.R_far (p := ⟨gb118, 2, none⟩) (Kd.R_far (p := ⟨gb118, 1, none⟩) (Kd.R_far (p := ⟨gb118, 0, none⟩) (Kd.R_far (p := ⟨gb121, 4, none⟩) (Kd.R_types (Kd.R_types HO_122003.out BK121.out (by decide)) BK118.out (by decide)) (fun _ hk => hk.1.2) (.bool ((bt a0 (ji36)) == 47))) (fun _ hk => hk.2) (.int .i64 0)) (fun _ hk => hk.2) (.string t120)) (fun _ hk => hk.2) (.string (⟨#[]⟩ : ByteArray))) (fun _ hk => hk.2) (.slice Ao43 x122003_2.length co43)) (fun _ hk => hk.2) (.bool ((bt a0 (ji36)) == 47))) (fun _ hk => trivial), by repeat (first | (with_reducible first | exact HB.out | apply below_alloc | apply pw_below_drewN | apply below_drew1 | refine below_set ?_ GE118.out | refine below_set ?_ GE121.out) | exact HB.out)⟩
                                · rw [if_neg c38] at H
                                  exact absurd H (by simp)
                              · rw [if_neg c37] at H
                                exact absurd H (by simp)
                            · rw [if_neg c35] at H
                              have c35b0 : decide (x6_2 < x6_17) = false := decide_eq_false c35
                              clear c35
                              simp only [Option.some.injEq, Prod.mk.injEq] at H
                              obtain ⟨rfl, rfl, rfl, rfl, rfl, rfl⟩ := H
                              have p33 : 0 ≤ (x6_17 : Int) := (by first | exact of_decide_eq_true (by first | (with_reducible assumption) | assumption) | assumption | omega)
                              have q33 : x6_17 < (a0.size : Int) := (by first | exact of_decide_eq_true (by first | (with_reducible assumption) | assumption) | assumption | omega)
                              have hx33 := bt_at a0 x6_17
                              replace p33 := eq_true p33
                              replace q33 := eq_true q33
                              have hnb44 := NB121_118.out
                              have hnc44 := NB118_121.out
                              have hcz45_0 : wc.cell? ⟨gb121, 0, none⟩ = some (.int .i64 0) := (blk_cell BK121.out 0).trans rfl
                              have hcz45_1 : wc.cell? ⟨gb121, 1, none⟩ = some (.string t120) := (blk_cell BK121.out 1).trans rfl
                              have hcz45_2 : wc.cell? ⟨gb121, 2, none⟩ = some (.string (⟨#[]⟩ : ByteArray)) := (blk_cell BK121.out 2).trans rfl
                              have hcz45_3 : wc.cell? ⟨gb121, 3, none⟩ = some (u122003) := (blk_cell BK121.out 3).trans rfl
                              have hcz45_4 : wc.cell? ⟨gb121, 4, none⟩ = some (.bool x122004_2) := (blk_cell BK121.out 4).trans rfl
                              have hfz45_0 := blk_frozen BK121.out 0
                              have hfz45_1 := blk_frozen BK121.out 1
                              have hfz45_2 := blk_frozen BK121.out 2
                              have hfz45_3 := blk_frozen BK121.out 3
                              have hfz45_4 := blk_frozen BK121.out 4
                              have hcz46_0 : wc.cell? ⟨gb118, 0, none⟩ = some (.int .i64 x119000_2) := (blk_cell BK118.out 0).trans rfl
                              have hcz46_1 : wc.cell? ⟨gb118, 1, none⟩ = some (.string x119001_2) := (blk_cell BK118.out 1).trans rfl
                              have hcz46_2 : wc.cell? ⟨gb118, 2, none⟩ = some (.string x119002_2) := (blk_cell BK118.out 2).trans rfl
                              have hcz46_3 : wc.cell? ⟨gb118, 3, none⟩ = some (.slice none 0 0) := (blk_cell BK118.out 3).trans rfl
                              have hcz46_4 : wc.cell? ⟨gb118, 4, none⟩ = some (.bool x119004_2) := (blk_cell BK118.out 4).trans rfl
                              have hfz46_0 := blk_frozen BK118.out 0
                              have hfz46_1 := blk_frozen BK118.out 1
                              have hfz46_2 := blk_frozen BK118.out 2
                              have hfz46_3 := blk_frozen BK118.out 3
                              have hfz46_4 := blk_frozen BK118.out 4
                              obtain ⟨Ao47, co47, eo47⟩ := Kd.R_slice HO_122003.out
                              subst eo47
                              go_wp2
                              refine bodyPost_ret (results_ct rfl _ _ gb118 59 #[.int .i64 0, .string t120, .string (⟨#[]⟩ : ByteArray), .slice Ao47 x122003_2.length co47, .bool false] (0, 0) _ rfl (by (with_reducible repeat (first | refine blk_drewN ?_ _ | refine blk_drew ?_ | refine blk_alloc ?_ _)); refine blk_put (cs := #[.int .i64 0, .string t120, .string (⟨#[]⟩ : ByteArray), .slice Ao47 x122003_2.length co47, .bool x119004_2]) ?_ 4 _ rfl; (with_reducible repeat (first | refine blk_drewN ?_ _ | refine blk_drew ?_ | refine blk_alloc ?_ _)); refine blk_put (cs := #[.int .i64 0, .string t120, .string (⟨#[]⟩ : ByteArray), .slice none 0 0, .bool x119004_2]) ?_ 3 _ rfl; (with_reducible repeat (first | refine blk_drewN ?_ _ | refine blk_drew ?_ | refine blk_alloc ?_ _)); refine blk_put (cs := #[.int .i64 0, .string t120, .string x119002_2, .slice none 0 0, .bool x119004_2]) ?_ 2 _ rfl; (with_reducible repeat (first | refine blk_drewN ?_ _ | refine blk_drew ?_ | refine blk_alloc ?_ _)); refine blk_put (cs := #[.int .i64 0, .string x119001_2, .string x119002_2, .slice none 0 0, .bool x119004_2]) ?_ 1 _ rfl; (with_reducible repeat (first | refine blk_drewN ?_ _ | refine blk_drew ?_ | refine blk_alloc ?_ _)); refine blk_put (cs := #[.int .i64 x119000_2, .string x119001_2, .string x119002_2, .slice none 0 0, .bool x119004_2]) ?_ 0 _ rfl; (with_reducible repeat (first | refine blk_drewN ?_ _ | refine blk_drew ?_ | refine blk_alloc ?_ _)); refine blk_far ?_ NB118_121.out _; (with_reducible repeat (first | refine blk_drewN ?_ _ | refine blk_drew ?_ | refine blk_alloc ?_ _)); exact BK118.out) Tryz.underlying59 rfl (by kernel_rfl)) rfl ?_
                              exact ⟨_, by first | rfl | (simp [errW_none, errW_some] <;> rfl) | (simp [*, errW_none, errW_some] <;> rfl), by (with_reducible repeat (first | apply Kd.R_alloc | apply Kd.R_drewN | apply Kd.R_drew)); exact Kd.R_mono (Kd.R_far (p := ⟨gb118, 4, none⟩) (Kd.R_far (p := ⟨gb118, 3, none⟩) (Kd.R_far (p := ⟨gb118, 2, none⟩) (Kd.R_far (p := ⟨gb118, 1, none⟩) (Kd.R_far (p := ⟨gb118, 0, none⟩) (Kd.R_far (p := ⟨gb121, 4, none⟩) (Kd.R_types (Kd.R_types HO_122003.out BK121.out (by decide)) BK118.out (by decide)) (fun _ hk => hk.1.2) (.bool false)) (fun _ hk => hk.2) (.int .i64 0)) (fun _ hk => hk.2) (.string t120)) (fun _ hk => hk.2) (.string (⟨#[]⟩ : ByteArray))) (fun _ hk => hk.2) (.slice Ao47 x122003_2.length co47)) (fun _ hk => hk.2) (.bool false)) (fun _ hk => trivial), by repeat (first | (with_reducible first | exact HB.out | apply below_alloc | apply pw_below_drewN | apply below_drew1 | refine below_set ?_ GE118.out | refine below_set ?_ GE121.out) | exact HB.out)⟩
                          · rw [if_neg c34] at H
                            have c34b0 : ((bt a0 x6_17) == 62) = false := beq_eq_false_iff_ne.mpr c34
                            have c34b1 : ((bt a0 x6_17) != 62) = true := bne_iff_ne.mpr c34
                            replace H := Option.bind_eq_some_iff.mp H
                            obtain ⟨⟨t123, t124, t125⟩, A480, H⟩ := H
                            replace H : (if t125 > (a0.size : Int) then (some (0, t120, (⟨#[]⟩ : ByteArray), x122003_2, x122004_2, t125)) else ((boltingref06_known.f kj17 x122003_2 t123).bind fun t127 => (if t127 = true then (boltingref06_tag.l1 kj17 a0 t125 0 t120 (⟨#[]⟩ : ByteArray) x122003_2 x122004_2) else (if x122003_2.length < 4398046511104 then (boltingref06_tag.l1 kj17 a0 t125 0 t120 (⟨#[]⟩ : ByteArray) (x122003_2 ++ [(⟨t123, t124⟩ : S40)]) x122004_2) else (none))))) = some (r1, r2, r3, r4, r5, r6) := H
                            have A48 := Aside0.mk A480
                            clear A480
                            by_cases c49 : t125 > (a0.size : Int)
                            · rw [if_pos c49] at H
                              have c49b0 : decide ((a0.size : Int) < t125) = true := decide_eq_true c49
                              clear c49
                              simp only [Option.some.injEq, Prod.mk.injEq] at H
                              obtain ⟨rfl, rfl, rfl, rfl, rfl, rfl⟩ := H
                              have p33 : 0 ≤ (x6_17 : Int) := (by first | exact of_decide_eq_true (by first | (with_reducible assumption) | assumption) | assumption | omega)
                              have q33 : x6_17 < (a0.size : Int) := (by first | exact of_decide_eq_true (by first | (with_reducible assumption) | assumption) | assumption | omega)
                              have hx33 := bt_at a0 x6_17
                              replace p33 := eq_true p33
                              replace q33 := eq_true q33
                              go_wp2_with (first | ((with_reducible refine gate_callee (f := 86) rfl ?_); refine goesL_ (some 79) rfl rfl Tryz.func86 (by kernel_rfl) rfl #[.string a0, .int .i64 x6_17] rfl (by (try simp only [List.map_toArray, List.map_cons, List.map_nil]); first | done | rfl | (simp only [List.length_drop, List.length_take]; rfl)) ?_; (with_reducible refine (boltingref06_attr.calls kj17 a0 x6_17 t123 t124 t125 _ A48.out).mono ?_); rintro e w50 ⟨rfl, hb⟩; refine ⟨_, rfl, ?_⟩; have n0_ := Aside0.mk (Kd.R_below (by (with_reducible repeat (first | apply Kd.R_alloc | apply Kd.R_drewN | apply Kd.R_drew)); exact HO_122003.out) hb); have n1_ := Aside0.mk (blk_below (g := gb118) (o := .cells #[.int .i64 x119000_2, .string x119001_2, .string x119002_2, .slice none 0 0, .bool x119004_2] 59 (0, 0)) (by (with_reducible repeat (first | refine blk_drewN ?_ _ | refine blk_drew ?_ | refine blk_alloc ?_ _)); exact BK118.out) hb); have n2_ := Aside0.mk (blk_below (g := gb121) (o := .cells #[.int .i64 0, .string t120, .string (⟨#[]⟩ : ByteArray), u122003, .bool x122004_2] 59 (0, 0)) (by (with_reducible repeat (first | refine blk_drewN ?_ _ | refine blk_drew ?_ | refine blk_alloc ?_ _)); exact BK121.out) hb); have n3_ := Aside0.mk (below_step (by repeat (first | (with_reducible first | exact HB.out | apply below_alloc | apply pw_below_drewN | apply below_drew1 | refine below_set ?_ GE118.out | refine below_set ?_ GE121.out) | exact HB.out)) hb); clear HO_122003; clear BK118; clear BK121; clear HB; have HO_122003 := n0_; have BK118 := n1_; have BK121 := n2_; have HB := n3_; clear n0_ n1_ n2_ n3_; (try clear hb); (try clear hb2); (try clear hk); (try clear hi)) | ((with_reducible refine gate_dst (N := 9) rfl ?_); refine box_event ?hg (N := 9) ?hd (cs := #[.string (⟨#[]⟩ : ByteArray), .string (⟨#[]⟩ : ByteArray)]) (t := 40) ?hr ?_; (case hd => rfl); (case hg => rfl); (case hr => first | (go_simp; done) | (go_simp; rfl)); intro gb126 hg w51 hbox hb; have n0_ := Aside0.mk (Kd.R_below (Kd.R_elderB (by (with_reducible repeat (first | apply Kd.R_alloc | apply Kd.R_drewN | apply Kd.R_drew)); exact HO_122003.out) gb126 (Nat.le_of_eq hg.symm)) hb); have n1_ := Aside0.mk (blk_below (g := gb118) (o := .cells #[.int .i64 x119000_2, .string x119001_2, .string x119002_2, .slice none 0 0, .bool x119004_2] 59 (0, 0)) (by (with_reducible repeat (first | refine blk_drewN ?_ _ | refine blk_drew ?_ | refine blk_alloc ?_ _)); exact BK118.out) hb); have n2_ := Aside0.mk (blk_below (g := gb121) (o := .cells #[.int .i64 0, .string t120, .string (⟨#[]⟩ : ByteArray), u122003, .bool x122004_2] 59 (0, 0)) (by (with_reducible repeat (first | refine blk_drewN ?_ _ | refine blk_drew ?_ | refine blk_alloc ?_ _)); exact BK121.out) hb); have n3_ := Aside0.mk (below_step (by repeat (first | (with_reducible first | exact HB.out | apply below_alloc | apply pw_below_drewN | apply below_drew1 | refine below_set ?_ GE118.out | refine below_set ?_ GE121.out) | exact HB.out)) hb); have n4_ := Aside0.mk (hbox); have n5_ := Aside0.mk ((by rw [hg]; exact (below_size (by repeat (first | (with_reducible first | exact HB.out | apply below_alloc | apply pw_below_drewN | apply below_drew1 | refine below_set ?_ GE118.out | refine below_set ?_ GE121.out) | exact HB.out))) : w.heap.size ≤ gb126)); have n6_ := Aside0.mk ((by rw [hg]; exact (below_size (by repeat (first | (with_reducible first | exact HB.out | apply below_alloc | apply pw_below_drewN | apply below_drew1 | refine below_set ?_ GE118.out | refine below_set ?_ GE121.out) | exact HB.out))) : w.heap.size ≤ gb126)); have n7_ := Aside0.mk ((by rw [hg]; exact Nat.ne_of_lt (blk_lt (g := gb118) (o := .cells #[.int .i64 x119000_2, .string x119001_2, .string x119002_2, .slice none 0 0, .bool x119004_2] 59 (0, 0)) (by (with_reducible repeat (first | refine blk_drewN ?_ _ | refine blk_drew ?_ | refine blk_alloc ?_ _)); exact BK118.out)) : gb118 ≠ gb126)); have n8_ := Aside0.mk ((by rw [hg]; exact Nat.ne_of_gt (blk_lt (g := gb118) (o := .cells #[.int .i64 x119000_2, .string x119001_2, .string x119002_2, .slice none 0 0, .bool x119004_2] 59 (0, 0)) (by (with_reducible repeat (first | refine blk_drewN ?_ _ | refine blk_drew ?_ | refine blk_alloc ?_ _)); exact BK118.out)) : gb126 ≠ gb118)); have n9_ := Aside0.mk ((by rw [hg]; exact Nat.ne_of_lt (blk_lt (g := gb121) (o := .cells #[.int .i64 0, .string t120, .string (⟨#[]⟩ : ByteArray), u122003, .bool x122004_2] 59 (0, 0)) (by (with_reducible repeat (first | refine blk_drewN ?_ _ | refine blk_drew ?_ | refine blk_alloc ?_ _)); exact BK121.out)) : gb121 ≠ gb126)); have n10_ := Aside0.mk ((by rw [hg]; exact Nat.ne_of_gt (blk_lt (g := gb121) (o := .cells #[.int .i64 0, .string t120, .string (⟨#[]⟩ : ByteArray), u122003, .bool x122004_2] 59 (0, 0)) (by (with_reducible repeat (first | refine blk_drewN ?_ _ | refine blk_drew ?_ | refine blk_alloc ?_ _)); exact BK121.out)) : gb126 ≠ gb121)); clear HO_122003; clear BK118; clear BK121; clear HB; have HO_122003 := n0_; have BK118 := n1_; have BK121 := n2_; have HB := n3_; have BK126 := n4_; have GW126 := n5_; have GE126 := n6_; have NB118_126 := n7_; have NB126_118 := n8_; have NB121_126 := n9_; have NB126_121 := n10_; clear n0_ n1_ n2_ n3_ n4_ n5_ n6_ n7_ n8_ n9_ n10_; clear hb hbox hg; have hnb52 := NB126_118.out; have hnc52 := NB118_126.out; have hnb53 := NB126_121.out; have hnc53 := NB121_126.out; have hcz54_0 : w51.cell? ⟨gb126, 0, none⟩ = some (.string (⟨#[]⟩ : ByteArray)) := (blk_cell BK126.out 0).trans rfl; have hcz54_1 : w51.cell? ⟨gb126, 1, none⟩ = some (.string (⟨#[]⟩ : ByteArray)) := (blk_cell BK126.out 1).trans rfl; have hfz54_0 := blk_frozen BK126.out 0; have hfz54_1 := blk_frozen BK126.out 1; have hnb55 := NB121_118.out; have hnc55 := NB118_121.out; have hcz56_0 : w51.cell? ⟨gb121, 0, none⟩ = some (.int .i64 0) := (blk_cell BK121.out 0).trans rfl; have hcz56_1 : w51.cell? ⟨gb121, 1, none⟩ = some (.string t120) := (blk_cell BK121.out 1).trans rfl; have hcz56_2 : w51.cell? ⟨gb121, 2, none⟩ = some (.string (⟨#[]⟩ : ByteArray)) := (blk_cell BK121.out 2).trans rfl; have hcz56_3 : w51.cell? ⟨gb121, 3, none⟩ = some (u122003) := (blk_cell BK121.out 3).trans rfl; have hcz56_4 : w51.cell? ⟨gb121, 4, none⟩ = some (.bool x122004_2) := (blk_cell BK121.out 4).trans rfl; have hfz56_0 := blk_frozen BK121.out 0; have hfz56_1 := blk_frozen BK121.out 1; have hfz56_2 := blk_frozen BK121.out 2; have hfz56_3 := blk_frozen BK121.out 3; have hfz56_4 := blk_frozen BK121.out 4; have hcz57_0 : w51.cell? ⟨gb118, 0, none⟩ = some (.int .i64 x119000_2) := (blk_cell BK118.out 0).trans rfl; have hcz57_1 : w51.cell? ⟨gb118, 1, none⟩ = some (.string x119001_2) := (blk_cell BK118.out 1).trans rfl; have hcz57_2 : w51.cell? ⟨gb118, 2, none⟩ = some (.string x119002_2) := (blk_cell BK118.out 2).trans rfl; have hcz57_3 : w51.cell? ⟨gb118, 3, none⟩ = some (.slice none 0 0) := (blk_cell BK118.out 3).trans rfl; have hcz57_4 : w51.cell? ⟨gb118, 4, none⟩ = some (.bool x119004_2) := (blk_cell BK118.out 4).trans rfl; have hfz57_0 := blk_frozen BK118.out 0; have hfz57_1 := blk_frozen BK118.out 1; have hfz57_2 := blk_frozen BK118.out 2; have hfz57_3 := blk_frozen BK118.out 3; have hfz57_4 := blk_frozen BK118.out 4; obtain ⟨Ao58, co58, eo58⟩ := Kd.R_slice HO_122003.out; subst eo58))
                              refine bodyPost_ret (results_ct rfl _ _ gb118 59 #[.int .i64 0, .string t120, .string (⟨#[]⟩ : ByteArray), .slice Ao58 x122003_2.length co58, .bool x122004_2] (0, 0) _ rfl (by (with_reducible repeat (first | refine blk_drewN ?_ _ | refine blk_drew ?_ | refine blk_alloc ?_ _)); refine blk_put (cs := #[.int .i64 0, .string t120, .string (⟨#[]⟩ : ByteArray), .slice Ao58 x122003_2.length co58, .bool x119004_2]) ?_ 4 _ rfl; (with_reducible repeat (first | refine blk_drewN ?_ _ | refine blk_drew ?_ | refine blk_alloc ?_ _)); refine blk_put (cs := #[.int .i64 0, .string t120, .string (⟨#[]⟩ : ByteArray), .slice none 0 0, .bool x119004_2]) ?_ 3 _ rfl; (with_reducible repeat (first | refine blk_drewN ?_ _ | refine blk_drew ?_ | refine blk_alloc ?_ _)); refine blk_put (cs := #[.int .i64 0, .string t120, .string x119002_2, .slice none 0 0, .bool x119004_2]) ?_ 2 _ rfl; (with_reducible repeat (first | refine blk_drewN ?_ _ | refine blk_drew ?_ | refine blk_alloc ?_ _)); refine blk_put (cs := #[.int .i64 0, .string x119001_2, .string x119002_2, .slice none 0 0, .bool x119004_2]) ?_ 1 _ rfl; (with_reducible repeat (first | refine blk_drewN ?_ _ | refine blk_drew ?_ | refine blk_alloc ?_ _)); refine blk_put (cs := #[.int .i64 x119000_2, .string x119001_2, .string x119002_2, .slice none 0 0, .bool x119004_2]) ?_ 0 _ rfl; (with_reducible repeat (first | refine blk_drewN ?_ _ | refine blk_drew ?_ | refine blk_alloc ?_ _)); refine blk_far ?_ NB118_126.out _; (with_reducible repeat (first | refine blk_drewN ?_ _ | refine blk_drew ?_ | refine blk_alloc ?_ _)); refine blk_far ?_ NB118_126.out _; (with_reducible repeat (first | refine blk_drewN ?_ _ | refine blk_drew ?_ | refine blk_alloc ?_ _)); exact BK118.out) Tryz.underlying59 rfl (by kernel_rfl)) rfl ?_
                              exact ⟨_, by first | rfl | (simp [errW_none, errW_some] <;> rfl) | (simp [*, errW_none, errW_some] <;> rfl), by (with_reducible repeat (first | apply Kd.R_alloc | apply Kd.R_drewN | apply Kd.R_drew)); exact Kd.R_mono (Kd.R_far (p := ⟨gb118, 4, none⟩) (Kd.R_far (p := ⟨gb118, 3, none⟩) (Kd.R_far (p := ⟨gb118, 2, none⟩) (Kd.R_far (p := ⟨gb118, 1, none⟩) (Kd.R_far (p := ⟨gb118, 0, none⟩) (Kd.R_far (p := ⟨gb126, 1, none⟩) (Kd.R_far (p := ⟨gb126, 0, none⟩) (Kd.R_types (Kd.R_mono HO_122003.out (fun k_ hk => (⟨hk, hk.2⟩ : _ ∧ k_ ≠ gb126))) BK118.out (by decide)) (fun _ hk => hk.1.2) (.string t123)) (fun _ hk => hk.1.2) (.string t124)) (fun _ hk => hk.2) (.int .i64 0)) (fun _ hk => hk.2) (.string t120)) (fun _ hk => hk.2) (.string (⟨#[]⟩ : ByteArray))) (fun _ hk => hk.2) (.slice Ao58 x122003_2.length co58)) (fun _ hk => hk.2) (.bool x122004_2)) (fun _ hk => trivial), by repeat (first | (with_reducible first | exact HB.out | apply below_alloc | apply pw_below_drewN | apply below_drew1 | refine below_set ?_ GE118.out | refine below_set ?_ GE121.out | refine below_set ?_ GE126.out) | exact HB.out)⟩
                            · rw [if_neg c49] at H
                              have c49b0 : decide ((a0.size : Int) < t125) = false := decide_eq_false c49
                              clear c49
                              replace H := Option.bind_eq_some_iff.mp H
                              obtain ⟨t127, A590, H⟩ := H
                              replace H : (if t127 = true then (boltingref06_tag.l1 kj17 a0 t125 0 t120 (⟨#[]⟩ : ByteArray) x122003_2 x122004_2) else (if x122003_2.length < 4398046511104 then (boltingref06_tag.l1 kj17 a0 t125 0 t120 (⟨#[]⟩ : ByteArray) (x122003_2 ++ [(⟨t123, t124⟩ : S40)]) x122004_2) else (none))) = some (r1, r2, r3, r4, r5, r6) := H
                              have A59 := Aside0.mk A590
                              clear A590
                              by_cases c60 : t127 = true
                              · subst c60
                                have H1 : (boltingref06_tag.l1 kj17 a0 t125 0 t120 (⟨#[]⟩ : ByteArray) x122003_2 x122004_2) = some (r1, r2, r3, r4, r5, r6) := by rw [if_pos rfl] at H; exact H
                                clear H
                                have H := H1
                                clear H1
                                have H' := Aside0.mk H
                                clear H
                                have p33 : 0 ≤ (x6_17 : Int) := (by first | exact of_decide_eq_true (by first | (with_reducible assumption) | assumption) | assumption | omega)
                                have q33 : x6_17 < (a0.size : Int) := (by first | exact of_decide_eq_true (by first | (with_reducible assumption) | assumption) | assumption | omega)
                                have hx33 := bt_at a0 x6_17
                                replace p33 := eq_true p33
                                replace q33 := eq_true q33
                                go_wp2_with (first | ((with_reducible refine gate_callee (f := 86) rfl ?_); refine goesL_ (some 79) rfl rfl Tryz.func86 (by kernel_rfl) rfl #[.string a0, .int .i64 x6_17] rfl (by (try simp only [List.map_toArray, List.map_cons, List.map_nil]); first | done | rfl | (simp only [List.length_drop, List.length_take]; rfl)) ?_; (with_reducible refine (boltingref06_attr.calls kj17 a0 x6_17 t123 t124 t125 _ A48.out).mono ?_); rintro e w61 ⟨rfl, hb⟩; refine ⟨_, rfl, ?_⟩; have n0_ := Aside0.mk (Kd.R_below (by (with_reducible repeat (first | apply Kd.R_alloc | apply Kd.R_drewN | apply Kd.R_drew)); exact HO_122003.out) hb); have n1_ := Aside0.mk (blk_below (g := gb118) (o := .cells #[.int .i64 x119000_2, .string x119001_2, .string x119002_2, .slice none 0 0, .bool x119004_2] 59 (0, 0)) (by (with_reducible repeat (first | refine blk_drewN ?_ _ | refine blk_drew ?_ | refine blk_alloc ?_ _)); exact BK118.out) hb); have n2_ := Aside0.mk (blk_below (g := gb121) (o := .cells #[.int .i64 0, .string t120, .string (⟨#[]⟩ : ByteArray), u122003, .bool x122004_2] 59 (0, 0)) (by (with_reducible repeat (first | refine blk_drewN ?_ _ | refine blk_drew ?_ | refine blk_alloc ?_ _)); exact BK121.out) hb); have n3_ := Aside0.mk (below_step (by repeat (first | (with_reducible first | exact HB.out | apply below_alloc | apply pw_below_drewN | apply below_drew1 | refine below_set ?_ GE118.out | refine below_set ?_ GE121.out) | exact HB.out)) hb); clear HO_122003; clear BK118; clear BK121; clear HB; have HO_122003 := n0_; have BK118 := n1_; have BK121 := n2_; have HB := n3_; clear n0_ n1_ n2_ n3_; (try clear hb); (try clear hb2); (try clear hk); (try clear hi)) | ((with_reducible refine gate_dst (N := 9) rfl ?_); refine box_event ?hg (N := 9) ?hd (cs := #[.string (⟨#[]⟩ : ByteArray), .string (⟨#[]⟩ : ByteArray)]) (t := 40) ?hr ?_; (case hd => rfl); (case hg => rfl); (case hr => first | (go_simp; done) | (go_simp; rfl)); intro gb126 hg w62 hbox hb; have n0_ := Aside0.mk (Kd.R_below (Kd.R_elderB (by (with_reducible repeat (first | apply Kd.R_alloc | apply Kd.R_drewN | apply Kd.R_drew)); exact HO_122003.out) gb126 (Nat.le_of_eq hg.symm)) hb); have n1_ := Aside0.mk (blk_below (g := gb118) (o := .cells #[.int .i64 x119000_2, .string x119001_2, .string x119002_2, .slice none 0 0, .bool x119004_2] 59 (0, 0)) (by (with_reducible repeat (first | refine blk_drewN ?_ _ | refine blk_drew ?_ | refine blk_alloc ?_ _)); exact BK118.out) hb); have n2_ := Aside0.mk (blk_below (g := gb121) (o := .cells #[.int .i64 0, .string t120, .string (⟨#[]⟩ : ByteArray), u122003, .bool x122004_2] 59 (0, 0)) (by (with_reducible repeat (first | refine blk_drewN ?_ _ | refine blk_drew ?_ | refine blk_alloc ?_ _)); exact BK121.out) hb); have n3_ := Aside0.mk (below_step (by repeat (first | (with_reducible first | exact HB.out | apply below_alloc | apply pw_below_drewN | apply below_drew1 | refine below_set ?_ GE118.out | refine below_set ?_ GE121.out) | exact HB.out)) hb); have n4_ := Aside0.mk (hbox); have n5_ := Aside0.mk ((by rw [hg]; exact (below_size (by repeat (first | (with_reducible first | exact HB.out | apply below_alloc | apply pw_below_drewN | apply below_drew1 | refine below_set ?_ GE118.out | refine below_set ?_ GE121.out) | exact HB.out))) : w.heap.size ≤ gb126)); have n6_ := Aside0.mk ((by rw [hg]; exact (below_size (by repeat (first | (with_reducible first | exact HB.out | apply below_alloc | apply pw_below_drewN | apply below_drew1 | refine below_set ?_ GE118.out | refine below_set ?_ GE121.out) | exact HB.out))) : w.heap.size ≤ gb126)); have n7_ := Aside0.mk ((by rw [hg]; exact Nat.ne_of_lt (blk_lt (g := gb118) (o := .cells #[.int .i64 x119000_2, .string x119001_2, .string x119002_2, .slice none 0 0, .bool x119004_2] 59 (0, 0)) (by (with_reducible repeat (first | refine blk_drewN ?_ _ | refine blk_drew ?_ | refine blk_alloc ?_ _)); exact BK118.out)) : gb118 ≠ gb126)); have n8_ := Aside0.mk ((by rw [hg]; exact Nat.ne_of_gt (blk_lt (g := gb118) (o := .cells #[.int .i64 x119000_2, .string x119001_2, .string x119002_2, .slice none 0 0, .bool x119004_2] 59 (0, 0)) (by (with_reducible repeat (first | refine blk_drewN ?_ _ | refine blk_drew ?_ | refine blk_alloc ?_ _)); exact BK118.out)) : gb126 ≠ gb118)); have n9_ := Aside0.mk ((by rw [hg]; exact Nat.ne_of_lt (blk_lt (g := gb121) (o := .cells #[.int .i64 0, .string t120, .string (⟨#[]⟩ : ByteArray), u122003, .bool x122004_2] 59 (0, 0)) (by (with_reducible repeat (first | refine blk_drewN ?_ _ | refine blk_drew ?_ | refine blk_alloc ?_ _)); exact BK121.out)) : gb121 ≠ gb126)); have n10_ := Aside0.mk ((by rw [hg]; exact Nat.ne_of_gt (blk_lt (g := gb121) (o := .cells #[.int .i64 0, .string t120, .string (⟨#[]⟩ : ByteArray), u122003, .bool x122004_2] 59 (0, 0)) (by (with_reducible repeat (first | refine blk_drewN ?_ _ | refine blk_drew ?_ | refine blk_alloc ?_ _)); exact BK121.out)) : gb126 ≠ gb121)); clear HO_122003; clear BK118; clear BK121; clear HB; have HO_122003 := n0_; have BK118 := n1_; have BK121 := n2_; have HB := n3_; have BK126 := n4_; have GW126 := n5_; have GE126 := n6_; have NB118_126 := n7_; have NB126_118 := n8_; have NB121_126 := n9_; have NB126_121 := n10_; clear n0_ n1_ n2_ n3_ n4_ n5_ n6_ n7_ n8_ n9_ n10_; clear hb hbox hg; have hnb63 := NB126_118.out; have hnc63 := NB118_126.out; have hnb64 := NB126_121.out; have hnc64 := NB121_126.out; have hcz65_0 : w62.cell? ⟨gb126, 0, none⟩ = some (.string (⟨#[]⟩ : ByteArray)) := (blk_cell BK126.out 0).trans rfl; have hcz65_1 : w62.cell? ⟨gb126, 1, none⟩ = some (.string (⟨#[]⟩ : ByteArray)) := (blk_cell BK126.out 1).trans rfl; have hfz65_0 := blk_frozen BK126.out 0; have hfz65_1 := blk_frozen BK126.out 1; have hnb66 := NB121_118.out; have hnc66 := NB118_121.out; have hcz67_0 : w62.cell? ⟨gb121, 0, none⟩ = some (.int .i64 0) := (blk_cell BK121.out 0).trans rfl; have hcz67_1 : w62.cell? ⟨gb121, 1, none⟩ = some (.string t120) := (blk_cell BK121.out 1).trans rfl; have hcz67_2 : w62.cell? ⟨gb121, 2, none⟩ = some (.string (⟨#[]⟩ : ByteArray)) := (blk_cell BK121.out 2).trans rfl; have hcz67_3 : w62.cell? ⟨gb121, 3, none⟩ = some (u122003) := (blk_cell BK121.out 3).trans rfl; have hcz67_4 : w62.cell? ⟨gb121, 4, none⟩ = some (.bool x122004_2) := (blk_cell BK121.out 4).trans rfl; have hfz67_0 := blk_frozen BK121.out 0; have hfz67_1 := blk_frozen BK121.out 1; have hfz67_2 := blk_frozen BK121.out 2; have hfz67_3 := blk_frozen BK121.out 3; have hfz67_4 := blk_frozen BK121.out 4; obtain ⟨Ao68, co68, eo68⟩ := Kd.R_slice HO_122003.out; subst eo68) | ((with_reducible refine gate_callee (f := 87) rfl ?_); refine goesL_ (some 92) rfl rfl Tryz.func87 (by kernel_rfl) rfl #[.slice Ao68 x122003_2.length co68, .string t123] rfl (by (try simp only [List.map_toArray, List.map_cons, List.map_nil]); first | done | rfl | (simp only [List.length_drop, List.length_take]; rfl)) ?_; (with_reducible refine (boltingref06_known.calls kj17 _ _ x122003_2 t123 true _ ?side1 ?side2 A59.out).mono ?_); (case side1 => refine (Kd.R_reads' (e := 40) (base := w.heap.size) (ok := fun k_ => (True ∧ k_ ≠ gb126)) (n := x122003_2.length) (c := co68) ?_).2.2; exact (by (with_reducible repeat (first | apply Kd.R_alloc | apply Kd.R_drewN | apply Kd.R_drew)); exact (Kd.R_mono (Kd.R_far (p := ⟨gb126, 1, none⟩) (Kd.R_far (p := ⟨gb126, 0, none⟩) (Kd.R_mono HO_122003.out (fun k_ hk => (⟨hk, hk.2⟩ : _ ∧ k_ ≠ gb126))) (fun _ hk => hk.2) (.string t123)) (fun _ hk => hk.2) (.string t124)) (fun _ h_ => h_.1)))); (case side2 => exact (Kd.R_reads' HO_122003.out).2.1); rintro e w' ⟨rfl, ⟨nd, rfl⟩⟩; refine ⟨_, rfl, ?_⟩))
                                go_roundg kj17
                                case measure => have := HJ2.out; have := HK2.out; have := HJ17.out; omega
                                case rel => exact ⟨(t125), (x119000_2), (x119001_2), (x119002_2), (x119004_2), (x122003_2), (x122004_2), (.slice Ao68 x122003_2.length co68), (by first | rfl | (simp; done) | (simp [*]; done)), H', ⟨by have := HJ2.out; have := HK2.out; have := HJ17.out; omega⟩, ⟨by (with_reducible repeat (first | apply Kd.R_alloc | apply Kd.R_drewN | apply Kd.R_drew)); exact Kd.R_mono (Kd.R_far (p := ⟨gb126, 1, none⟩) (Kd.R_far (p := ⟨gb126, 0, none⟩) (Kd.R_mono HO_122003.out (fun k_ hk => (⟨hk, hk.2⟩ : _ ∧ k_ ≠ gb126))) (fun _ hk => hk.2) (.string t123)) (fun _ hk => hk.2) (.string t124)) (fun _ hk => trivial)⟩, ⟨by (with_reducible repeat (first | refine blk_drewN ?_ _ | refine blk_drew ?_ | refine blk_alloc ?_ _)); refine blk_far ?_ NB118_126.out _; (with_reducible repeat (first | refine blk_drewN ?_ _ | refine blk_drew ?_ | refine blk_alloc ?_ _)); refine blk_far ?_ NB118_126.out _; (with_reducible repeat (first | refine blk_drewN ?_ _ | refine blk_drew ?_ | refine blk_alloc ?_ _)); exact BK118.out⟩, ⟨by (with_reducible repeat (first | refine blk_drewN ?_ _ | refine blk_drew ?_ | refine blk_alloc ?_ _)); refine blk_far ?_ NB121_126.out _; (with_reducible repeat (first | refine blk_drewN ?_ _ | refine blk_drew ?_ | refine blk_alloc ?_ _)); refine blk_far ?_ NB121_126.out _; (with_reducible repeat (first | refine blk_drewN ?_ _ | refine blk_drew ?_ | refine blk_alloc ?_ _)); exact BK121.out⟩, ⟨by repeat (first | (with_reducible first | exact HB.out | apply below_alloc | apply pw_below_drewN | apply below_drew1 | refine below_set ?_ GE118.out | refine below_set ?_ GE121.out | refine below_set ?_ GE126.out) | exact HB.out)⟩⟩
                              · replace c60 := Bool.eq_false_iff.mpr c60
                                subst c60
                                have H1 : (if x122003_2.length < 4398046511104 then (boltingref06_tag.l1 kj17 a0 t125 0 t120 (⟨#[]⟩ : ByteArray) (x122003_2 ++ [(⟨t123, t124⟩ : S40)]) x122004_2) else (none)) = some (r1, r2, r3, r4, r5, r6) := by rw [if_neg (show ¬ (false = true) by decide)] at H; first | exact H | (simp only [eq_self] at H ⊢; exact H) | (simp only [eq_self, if_true] at H ⊢; exact H)
                                clear H
                                have H := H1
                                clear H1
                                by_cases c69 : x122003_2.length < 4398046511104
                                · rw [if_pos c69] at H
                                  have LMc69 := Aside0.mk c69
                                  clear c69
                                  obtain ⟨y128, hy128⟩ : ∃ y_ : List (S40), y_ = (x122003_2 ++ [(⟨t123, t124⟩ : S40)]) := ⟨_, rfl⟩
                                  replace H : (boltingref06_tag.l1 kj17 a0 t125 0 t120 (⟨#[]⟩ : ByteArray) y128 x122004_2) = some (r1, r2, r3, r4, r5, r6) := by first | (rw [hy128]; with_reducible exact H) | (have H2_ := (Option.bind_some _ _).symm.trans H; rw [hy128]; with_reducible exact H2_) | (have H2_ := (Option.bind_some _ _).symm.trans H; with_reducible exact H2_) | with_reducible exact H | (rw [hy128]; exact H) | exact H
                                  have Ny128 := Aside0.mk hy128
                                  clear hy128
                                  have H' := Aside0.mk H
                                  clear H
                                  have p33 : 0 ≤ (x6_17 : Int) := (by first | exact of_decide_eq_true (by first | (with_reducible assumption) | assumption) | assumption | omega)
                                  have q33 : x6_17 < (a0.size : Int) := (by first | exact of_decide_eq_true (by first | (with_reducible assumption) | assumption) | assumption | omega)
                                  have hx33 := bt_at a0 x6_17
                                  replace p33 := eq_true p33
                                  replace q33 := eq_true q33
                                  go_wp2_with (first | ((with_reducible refine gate_callee (f := 86) rfl ?_); refine goesL_ (some 79) rfl rfl Tryz.func86 (by kernel_rfl) rfl #[.string a0, .int .i64 x6_17] rfl (by (try simp only [List.map_toArray, List.map_cons, List.map_nil]); first | done | rfl | (simp only [List.length_drop, List.length_take]; rfl)) ?_; (with_reducible refine (boltingref06_attr.calls kj17 a0 x6_17 t123 t124 t125 _ A48.out).mono ?_); rintro e w70 ⟨rfl, hb⟩; refine ⟨_, rfl, ?_⟩; have n0_ := Aside0.mk (Kd.R_below (by (with_reducible repeat (first | apply Kd.R_alloc | apply Kd.R_drewN | apply Kd.R_drew)); exact HO_122003.out) hb); have n1_ := Aside0.mk (blk_below (g := gb118) (o := .cells #[.int .i64 x119000_2, .string x119001_2, .string x119002_2, .slice none 0 0, .bool x119004_2] 59 (0, 0)) (by (with_reducible repeat (first | refine blk_drewN ?_ _ | refine blk_drew ?_ | refine blk_alloc ?_ _)); exact BK118.out) hb); have n2_ := Aside0.mk (blk_below (g := gb121) (o := .cells #[.int .i64 0, .string t120, .string (⟨#[]⟩ : ByteArray), u122003, .bool x122004_2] 59 (0, 0)) (by (with_reducible repeat (first | refine blk_drewN ?_ _ | refine blk_drew ?_ | refine blk_alloc ?_ _)); exact BK121.out) hb); have n3_ := Aside0.mk (below_step (by repeat (first | (with_reducible first | exact HB.out | apply below_alloc | apply pw_below_drewN | apply below_drew1 | refine below_set ?_ GE118.out | refine below_set ?_ GE121.out) | exact HB.out)) hb); clear HO_122003; clear BK118; clear BK121; clear HB; have HO_122003 := n0_; have BK118 := n1_; have BK121 := n2_; have HB := n3_; clear n0_ n1_ n2_ n3_; (try clear hb); (try clear hb2); (try clear hk); (try clear hi)) | ((with_reducible refine gate_dst (N := 9) rfl ?_); refine box_event ?hg (N := 9) ?hd (cs := #[.string (⟨#[]⟩ : ByteArray), .string (⟨#[]⟩ : ByteArray)]) (t := 40) ?hr ?_; (case hd => rfl); (case hg => rfl); (case hr => first | (go_simp; done) | (go_simp; rfl)); intro gb126 hg w71 hbox hb; have n0_ := Aside0.mk (Kd.R_below (Kd.R_elderB (by (with_reducible repeat (first | apply Kd.R_alloc | apply Kd.R_drewN | apply Kd.R_drew)); exact HO_122003.out) gb126 (Nat.le_of_eq hg.symm)) hb); have n1_ := Aside0.mk (blk_below (g := gb118) (o := .cells #[.int .i64 x119000_2, .string x119001_2, .string x119002_2, .slice none 0 0, .bool x119004_2] 59 (0, 0)) (by (with_reducible repeat (first | refine blk_drewN ?_ _ | refine blk_drew ?_ | refine blk_alloc ?_ _)); exact BK118.out) hb); have n2_ := Aside0.mk (blk_below (g := gb121) (o := .cells #[.int .i64 0, .string t120, .string (⟨#[]⟩ : ByteArray), u122003, .bool x122004_2] 59 (0, 0)) (by (with_reducible repeat (first | refine blk_drewN ?_ _ | refine blk_drew ?_ | refine blk_alloc ?_ _)); exact BK121.out) hb); have n3_ := Aside0.mk (below_step (by repeat (first | (with_reducible first | exact HB.out | apply below_alloc | apply pw_below_drewN | apply below_drew1 | refine below_set ?_ GE118.out | refine below_set ?_ GE121.out) | exact HB.out)) hb); have n4_ := Aside0.mk (hbox); have n5_ := Aside0.mk ((by rw [hg]; exact (below_size (by repeat (first | (with_reducible first | exact HB.out | apply below_alloc | apply pw_below_drewN | apply below_drew1 | refine below_set ?_ GE118.out | refine below_set ?_ GE121.out) | exact HB.out))) : w.heap.size ≤ gb126)); have n6_ := Aside0.mk ((by rw [hg]; exact (below_size (by repeat (first | (with_reducible first | exact HB.out | apply below_alloc | apply pw_below_drewN | apply below_drew1 | refine below_set ?_ GE118.out | refine below_set ?_ GE121.out) | exact HB.out))) : w.heap.size ≤ gb126)); have n7_ := Aside0.mk ((by rw [hg]; exact Nat.ne_of_lt (blk_lt (g := gb118) (o := .cells #[.int .i64 x119000_2, .string x119001_2, .string x119002_2, .slice none 0 0, .bool x119004_2] 59 (0, 0)) (by (with_reducible repeat (first | refine blk_drewN ?_ _ | refine blk_drew ?_ | refine blk_alloc ?_ _)); exact BK118.out)) : gb118 ≠ gb126)); have n8_ := Aside0.mk ((by rw [hg]; exact Nat.ne_of_gt (blk_lt (g := gb118) (o := .cells #[.int .i64 x119000_2, .string x119001_2, .string x119002_2, .slice none 0 0, .bool x119004_2] 59 (0, 0)) (by (with_reducible repeat (first | refine blk_drewN ?_ _ | refine blk_drew ?_ | refine blk_alloc ?_ _)); exact BK118.out)) : gb126 ≠ gb118)); have n9_ := Aside0.mk ((by rw [hg]; exact Nat.ne_of_lt (blk_lt (g := gb121) (o := .cells #[.int .i64 0, .string t120, .string (⟨#[]⟩ : ByteArray), u122003, .bool x122004_2] 59 (0, 0)) (by (with_reducible repeat (first | refine blk_drewN ?_ _ | refine blk_drew ?_ | refine blk_alloc ?_ _)); exact BK121.out)) : gb121 ≠ gb126)); have n10_ := Aside0.mk ((by rw [hg]; exact Nat.ne_of_gt (blk_lt (g := gb121) (o := .cells #[.int .i64 0, .string t120, .string (⟨#[]⟩ : ByteArray), u122003, .bool x122004_2] 59 (0, 0)) (by (with_reducible repeat (first | refine blk_drewN ?_ _ | refine blk_drew ?_ | refine blk_alloc ?_ _)); exact BK121.out)) : gb126 ≠ gb121)); clear HO_122003; clear BK118; clear BK121; clear HB; have HO_122003 := n0_; have BK118 := n1_; have BK121 := n2_; have HB := n3_; have BK126 := n4_; have GW126 := n5_; have GE126 := n6_; have NB118_126 := n7_; have NB126_118 := n8_; have NB121_126 := n9_; have NB126_121 := n10_; clear n0_ n1_ n2_ n3_ n4_ n5_ n6_ n7_ n8_ n9_ n10_; clear hb hbox hg; have hnb72 := NB126_118.out; have hnc72 := NB118_126.out; have hnb73 := NB126_121.out; have hnc73 := NB121_126.out; have hcz74_0 : w71.cell? ⟨gb126, 0, none⟩ = some (.string (⟨#[]⟩ : ByteArray)) := (blk_cell BK126.out 0).trans rfl; have hcz74_1 : w71.cell? ⟨gb126, 1, none⟩ = some (.string (⟨#[]⟩ : ByteArray)) := (blk_cell BK126.out 1).trans rfl; have hfz74_0 := blk_frozen BK126.out 0; have hfz74_1 := blk_frozen BK126.out 1; have hnb75 := NB121_118.out; have hnc75 := NB118_121.out; have hcz76_0 : w71.cell? ⟨gb121, 0, none⟩ = some (.int .i64 0) := (blk_cell BK121.out 0).trans rfl; have hcz76_1 : w71.cell? ⟨gb121, 1, none⟩ = some (.string t120) := (blk_cell BK121.out 1).trans rfl; have hcz76_2 : w71.cell? ⟨gb121, 2, none⟩ = some (.string (⟨#[]⟩ : ByteArray)) := (blk_cell BK121.out 2).trans rfl; have hcz76_3 : w71.cell? ⟨gb121, 3, none⟩ = some (u122003) := (blk_cell BK121.out 3).trans rfl; have hcz76_4 : w71.cell? ⟨gb121, 4, none⟩ = some (.bool x122004_2) := (blk_cell BK121.out 4).trans rfl; have hfz76_0 := blk_frozen BK121.out 0; have hfz76_1 := blk_frozen BK121.out 1; have hfz76_2 := blk_frozen BK121.out 2; have hfz76_3 := blk_frozen BK121.out 3; have hfz76_4 := blk_frozen BK121.out 4; obtain ⟨Ao77, co77, eo77⟩ := Kd.R_slice HO_122003.out; subst eo77) | ((with_reducible refine gate_callee (f := 87) rfl ?_); refine goesL_ (some 92) rfl rfl Tryz.func87 (by kernel_rfl) rfl #[.slice Ao77 x122003_2.length co77, .string t123] rfl (by (try simp only [List.map_toArray, List.map_cons, List.map_nil]); first | done | rfl | (simp only [List.length_drop, List.length_take]; rfl)) ?_; (with_reducible refine (boltingref06_known.calls kj17 _ _ x122003_2 t123 false _ ?side1 ?side2 A59.out).mono ?_); (case side1 => refine (Kd.R_reads' (e := 40) (base := w.heap.size) (ok := fun k_ => (True ∧ k_ ≠ gb126)) (n := x122003_2.length) (c := co77) ?_).2.2; exact (by (with_reducible repeat (first | apply Kd.R_alloc | apply Kd.R_drewN | apply Kd.R_drew)); exact (Kd.R_mono (Kd.R_far (p := ⟨gb126, 1, none⟩) (Kd.R_far (p := ⟨gb126, 0, none⟩) (Kd.R_mono HO_122003.out (fun k_ hk => (⟨hk, hk.2⟩ : _ ∧ k_ ≠ gb126))) (fun _ hk => hk.2) (.string t123)) (fun _ hk => hk.2) (.string t124)) (fun _ h_ => h_.1)))); (case side2 => exact (Kd.R_reads' HO_122003.out).2.1); rintro e w' ⟨rfl, ⟨nd, rfl⟩⟩; refine ⟨_, rfl, ?_⟩) | ((with_reducible refine gate_builtin (b := .append) (xs := #[.tmp 95, .tmp 97]) rfl ?_); at_builtin; refine Kd.R_append k40 (w0 := w) w.heap.size rfl (.tmp 95) (.tmp 97) 33 40 (.agg #[(.string ⟨#[]⟩), (.string ⟨#[]⟩)]) 32 rfl Tryz.underlying33 info40 rfl (by decide) (by omega) (.slice Ao77 x122003_2.length co77) x122003_2 (⟨t123, t124⟩ : S40) [.string t123, .string t124] (fun k_ => k_ ≠ gb126) (fun _ => False) rfl (by first | (go_simp; done) | (go_simp; rfl)) ?aP (fun _ hk => hk.elim) ?aF ?aO ?aB ?aS ?aL ?_; (case aP => exact k40_mkM _ _ _ (⟨t123, t124⟩ : S40)); (case aB => exact (by repeat (first | (with_reducible first | exact HB.out | apply below_alloc | apply pw_below_drewN | apply below_drew1 | refine below_set ?_ GE118.out | refine below_set ?_ GE121.out | refine below_set ?_ GE126.out) | exact HB.out))); (case aF => exact (fun k_ hk => Kd.freshB (g := gb126) (o := .cells #[.string t123, .string t124] 40 (0, 0)) (by (with_reducible repeat (first | refine blk_drewN ?_ _ | refine blk_drew ?_ | refine blk_alloc ?_ _)); refine blk_put (cs := #[.string t123, .string (⟨#[]⟩ : ByteArray)]) ?_ 1 _ rfl; (with_reducible repeat (first | refine blk_drewN ?_ _ | refine blk_drew ?_ | refine blk_alloc ?_ _)); refine blk_put (cs := #[.string (⟨#[]⟩ : ByteArray), .string (⟨#[]⟩ : ByteArray)]) ?_ 0 _ rfl; (with_reducible repeat (first | refine blk_drewN ?_ _ | refine blk_drew ?_ | refine blk_alloc ?_ _)); exact BK126.out) k_ hk)); (case aO => exact (by (with_reducible repeat (first | apply Kd.R_alloc | apply Kd.R_drewN | apply Kd.R_drew)); exact Kd.R_mono (Kd.R_far (p := ⟨gb126, 1, none⟩) (Kd.R_far (p := ⟨gb126, 0, none⟩) (Kd.R_mono HO_122003.out (fun k_ hk => (⟨hk, hk.2⟩ : _ ∧ k_ ≠ gb126))) (fun _ hk => hk.2) (.string t123)) (fun _ hk => hk.2) (.string t124)) (fun _ hk => hk.1.2))); (case aS => exact (below_size (by repeat (first | (with_reducible first | exact HB.out | apply below_alloc | apply pw_below_drewN | apply below_drew1 | refine below_set ?_ GE118.out | refine below_set ?_ GE121.out | refine below_set ?_ GE126.out) | exact HB.out)))); (case aL => have := LMc69.out; omega); intro v129 w78 ho hb hg hat; rw [← Ny128.out] at ho; have n0_ := Aside0.mk (blk_grown (g := gb118) (o := .cells #[.int .i64 x119000_2, .string x119001_2, .string x119002_2, .slice none 0 0, .bool x119004_2] 59 (0, 0)) (by (with_reducible repeat (first | refine blk_drewN ?_ _ | refine blk_drew ?_ | refine blk_alloc ?_ _)); refine blk_far ?_ NB118_126.out _; (with_reducible repeat (first | refine blk_drewN ?_ _ | refine blk_drew ?_ | refine blk_alloc ?_ _)); refine blk_far ?_ NB118_126.out _; (with_reducible repeat (first | refine blk_drewN ?_ _ | refine blk_drew ?_ | refine blk_alloc ?_ _)); exact BK118.out) hg (Kd.R_ne HO_122003.out BK118.out (by decide))); have n1_ := Aside0.mk (blk_grown (g := gb121) (o := .cells #[.int .i64 0, .string t120, .string (⟨#[]⟩ : ByteArray), .slice Ao77 x122003_2.length co77, .bool x122004_2] 59 (0, 0)) (by (with_reducible repeat (first | refine blk_drewN ?_ _ | refine blk_drew ?_ | refine blk_alloc ?_ _)); refine blk_far ?_ NB121_126.out _; (with_reducible repeat (first | refine blk_drewN ?_ _ | refine blk_drew ?_ | refine blk_alloc ?_ _)); refine blk_far ?_ NB121_126.out _; (with_reducible repeat (first | refine blk_drewN ?_ _ | refine blk_drew ?_ | refine blk_alloc ?_ _)); exact BK121.out) hg (Kd.R_ne HO_122003.out BK121.out (by decide))); have n2_ := Aside0.mk (blk_grown (g := gb126) (o := .cells #[.string t123, .string t124] 40 (0, 0)) (by (with_reducible repeat (first | refine blk_drewN ?_ _ | refine blk_drew ?_ | refine blk_alloc ?_ _)); refine blk_put (cs := #[.string t123, .string (⟨#[]⟩ : ByteArray)]) ?_ 1 _ rfl; (with_reducible repeat (first | refine blk_drewN ?_ _ | refine blk_drew ?_ | refine blk_alloc ?_ _)); refine blk_put (cs := #[.string (⟨#[]⟩ : ByteArray), .string (⟨#[]⟩ : ByteArray)]) ?_ 0 _ rfl; (with_reducible repeat (first | refine blk_drewN ?_ _ | refine blk_drew ?_ | refine blk_alloc ?_ _)); exact BK126.out) hg (Kd.R_away HO_122003.out (fun _ hk => hk.2))); have n3_ := Aside0.mk (hb); have n4_ := Aside0.mk (ho); clear BK118; clear BK121; clear BK126; clear HB; clear HO_122003; have BK118 := n0_; have BK121 := n1_; have BK126 := n2_; have HB := n3_; have HO130 := n4_; clear n0_ n1_ n2_ n3_ n4_; clear ho hb hg hat; obtain ⟨Ao79, co79, eo79⟩ := Kd.R_slice HO130.out; subst eo79; have hcz80_0 : w78.cell? ⟨gb121, 0, none⟩ = some (.int .i64 0) := (blk_cell BK121.out 0).trans rfl; have hcz80_1 : w78.cell? ⟨gb121, 1, none⟩ = some (.string t120) := (blk_cell BK121.out 1).trans rfl; have hcz80_2 : w78.cell? ⟨gb121, 2, none⟩ = some (.string (⟨#[]⟩ : ByteArray)) := (blk_cell BK121.out 2).trans rfl; have hcz80_3 : w78.cell? ⟨gb121, 3, none⟩ = some (.slice Ao77 x122003_2.length co77) := (blk_cell BK121.out 3).trans rfl; have hcz80_4 : w78.cell? ⟨gb121, 4, none⟩ = some (.bool x122004_2) := (blk_cell BK121.out 4).trans rfl; have hfz80_0 := blk_frozen BK121.out 0; have hfz80_1 := blk_frozen BK121.out 1; have hfz80_2 := blk_frozen BK121.out 2; have hfz80_3 := blk_frozen BK121.out 3; have hfz80_4 := blk_frozen BK121.out 4))
                                  go_roundg kj17
                                  case measure => have := HJ2.out; have := HK2.out; have := HJ17.out; omega
                                  case rel => exact ⟨(t125), (x119000_2), (x119001_2), (x119002_2), (x119004_2), (y128), (x122004_2), (.slice Ao79 y128.length co79), (by first | rfl | (simp; done) | (simp [*]; done)), H', ⟨by have := HJ2.out; have := HK2.out; have := HJ17.out; omega⟩, ⟨by (with_reducible repeat (first | apply Kd.R_alloc | apply Kd.R_drewN | apply Kd.R_drew)); exact Kd.R_mono (Kd.R_far (p := ⟨gb121, 3, none⟩) (Kd.R_types HO130.out BK121.out (by decide)) (fun _ hk => hk.2) (.slice Ao79 y128.length co79)) (fun _ hk => trivial)⟩, ⟨by (with_reducible repeat (first | refine blk_drewN ?_ _ | refine blk_drew ?_ | refine blk_alloc ?_ _)); refine blk_far ?_ NB118_121.out _; (with_reducible repeat (first | refine blk_drewN ?_ _ | refine blk_drew ?_ | refine blk_alloc ?_ _)); exact BK118.out⟩, ⟨by (with_reducible repeat (first | refine blk_drewN ?_ _ | refine blk_drew ?_ | refine blk_alloc ?_ _)); refine blk_put (cs := #[.int .i64 0, .string t120, .string (⟨#[]⟩ : ByteArray), .slice Ao77 x122003_2.length co77, .bool x122004_2]) ?_ 3 _ rfl; (with_reducible repeat (first | refine blk_drewN ?_ _ | refine blk_drew ?_ | refine blk_alloc ?_ _)); exact BK121.out⟩, ⟨by repeat (first | (with_reducible first | exact HB.out | apply below_alloc | apply pw_below_drewN | apply below_drew1 | refine below_set ?_ GE118.out | refine below_set ?_ GE121.out | refine below_set ?_ GE126.out) | exact HB.out)⟩⟩
                                · rw [if_neg c69] at H
                                  exact absurd H (by simp)
                        · rw [if_neg c32] at H
                          exact absurd H (by simp)
                      · rw [if_neg c31] at H
                        exact absurd H (by simp)
          · rw [if_neg c12] at H
            exact absurd H (by simp)
        · rw [if_neg c11] at H
          exact absurd H (by simp)
      · rw [if_neg c10] at H
        exact absurd H (by simp)

end Go.Proofs.YtdnbaliibiginaaGreatDoorH.TI
