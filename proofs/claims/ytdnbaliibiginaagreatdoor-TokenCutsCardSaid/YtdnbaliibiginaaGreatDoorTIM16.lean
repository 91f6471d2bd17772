/- Lemmas and walks, part 16: PTIx2. -/
import Derived.Test.YtdnbaliibiginaaGreatDoorTIM1
import Derived.Test.YtdnbaliibiginaaGreatDoorTIM13
set_option linter.unusedVariables false
set_option linter.unusedSimpArgs false

-- Walks of Go functions by a program (wip/hook/hook.py over the kit's printer): each as a Lean function, and that the call comes to what it tells. Not trusted: Lean checks it.
namespace Go.Proofs.YtdnbaliibiginaaGreatDoorH.TI
open Go.RowKit Go.Proofs.YtdnbaliibiginaaGreatDoorW.PrintWords Go.Proofs.YtdnbaliibiginaaGreatDoorW.PrintLast Go.Proofs.YtdnbaliibiginaaGreatDoorW.PrintMore
attribute [local go_sem] max2_int min2_int max_two min_two max_three min_three max_four min_four   -- for this text's walks alone

/-! ### boltingref06_attr: function 86 -/
mutual
def boltingref06_attr.j1 : Nat → ByteArray → Int → Int → Option (ByteArray × ByteArray × Int)
  | 0, _, _, _ => none
  | k + 1, x0, x1, x6 => if 0 ≤ x1 then (if x1 ≤ x6 then (if x6 ≤ (x0.size : Int) then ((boltingref02_Lower.f (x0.extract (x1 : Int).toNat (x6 : Int).toNat)).bind fun t106 => ((boltingref06_spaces.f k x0 x6).bind fun t108 => ((boltingref06_at.f x0 t108 (⟨#[61]⟩ : ByteArray)).bind fun t109 => (if t109 = true then ((boltingref06_spaces.f k x0 (wrap64 (t108 + 1))).bind fun t110 => (if t110 = (x0.size : Int) then (some (t106, (⟨#[]⟩ : ByteArray), wrap64 ((x0.size : Int) + 1))) else (if 0 ≤ t110 then (if t110 < (x0.size : Int) then (if (bt x0 t110) = 34 then (boltingref06_attr.j2 k x0 t110 true t106 (⟨#[]⟩ : ByteArray)) else (boltingref06_attr.j2 k x0 t110 ((bt x0 t110) == 39) t106 (⟨#[]⟩ : ByteArray))) else (none)) else (none)))) else (if t108 = (x0.size : Int) then (some (t106, (⟨#[]⟩ : ByteArray), wrap64 ((x0.size : Int) + 1))) else (some (t106, (⟨#[]⟩ : ByteArray), t108))))))) else (none)) else (none)) else (none)
def boltingref06_attr.j2 : Nat → ByteArray → Int → Bool → ByteArray → ByteArray → Option (ByteArray × ByteArray × Int)
  | 0, _, _, _, _, _ => none
  | k + 1, x0, x6, x76, x108000, x108001 => if x76 = true then (if 0 ≤ x6 then (if x6 ≤ (wrap64 (x6 + 1)) then (if (wrap64 (x6 + 1)) ≤ (x0.size : Int) then ((boltingref06_find.f k x0 (wrap64 (x6 + 1)) (x0.extract (x6 : Int).toNat ((wrap64 (x6 + 1)) : Int).toNat)).bind fun t111 => (if t111 = (x0.size : Int) then (some (x108000, x108001, wrap64 ((x0.size : Int) + 1))) else (if 0 ≤ (wrap64 (x6 + 1)) then (if (wrap64 (x6 + 1)) ≤ t111 then (if t111 ≤ (x0.size : Int) then ((boltingref03_Decode.f (x0.extract ((wrap64 (x6 + 1)) : Int).toNat (t111 : Int).toNat)).bind fun t112 => (some (x108000, t112, wrap64 (t111 + 1)))) else (none)) else (none)) else (none)))) else (none)) else (none)) else (none)) else (boltingref06_attr.l1 k x0 x6 x6 x108000 x108001)
def boltingref06_attr.l1 : Nat → ByteArray → Int → Int → ByteArray → ByteArray → Option (ByteArray × ByteArray × Int)
  | 0, _, _, _, _, _ => none
  | k + 1, x0, x6, x10, x108000, x108001 => if x10 < (x0.size : Int) then (if 0 ≤ x10 then ((boltingref02_Space.f (bt x0 x10)).bind fun t113 => (if t113 = true then (if 0 ≤ x6 then (if x6 ≤ x10 then (if x10 ≤ (x0.size : Int) then ((boltingref03_Decode.f (x0.extract (x6 : Int).toNat (x10 : Int).toNat)).bind fun t114 => (if x10 = (x0.size : Int) then (some (x108000, t114, wrap64 ((x0.size : Int) + 1))) else (some (x108000, t114, x10)))) else (none)) else (none)) else (none)) else (if (bt x0 x10) = 62 then (if 0 ≤ x6 then (if x6 ≤ x10 then (if x10 ≤ (x0.size : Int) then ((boltingref03_Decode.f (x0.extract (x6 : Int).toNat (x10 : Int).toNat)).bind fun t115 => (if x10 = (x0.size : Int) then (some (x108000, t115, wrap64 ((x0.size : Int) + 1))) else (some (x108000, t115, x10)))) else (none)) else (none)) else (none)) else (boltingref06_attr.l1 k x0 x6 (wrap64 (x10 + 1)) x108000 x108001)))) else (none)) else (if 0 ≤ x6 then (if x6 ≤ x10 then (if x10 ≤ (x0.size : Int) then ((boltingref03_Decode.f (x0.extract (x6 : Int).toNat (x10 : Int).toNat)).bind fun t116 => (if x10 = (x0.size : Int) then (some (x108000, t116, wrap64 ((x0.size : Int) + 1))) else (some (x108000, t116, x10)))) else (none)) else (none)) else (none))
def boltingref06_attr.l0 : Nat → ByteArray → Int → Int → Option (ByteArray × ByteArray × Int)
  | 0, _, _, _ => none
  | k + 1, x0, x1, x6 => if x6 < (x0.size : Int) then (if 0 ≤ x6 then ((boltingref06_stops.f (bt x0 x6)).bind fun t105 => (if t105 = true then (boltingref06_attr.j1 k x0 x1 x6) else (if (bt x0 x6) = 61 then (boltingref06_attr.j1 k x0 x1 x6) else (boltingref06_attr.l0 k x0 x1 (wrap64 (x6 + 1)))))) else (none)) else (boltingref06_attr.j1 k x0 x1 x6)
end
def boltingref06_attr.f (k : Nat) (a0 : ByteArray) (a1 : Int) : Option (ByteArray × ByteArray × Int) := boltingref06_attr.l0 k a0 a1 (wrap64 (a1 + 1))
theorem boltingref06_attr.mono_l : ∀ k, (∀ y0 y1 y2, LeO (boltingref06_attr.j1 k y0 y1 y2) (boltingref06_attr.j1 (k + 1) y0 y1 y2)) ∧ (∀ y0 y1 y2 y3 y4, LeO (boltingref06_attr.j2 k y0 y1 y2 y3 y4) (boltingref06_attr.j2 (k + 1) y0 y1 y2 y3 y4)) ∧ (∀ y0 y1 y2 y3 y4, LeO (boltingref06_attr.l1 k y0 y1 y2 y3 y4) (boltingref06_attr.l1 (k + 1) y0 y1 y2 y3 y4)) ∧ (∀ y0 y1 y2, LeO (boltingref06_attr.l0 k y0 y1 y2) (boltingref06_attr.l0 (k + 1) y0 y1 y2))
  | 0 => ⟨fun _ _ _ r h => by simp [boltingref06_attr.j1] at h, fun _ _ _ _ _ r h => by simp [boltingref06_attr.j2] at h, fun _ _ _ _ _ r h => by simp [boltingref06_attr.l1] at h, fun _ _ _ r h => by simp [boltingref06_attr.l0] at h⟩
  | k + 1 => by
    obtain ⟨ih0, ih1, ih2, ih3⟩ := boltingref06_attr.mono_l k
    refine ⟨?_, ?_, ?_, ?_⟩
    · intro y0 y1 y2
      unfold boltingref06_attr.j1
      repeat' first
      | (with_reducible exact ih0 _ _ _)
      | (with_reducible exact ih1 _ _ _ _ _)
      | (with_reducible exact ih2 _ _ _ _ _)
      | (with_reducible exact ih3 _ _ _)
      | (with_reducible exact boltingref06_find.mono _ _ _ _)
      | (with_reducible exact boltingref06_spaces.mono _ _ _)
      | (with_reducible exact LeO.refl _)
      | (with_reducible exact LeO.none _)
      | (with_reducible refine LeO.ite ?_ ?_)
      | (with_reducible refine LeO.bind ?_ (fun _ => ?_))
      | exact ih0 _ _ _
      | exact ih1 _ _ _ _ _
      | exact ih2 _ _ _ _ _
      | exact ih3 _ _ _
      | exact boltingref06_find.mono _ _ _ _
      | exact boltingref06_spaces.mono _ _ _
      | exact LeO.none _
      | refine LeO.ite ?_ ?_
      | refine LeO.bind ?_ (fun _ => ?_)
    · intro y0 y1 y2 y3 y4
      unfold boltingref06_attr.j2
      repeat' first
      | (with_reducible exact ih0 _ _ _)
      | (with_reducible exact ih1 _ _ _ _ _)
      | (with_reducible exact ih2 _ _ _ _ _)
      | (with_reducible exact ih3 _ _ _)
      | (with_reducible exact boltingref06_find.mono _ _ _ _)
      | (with_reducible exact boltingref06_spaces.mono _ _ _)
      | (with_reducible exact LeO.refl _)
      | (with_reducible exact LeO.none _)
      | (with_reducible refine LeO.ite ?_ ?_)
      | (with_reducible refine LeO.bind ?_ (fun _ => ?_))
      | exact ih0 _ _ _
      | exact ih1 _ _ _ _ _
      | exact ih2 _ _ _ _ _
      | exact ih3 _ _ _
      | exact boltingref06_find.mono _ _ _ _
      | exact boltingref06_spaces.mono _ _ _
      | exact LeO.none _
      | refine LeO.ite ?_ ?_
      | refine LeO.bind ?_ (fun _ => ?_)
    · intro y0 y1 y2 y3 y4
      unfold boltingref06_attr.l1
      repeat' first
      | (with_reducible exact ih0 _ _ _)
      | (with_reducible exact ih1 _ _ _ _ _)
      | (with_reducible exact ih2 _ _ _ _ _)
      | (with_reducible exact ih3 _ _ _)
      | (with_reducible exact boltingref06_find.mono _ _ _ _)
      | (with_reducible exact boltingref06_spaces.mono _ _ _)
      | (with_reducible exact LeO.refl _)
      | (with_reducible exact LeO.none _)
      | (with_reducible refine LeO.ite ?_ ?_)
      | (with_reducible refine LeO.bind ?_ (fun _ => ?_))
      | exact ih0 _ _ _
      | exact ih1 _ _ _ _ _
      | exact ih2 _ _ _ _ _
      | exact ih3 _ _ _
      | exact boltingref06_find.mono _ _ _ _
      | exact boltingref06_spaces.mono _ _ _
      | exact LeO.none _
      | refine LeO.ite ?_ ?_
      | refine LeO.bind ?_ (fun _ => ?_)
    · intro y0 y1 y2
      unfold boltingref06_attr.l0
      repeat' first
      | (with_reducible exact ih0 _ _ _)
      | (with_reducible exact ih1 _ _ _ _ _)
      | (with_reducible exact ih2 _ _ _ _ _)
      | (with_reducible exact ih3 _ _ _)
      | (with_reducible exact boltingref06_find.mono _ _ _ _)
      | (with_reducible exact boltingref06_spaces.mono _ _ _)
      | (with_reducible exact LeO.refl _)
      | (with_reducible exact LeO.none _)
      | (with_reducible refine LeO.ite ?_ ?_)
      | (with_reducible refine LeO.bind ?_ (fun _ => ?_))
      | exact ih0 _ _ _
      | exact ih1 _ _ _ _ _
      | exact ih2 _ _ _ _ _
      | exact ih3 _ _ _
      | exact boltingref06_find.mono _ _ _ _
      | exact boltingref06_spaces.mono _ _ _
      | exact LeO.none _
      | refine LeO.ite ?_ ?_
      | refine LeO.bind ?_ (fun _ => ?_)
theorem boltingref06_attr.mono : ∀ a0 a1 k, LeO (boltingref06_attr.f k a0 a1) (boltingref06_attr.f (k + 1) a0 a1) := by
  intro a0 a1 k
  obtain ⟨ih0, ih1, ih2, ih3⟩ := boltingref06_attr.mono_l k
  unfold boltingref06_attr.f
  repeat' first
      | (with_reducible exact ih0 _ _ _)
      | (with_reducible exact ih1 _ _ _ _ _)
      | (with_reducible exact ih2 _ _ _ _ _)
      | (with_reducible exact ih3 _ _ _)
      | (with_reducible exact boltingref06_find.mono _ _ _ _)
      | (with_reducible exact boltingref06_spaces.mono _ _ _)
      | (with_reducible exact LeO.refl _)
      | (with_reducible exact LeO.none _)
      | (with_reducible refine LeO.ite ?_ ?_)
      | (with_reducible refine LeO.bind ?_ (fun _ => ?_))
      | exact ih0 _ _ _
      | exact ih1 _ _ _ _ _
      | exact ih2 _ _ _ _ _
      | exact ih3 _ _ _
      | exact boltingref06_find.mono _ _ _ _
      | exact boltingref06_spaces.mono _ _ _
      | exact LeO.none _
      | refine LeO.ite ?_ ?_
      | refine LeO.bind ?_ (fun _ => ?_)
set_option maxHeartbeats 8000000 in
set_option maxRecDepth 100000 in
theorem boltingref06_attr.calls (k : Nat) (a0 : ByteArray) (a1 : Int) (r1 : ByteArray) (r2 : ByteArray) (r3 : Int) (w : World) (h : boltingref06_attr.f k a0 a1 = some (r1, r2, r3)) :
    Calls Tryz.prog 86 #[.string a0, .int .i64 a1] w fun e w' => e = .returned (.tuple #[.agg #[.string r1, .string r2], .int .i64 r3]) ∧ Below w.heap.size w w' := by
  have hu40 := Tryz.underlying40
  have HB := Aside0.mk (Below.refl w.heap.size w)
  have H : (boltingref06_attr.l0 k a0 a1 (wrap64 (a1 + 1))) = some (r1, r2, r3) := h
  clear h
  have HC3 := Aside0.mk H
  clear H
  go_enter Tryz.func86, Tryz.ntmps86
  go_upto_block 0 with (first | ((with_reducible refine gate_dst (N := 4) rfl ?_); refine box_event ?hg (N := 4) ?hd (cs := #[.string (⟨#[]⟩ : ByteArray), .string (⟨#[]⟩ : ByteArray)]) (t := 40) ?hr ?_; (case hd => rfl); (case hg => rfl); (case hr => first | (go_simp; done) | (go_simp; rfl)); intro gb104 hg w4 hbox hb; have n0_ := Aside0.mk (below_step (by repeat (first | (with_reducible first | exact HB.out | apply below_alloc | apply pw_below_drewN | apply below_drew1) | exact HB.out)) hb); have n1_ := Aside0.mk (hbox); have n2_ := Aside0.mk ((by rw [hg]; exact (below_size (by repeat (first | (with_reducible first | exact HB.out | apply below_alloc | apply pw_below_drewN | apply below_drew1) | exact HB.out))) : w.heap.size ≤ gb104)); have n3_ := Aside0.mk ((by rw [hg]; exact (below_size (by repeat (first | (with_reducible first | exact HB.out | apply below_alloc | apply pw_below_drewN | apply below_drew1) | exact HB.out))) : w.heap.size ≤ gb104)); clear HB; have HB := n0_; have BK104 := n1_; have GW104 := n2_; have GE104 := n3_; clear n0_ n1_ n2_ n3_; clear hb hbox hg))
  (try simp only [Act.put, List.setIfInBounds_toArray, List.set_cons_zero, List.set_cons_succ])
  go_cut [6] (fun v6 wc => ∃ (kq : Nat) (x6_2 : Int), v6 = .int .i64 x6_2 ∧ Aside0 (boltingref06_attr.j1 kq a0 a1 x6_2 = some (r1, r2, r3)) ∧ Aside0 (kq ≤ k) ∧ Aside0 (wc.heap[gb104]? = some (.cells #[.string (⟨#[]⟩ : ByteArray), .string (⟨#[]⟩ : ByteArray)] 40 (0, 0))) ∧ Aside0 (Below w.heap.size w wc))
  case first =>
    have H := HC3.out
    clear HC3
    have H' := Aside0.mk H
    clear H
    go_wp2
    go_loopg [6] k (fun kq v6 w' => ∃ (x6_1 : Int), v6 = .int .i64 x6_1 ∧ Aside0 (boltingref06_attr.l0 kq a0 a1 x6_1 = some (r1, r2, r3)) ∧ Aside0 (kq ≤ k) ∧ Aside0 (w'.heap[gb104]? = some (.cells #[.string (⟨#[]⟩ : ByteArray), .string (⟨#[]⟩ : ByteArray)] 40 (0, 0))) ∧ Aside0 (Below w.heap.size w w'))
    case atStart => exact ⟨(wrap64 (a1 + 1)), (by first | rfl | (simp; done) | (simp [*]; done)), H', ⟨Nat.le_refl _⟩, ⟨by (with_reducible repeat (first | refine blk_drewN ?_ _ | refine blk_drew ?_ | refine blk_alloc ?_ _)); exact BK104.out⟩, ⟨by repeat (first | (with_reducible first | exact HB.out | apply below_alloc | apply pw_below_drewN | apply below_drew1 | refine below_set ?_ GE104.out) | exact HB.out)⟩⟩
    case round =>
      clear H'
      try clear p2
      obtain ⟨x6_1, rfl, HA, HK1, BK104, HB⟩ := hrel
      cases gk with
      | zero => exact absurd HA.out (by simp [boltingref06_attr.l0])
      | succ k1 =>
        have H := HA.out
        clear HA
        simp only [boltingref06_attr.l0] at H
        by_cases c5 : x6_1 < (a0.size : Int)
        · rw [if_pos c5] at H
          have c5b0 : decide (x6_1 < (a0.size : Int)) = true := decide_eq_true c5
          clear c5
          (first | rw [c5b0] | (simp only [i64_w, i32_w]; rw [c5b0]) | skip)
          by_cases c6 : 0 ≤ x6_1
          · rw [if_pos c6] at H
            have c6b0 : decide (0 ≤ x6_1) = true := decide_eq_true c6
            clear c6
            replace H := Option.bind_eq_some_iff.mp H
            obtain ⟨t105, A80, H⟩ := H
            replace H : (if t105 = true then (boltingref06_attr.j1 k1 a0 a1 x6_1) else (if (bt a0 x6_1) = 61 then (boltingref06_attr.j1 k1 a0 a1 x6_1) else (boltingref06_attr.l0 k1 a0 a1 (wrap64 (x6_1 + 1))))) = some (r1, r2, r3) := H
            have A8 := Aside0.mk A80
            clear A80
            by_cases c9 : t105 = true
            · subst c9
              have H1 : (boltingref06_attr.j1 k1 a0 a1 x6_1) = some (r1, r2, r3) := by rw [if_pos rfl] at H; exact H
              clear H
              have H := H1
              clear H1
              have H' := Aside0.mk H
              clear H
              have p7 : 0 ≤ (x6_1 : Int) := (by first | exact of_decide_eq_true (by first | (with_reducible assumption) | assumption) | assumption | omega)
              have q7 : x6_1 < (a0.size : Int) := (by first | exact of_decide_eq_true (by first | (with_reducible assumption) | assumption) | assumption | omega)
              have hx7 := bt_at a0 x6_1
              replace p7 := eq_true p7
              replace q7 := eq_true q7
              go_wp2_with (first | (go_at_call 83; (with_reducible refine (boltingref06_stops.calls (bt a0 x6_1) true _ A8.out).mono ?_); rintro e w' ⟨rfl, ⟨nd, rfl⟩⟩))
              go_meet
              case rel => exact ⟨_, (x6_1), (by first | rfl | (simp; done) | (simp [*]; done)), H', ⟨by have := HK1.out; first | omega | exact Nat.le_refl _⟩, ⟨by (with_reducible repeat (first | refine blk_drewN ?_ _ | refine blk_drew ?_ | refine blk_alloc ?_ _)); exact BK104.out⟩, ⟨by repeat (first | (with_reducible first | exact HB.out | apply below_alloc | apply pw_below_drewN | apply below_drew1 | refine below_set ?_ GE104.out) | exact HB.out)⟩⟩
            · replace c9 := Bool.eq_false_iff.mpr c9
              subst c9
              have H1 : (if (bt a0 x6_1) = 61 then (boltingref06_attr.j1 k1 a0 a1 x6_1) else (boltingref06_attr.l0 k1 a0 a1 (wrap64 (x6_1 + 1)))) = some (r1, r2, r3) := by rw [if_neg (show ¬ (false = true) by decide)] at H; first | exact H | (simp only [eq_self] at H ⊢; exact H) | (simp only [eq_self, if_true] at H ⊢; exact H)
              clear H
              have H := H1
              clear H1
              by_cases c11 : (bt a0 x6_1) = 61
              · rw [if_pos c11] at H
                have c11b0 : ((bt a0 x6_1) == 61) = true := beq_iff_eq.mpr c11
                have c11b1 : ((bt a0 x6_1) != 61) = false := bne_eq_false_iff_eq.mpr c11
                clear c11
                have H' := Aside0.mk H
                clear H
                have p7 : 0 ≤ (x6_1 : Int) := (by first | exact of_decide_eq_true (by first | (with_reducible assumption) | assumption) | assumption | omega)
                have q7 : x6_1 < (a0.size : Int) := (by first | exact of_decide_eq_true (by first | (with_reducible assumption) | assumption) | assumption | omega)
                have hx7 := bt_at a0 x6_1
                replace p7 := eq_true p7
                replace q7 := eq_true q7
                go_wp2_with (first | (go_at_call 83; (with_reducible refine (boltingref06_stops.calls (bt a0 x6_1) false _ A8.out).mono ?_); rintro e w' ⟨rfl, ⟨nd, rfl⟩⟩; have p10 : 0 ≤ (x6_1 : Int) := (by first | exact of_decide_eq_true (by first | (with_reducible assumption) | assumption) | assumption | omega); have q10 : x6_1 < (a0.size : Int) := (by first | exact of_decide_eq_true (by first | (with_reducible assumption) | assumption) | assumption | omega); have hx10 := bt_at a0 x6_1; replace p10 := eq_true p10; replace q10 := eq_true q10))
                go_meet
                case rel => exact ⟨_, (x6_1), (by first | rfl | (simp; done) | (simp [*]; done)), H', ⟨by have := HK1.out; first | omega | exact Nat.le_refl _⟩, ⟨by (with_reducible repeat (first | refine blk_drewN ?_ _ | refine blk_drew ?_ | refine blk_alloc ?_ _)); exact BK104.out⟩, ⟨by repeat (first | (with_reducible first | exact HB.out | apply below_alloc | apply pw_below_drewN | apply below_drew1 | refine below_set ?_ GE104.out) | exact HB.out)⟩⟩
              · rw [if_neg c11] at H
                have c11b0 : ((bt a0 x6_1) == 61) = false := beq_eq_false_iff_ne.mpr c11
                have c11b1 : ((bt a0 x6_1) != 61) = true := bne_iff_ne.mpr c11
                have H' := Aside0.mk H
                clear H
                have p7 : 0 ≤ (x6_1 : Int) := (by first | exact of_decide_eq_true (by first | (with_reducible assumption) | assumption) | assumption | omega)
                have q7 : x6_1 < (a0.size : Int) := (by first | exact of_decide_eq_true (by first | (with_reducible assumption) | assumption) | assumption | omega)
                have hx7 := bt_at a0 x6_1
                replace p7 := eq_true p7
                replace q7 := eq_true q7
                go_wp2_with (first | (go_at_call 83; (with_reducible refine (boltingref06_stops.calls (bt a0 x6_1) false _ A8.out).mono ?_); rintro e w' ⟨rfl, ⟨nd, rfl⟩⟩; have p10 : 0 ≤ (x6_1 : Int) := (by first | exact of_decide_eq_true (by first | (with_reducible assumption) | assumption) | assumption | omega); have q10 : x6_1 < (a0.size : Int) := (by first | exact of_decide_eq_true (by first | (with_reducible assumption) | assumption) | assumption | omega); have hx10 := bt_at a0 x6_1; replace p10 := eq_true p10; replace q10 := eq_true q10))
                go_roundg k1
                case measure => have := HK1.out; omega
                case rel => exact ⟨(wrap64 (x6_1 + 1)), (by first | rfl | (simp; done) | (simp [*]; done)), H', ⟨by have := HK1.out; omega⟩, ⟨by (with_reducible repeat (first | refine blk_drewN ?_ _ | refine blk_drew ?_ | refine blk_alloc ?_ _)); exact BK104.out⟩, ⟨by repeat (first | (with_reducible first | exact HB.out | apply below_alloc | apply pw_below_drewN | apply below_drew1 | refine below_set ?_ GE104.out) | exact HB.out)⟩⟩
          · rw [if_neg c6] at H
            exact absurd H (by simp)
        · rw [if_neg c5] at H
          have c5b0 : decide (x6_1 < (a0.size : Int)) = false := decide_eq_false c5
          clear c5
          (first | rw [c5b0] | (simp only [i64_w, i32_w]; rw [c5b0]) | skip)
          have H' := Aside0.mk H
          clear H
          go_wp2
          go_meet
          case rel => exact ⟨_, (x6_1), (by first | rfl | (simp; done) | (simp [*]; done)), H', ⟨by have := HK1.out; first | omega | exact Nat.le_refl _⟩, ⟨by (with_reducible repeat (first | refine blk_drewN ?_ _ | refine blk_drew ?_ | refine blk_alloc ?_ _)); exact BK104.out⟩, ⟨by repeat (first | (with_reducible first | exact HB.out | apply below_alloc | apply pw_below_drewN | apply below_drew1 | refine below_set ?_ GE104.out) | exact HB.out)⟩⟩
  case rest =>
    clear HC3
    try clear c1
    try clear p1
    try clear q1
    try clear hx1
    try clear p2
    try clear c5
    try clear c5b0
    try clear c6
    try clear c6b0
    try clear p6
    try clear p7
    try clear q7
    try clear hx7
    try clear c8
    try clear c9
    try clear p10
    try clear q10
    try clear hx10
    try clear c11
    try clear c11b0
    try clear c11b1
    try clear p10
    try clear p2
    try clear p7
    try clear q10
    try clear q7
    obtain ⟨kq, x6_2, rfl, HA, HJ2, BK104, HB⟩ := hcut
    cases kq with
    | zero => exact absurd HA.out (by simp [boltingref06_attr.j1])
    | succ kj2 =>
      have H := HA.out
      clear HA
      simp only [boltingref06_attr.j1] at H
      by_cases c12 : 0 ≤ a1
      · rw [if_pos c12] at H
        have c12b0 := eq_true c12
        have c12b1 : decide (0 ≤ a1) = true := decide_eq_true c12
        clear c12
        by_cases c13 : a1 ≤ x6_2
        · rw [if_pos c13] at H
          have c13b0 := eq_true c13
          have c13b1 : decide (a1 ≤ x6_2) = true := decide_eq_true c13
          clear c13
          by_cases c14 : x6_2 ≤ (a0.size : Int)
          · rw [if_pos c14] at H
            have c14b0 := eq_true c14
            have c14b1 : decide (x6_2 ≤ (a0.size : Int)) = true := decide_eq_true c14
            clear c14
            replace H := Option.bind_eq_some_iff.mp H
            obtain ⟨t106, A150, H⟩ := H
            replace H : ((boltingref06_spaces.f kj2 a0 x6_2).bind fun t108 => ((boltingref06_at.f a0 t108 (⟨#[61]⟩ : ByteArray)).bind fun t109 => (if t109 = true then ((boltingref06_spaces.f kj2 a0 (wrap64 (t108 + 1))).bind fun t110 => (if t110 = (a0.size : Int) then (some (t106, (⟨#[]⟩ : ByteArray), wrap64 ((a0.size : Int) + 1))) else (if 0 ≤ t110 then (if t110 < (a0.size : Int) then (if (bt a0 t110) = 34 then (boltingref06_attr.j2 kj2 a0 t110 true t106 (⟨#[]⟩ : ByteArray)) else (boltingref06_attr.j2 kj2 a0 t110 ((bt a0 t110) == 39) t106 (⟨#[]⟩ : ByteArray))) else (none)) else (none)))) else (if t108 = (a0.size : Int) then (some (t106, (⟨#[]⟩ : ByteArray), wrap64 ((a0.size : Int) + 1))) else (some (t106, (⟨#[]⟩ : ByteArray), t108)))))) = some (r1, r2, r3) := H
            have A15 := Aside0.mk A150
            clear A150
            replace H := Option.bind_eq_some_iff.mp H
            obtain ⟨t108, A160, H⟩ := H
            replace H : ((boltingref06_at.f a0 t108 (⟨#[61]⟩ : ByteArray)).bind fun t109 => (if t109 = true then ((boltingref06_spaces.f kj2 a0 (wrap64 (t108 + 1))).bind fun t110 => (if t110 = (a0.size : Int) then (some (t106, (⟨#[]⟩ : ByteArray), wrap64 ((a0.size : Int) + 1))) else (if 0 ≤ t110 then (if t110 < (a0.size : Int) then (if (bt a0 t110) = 34 then (boltingref06_attr.j2 kj2 a0 t110 true t106 (⟨#[]⟩ : ByteArray)) else (boltingref06_attr.j2 kj2 a0 t110 ((bt a0 t110) == 39) t106 (⟨#[]⟩ : ByteArray))) else (none)) else (none)))) else (if t108 = (a0.size : Int) then (some (t106, (⟨#[]⟩ : ByteArray), wrap64 ((a0.size : Int) + 1))) else (some (t106, (⟨#[]⟩ : ByteArray), t108))))) = some (r1, r2, r3) := H
            have A16 := Aside0.mk A160
            clear A160
            replace H := Option.bind_eq_some_iff.mp H
            obtain ⟨t109, A170, H⟩ := H
            replace H : (if t109 = true then ((boltingref06_spaces.f kj2 a0 (wrap64 (t108 + 1))).bind fun t110 => (if t110 = (a0.size : Int) then (some (t106, (⟨#[]⟩ : ByteArray), wrap64 ((a0.size : Int) + 1))) else (if 0 ≤ t110 then (if t110 < (a0.size : Int) then (if (bt a0 t110) = 34 then (boltingref06_attr.j2 kj2 a0 t110 true t106 (⟨#[]⟩ : ByteArray)) else (boltingref06_attr.j2 kj2 a0 t110 ((bt a0 t110) == 39) t106 (⟨#[]⟩ : ByteArray))) else (none)) else (none)))) else (if t108 = (a0.size : Int) then (some (t106, (⟨#[]⟩ : ByteArray), wrap64 ((a0.size : Int) + 1))) else (some (t106, (⟨#[]⟩ : ByteArray), t108)))) = some (r1, r2, r3) := H
            have A17 := Aside0.mk A170
            clear A170
            by_cases c18 : t109 = true
            · subst c18
              have H1 : ((boltingref06_spaces.f kj2 a0 (wrap64 (t108 + 1))).bind fun t110 => (if t110 = (a0.size : Int) then (some (t106, (⟨#[]⟩ : ByteArray), wrap64 ((a0.size : Int) + 1))) else (if 0 ≤ t110 then (if t110 < (a0.size : Int) then (if (bt a0 t110) = 34 then (boltingref06_attr.j2 kj2 a0 t110 true t106 (⟨#[]⟩ : ByteArray)) else (boltingref06_attr.j2 kj2 a0 t110 ((bt a0 t110) == 39) t106 (⟨#[]⟩ : ByteArray))) else (none)) else (none)))) = some (r1, r2, r3) := by rw [if_pos rfl] at H; exact H
              clear H
              have H := H1
              clear H1
              replace H := Option.bind_eq_some_iff.mp H
              obtain ⟨t110, A190, H⟩ := H
              replace H : (if t110 = (a0.size : Int) then (some (t106, (⟨#[]⟩ : ByteArray), wrap64 ((a0.size : Int) + 1))) else (if 0 ≤ t110 then (if t110 < (a0.size : Int) then (if (bt a0 t110) = 34 then (boltingref06_attr.j2 kj2 a0 t110 true t106 (⟨#[]⟩ : ByteArray)) else (boltingref06_attr.j2 kj2 a0 t110 ((bt a0 t110) == 39) t106 (⟨#[]⟩ : ByteArray))) else (none)) else (none))) = some (r1, r2, r3) := H
              have A19 := Aside0.mk A190
              clear A190
              by_cases c20 : t110 = (a0.size : Int)
              · rw [if_pos c20] at H
                have c20b0 : (t110 == (a0.size : Int)) = true := beq_iff_eq.mpr c20
                have c20b1 : (t110 != (a0.size : Int)) = false := bne_eq_false_iff_eq.mpr c20
                clear c20
                simp only [Option.some.injEq, Prod.mk.injEq] at H
                obtain ⟨rfl, rfl, rfl⟩ := H
                go_wp2_with (first | ((with_reducible refine gate_callee (f := 84) rfl ?_); refine goesL_ (some 36) rfl rfl Tryz.func84 (by kernel_rfl) rfl #[.string (a0.extract (a1 : Int).toNat (x6_2 : Int).toNat)] rfl (by (try simp only [List.map_toArray, List.map_cons, List.map_nil]); first | done | rfl | (simp only [List.length_drop, List.length_take]; rfl)) ?_; (with_reducible refine (boltingref02_Lower.calls (a0.extract (a1 : Int).toNat (x6_2 : Int).toNat) t106 _ A15.out).mono ?_); rintro e w21 ⟨rfl, hb⟩; refine ⟨_, rfl, ?_⟩; have n0_ := Aside0.mk (blk_below (g := gb104) (o := .cells #[.string (⟨#[]⟩ : ByteArray), .string (⟨#[]⟩ : ByteArray)] 40 (0, 0)) (by (with_reducible repeat (first | refine blk_drewN ?_ _ | refine blk_drew ?_ | refine blk_alloc ?_ _)); exact BK104.out) hb); have n1_ := Aside0.mk (below_step (by repeat (first | (with_reducible first | exact HB.out | apply below_alloc | apply pw_below_drewN | apply below_drew1 | refine below_set ?_ GE104.out) | exact HB.out)) hb); clear BK104; clear HB; have BK104 := n0_; have HB := n1_; clear n0_ n1_; (try clear hb); (try clear hb2); (try clear hk); (try clear hi)) | ((with_reducible refine gate_dst (N := 7) rfl ?_); refine box_event ?hg (N := 7) ?hd (cs := #[.string (⟨#[]⟩ : ByteArray), .string (⟨#[]⟩ : ByteArray)]) (t := 40) ?hr ?_; (case hd => rfl); (case hg => rfl); (case hr => first | (go_simp; done) | (go_simp; rfl)); intro gb107 hg w22 hbox hb; have n0_ := Aside0.mk (blk_below (g := gb104) (o := .cells #[.string (⟨#[]⟩ : ByteArray), .string (⟨#[]⟩ : ByteArray)] 40 (0, 0)) (by (with_reducible repeat (first | refine blk_drewN ?_ _ | refine blk_drew ?_ | refine blk_alloc ?_ _)); exact BK104.out) hb); have n1_ := Aside0.mk (below_step (by repeat (first | (with_reducible first | exact HB.out | apply below_alloc | apply pw_below_drewN | apply below_drew1 | refine below_set ?_ GE104.out) | exact HB.out)) hb); have n2_ := Aside0.mk (hbox); have n3_ := Aside0.mk ((by rw [hg]; exact (below_size (by repeat (first | (with_reducible first | exact HB.out | apply below_alloc | apply pw_below_drewN | apply below_drew1 | refine below_set ?_ GE104.out) | exact HB.out))) : w.heap.size ≤ gb107)); have n4_ := Aside0.mk ((by rw [hg]; exact (below_size (by repeat (first | (with_reducible first | exact HB.out | apply below_alloc | apply pw_below_drewN | apply below_drew1 | refine below_set ?_ GE104.out) | exact HB.out))) : w.heap.size ≤ gb107)); have n5_ := Aside0.mk ((by rw [hg]; exact Nat.ne_of_lt (blk_lt (g := gb104) (o := .cells #[.string (⟨#[]⟩ : ByteArray), .string (⟨#[]⟩ : ByteArray)] 40 (0, 0)) (by (with_reducible repeat (first | refine blk_drewN ?_ _ | refine blk_drew ?_ | refine blk_alloc ?_ _)); exact BK104.out)) : gb104 ≠ gb107)); have n6_ := Aside0.mk ((by rw [hg]; exact Nat.ne_of_gt (blk_lt (g := gb104) (o := .cells #[.string (⟨#[]⟩ : ByteArray), .string (⟨#[]⟩ : ByteArray)] 40 (0, 0)) (by (with_reducible repeat (first | refine blk_drewN ?_ _ | refine blk_drew ?_ | refine blk_alloc ?_ _)); exact BK104.out)) : gb107 ≠ gb104)); clear BK104; clear HB; have BK104 := n0_; have HB := n1_; have BK107 := n2_; have GW107 := n3_; have GE107 := n4_; have NB104_107 := n5_; have NB107_104 := n6_; clear n0_ n1_ n2_ n3_ n4_ n5_ n6_; clear hb hbox hg; have hnb23 := NB107_104.out; have hnc23 := NB104_107.out; have hcz24_0 : w22.cell? ⟨gb107, 0, none⟩ = some (.string (⟨#[]⟩ : ByteArray)) := (blk_cell BK107.out 0).trans rfl; have hcz24_1 : w22.cell? ⟨gb107, 1, none⟩ = some (.string (⟨#[]⟩ : ByteArray)) := (blk_cell BK107.out 1).trans rfl; have hfz24_0 := blk_frozen BK107.out 0; have hfz24_1 := blk_frozen BK107.out 1) | ((with_reducible refine gate_callee (f := 132) rfl ?_); refine goesL_ (some 40) rfl rfl Tryz.func132 (by kernel_rfl) rfl #[.string a0, .int .i64 x6_2] rfl (by (try simp only [List.map_toArray, List.map_cons, List.map_nil]); first | done | rfl | (simp only [List.length_drop, List.length_take]; rfl)) ?_; (with_reducible refine (boltingref06_spaces.calls kj2 a0 x6_2 t108 _ A16.out).mono ?_); rintro e w' ⟨rfl, ⟨nd, rfl⟩⟩; refine ⟨_, rfl, ?_⟩) | ((with_reducible refine gate_callee (f := 40) rfl ?_); refine goesL_ (some 43) rfl rfl Tryz.func40 (by kernel_rfl) rfl #[.string a0, .int .i64 t108, .string (⟨#[61]⟩ : ByteArray)] rfl (by (try simp only [List.map_toArray, List.map_cons, List.map_nil]); first | done | rfl | (simp only [List.length_drop, List.length_take]; rfl)) ?_; (with_reducible refine (boltingref06_at.calls a0 t108 (⟨#[61]⟩ : ByteArray) true _ A17.out).mono ?_); rintro e w' ⟨rfl, ⟨nd, rfl⟩⟩; refine ⟨_, rfl, ?_⟩) | ((with_reducible refine gate_callee (f := 132) rfl ?_); refine goesL_ (some 58) rfl rfl Tryz.func132 (by kernel_rfl) rfl #[.string a0, .int .i64 (wrap64 (t108 + 1))] rfl (by (try simp only [List.map_toArray, List.map_cons, List.map_nil]); first | done | rfl | (simp only [List.length_drop, List.length_take]; rfl)) ?_; (with_reducible refine (boltingref06_spaces.calls kj2 a0 (wrap64 (t108 + 1)) t110 _ A19.out).mono ?_); rintro e w' ⟨rfl, ⟨nd, rfl⟩⟩; refine ⟨_, rfl, ?_⟩; have hcz25_0 : w22.cell? ⟨gb104, 0, none⟩ = some (.string (⟨#[]⟩ : ByteArray)) := (blk_cell BK104.out 0).trans rfl; have hcz25_1 : w22.cell? ⟨gb104, 1, none⟩ = some (.string (⟨#[]⟩ : ByteArray)) := (blk_cell BK104.out 1).trans rfl; have hfz25_0 := blk_frozen BK104.out 0; have hfz25_1 := blk_frozen BK104.out 1))
                refine bodyPost_ret (results_ct rfl _ _ gb104 40 #[.string t106, .string (⟨#[]⟩ : ByteArray)] (0, 0) _ rfl (by (with_reducible repeat (first | refine blk_drewN ?_ _ | refine blk_drew ?_ | refine blk_alloc ?_ _)); refine blk_put (cs := #[.string t106, .string (⟨#[]⟩ : ByteArray)]) ?_ 1 _ rfl; (with_reducible repeat (first | refine blk_drewN ?_ _ | refine blk_drew ?_ | refine blk_alloc ?_ _)); refine blk_put (cs := #[.string (⟨#[]⟩ : ByteArray), .string (⟨#[]⟩ : ByteArray)]) ?_ 0 _ rfl; (with_reducible repeat (first | refine blk_drewN ?_ _ | refine blk_drew ?_ | refine blk_alloc ?_ _)); refine blk_far ?_ NB104_107.out _; (with_reducible repeat (first | refine blk_drewN ?_ _ | refine blk_drew ?_ | refine blk_alloc ?_ _)); refine blk_far ?_ NB104_107.out _; (with_reducible repeat (first | refine blk_drewN ?_ _ | refine blk_drew ?_ | refine blk_alloc ?_ _)); exact BK104.out) Tryz.underlying40 rfl (by kernel_rfl)) rfl ?_
                exact ⟨by first | rfl | (simp [errW_none, errW_some] <;> rfl) | (simp [*, errW_none, errW_some] <;> rfl), by repeat (first | (with_reducible first | exact HB.out | apply below_alloc | apply pw_below_drewN | apply below_drew1 | refine below_set ?_ GE104.out | refine below_set ?_ GE107.out) | exact HB.out)⟩
              · rw [if_neg c20] at H
                have c20b0 : (t110 == (a0.size : Int)) = false := beq_eq_false_iff_ne.mpr c20
                have c20b1 : (t110 != (a0.size : Int)) = true := bne_iff_ne.mpr c20
                have HC26 := Aside0.mk H
                clear H
                go_upto_region 13 with (first | ((with_reducible refine gate_callee (f := 84) rfl ?_); refine goesL_ (some 36) rfl rfl Tryz.func84 (by kernel_rfl) rfl #[.string (a0.extract (a1 : Int).toNat (x6_2 : Int).toNat)] rfl (by (try simp only [List.map_toArray, List.map_cons, List.map_nil]); first | done | rfl | (simp only [List.length_drop, List.length_take]; rfl)) ?_; (with_reducible refine (boltingref02_Lower.calls (a0.extract (a1 : Int).toNat (x6_2 : Int).toNat) t106 _ A15.out).mono ?_); rintro e w27 ⟨rfl, hb⟩; refine ⟨_, rfl, ?_⟩; have n0_ := Aside0.mk (blk_below (g := gb104) (o := .cells #[.string (⟨#[]⟩ : ByteArray), .string (⟨#[]⟩ : ByteArray)] 40 (0, 0)) (by (with_reducible repeat (first | refine blk_drewN ?_ _ | refine blk_drew ?_ | refine blk_alloc ?_ _)); exact BK104.out) hb); have n1_ := Aside0.mk (below_step (by repeat (first | (with_reducible first | exact HB.out | apply below_alloc | apply pw_below_drewN | apply below_drew1 | refine below_set ?_ GE104.out) | exact HB.out)) hb); clear BK104; clear HB; have BK104 := n0_; have HB := n1_; clear n0_ n1_; (try clear hb); (try clear hb2); (try clear hk); (try clear hi)) | ((with_reducible refine gate_dst (N := 7) rfl ?_); refine box_event ?hg (N := 7) ?hd (cs := #[.string (⟨#[]⟩ : ByteArray), .string (⟨#[]⟩ : ByteArray)]) (t := 40) ?hr ?_; (case hd => rfl); (case hg => rfl); (case hr => first | (go_simp; done) | (go_simp; rfl)); intro gb107 hg w28 hbox hb; have n0_ := Aside0.mk (blk_below (g := gb104) (o := .cells #[.string (⟨#[]⟩ : ByteArray), .string (⟨#[]⟩ : ByteArray)] 40 (0, 0)) (by (with_reducible repeat (first | refine blk_drewN ?_ _ | refine blk_drew ?_ | refine blk_alloc ?_ _)); exact BK104.out) hb); have n1_ := Aside0.mk (below_step (by repeat (first | (with_reducible first | exact HB.out | apply below_alloc | apply pw_below_drewN | apply below_drew1 | refine below_set ?_ GE104.out) | exact HB.out)) hb); have n2_ := Aside0.mk (hbox); have n3_ := Aside0.mk ((by rw [hg]; exact (below_size (by repeat (first | (with_reducible first | exact HB.out | apply below_alloc | apply pw_below_drewN | apply below_drew1 | refine below_set ?_ GE104.out) | exact HB.out))) : w.heap.size ≤ gb107)); have n4_ := Aside0.mk ((by rw [hg]; exact (below_size (by repeat (first | (with_reducible first | exact HB.out | apply below_alloc | apply pw_below_drewN | apply below_drew1 | refine below_set ?_ GE104.out) | exact HB.out))) : w.heap.size ≤ gb107)); have n5_ := Aside0.mk ((by rw [hg]; exact Nat.ne_of_lt (blk_lt (g := gb104) (o := .cells #[.string (⟨#[]⟩ : ByteArray), .string (⟨#[]⟩ : ByteArray)] 40 (0, 0)) (by (with_reducible repeat (first | refine blk_drewN ?_ _ | refine blk_drew ?_ | refine blk_alloc ?_ _)); exact BK104.out)) : gb104 ≠ gb107)); have n6_ := Aside0.mk ((by rw [hg]; exact Nat.ne_of_gt (blk_lt (g := gb104) (o := .cells #[.string (⟨#[]⟩ : ByteArray), .string (⟨#[]⟩ : ByteArray)] 40 (0, 0)) (by (with_reducible repeat (first | refine blk_drewN ?_ _ | refine blk_drew ?_ | refine blk_alloc ?_ _)); exact BK104.out)) : gb107 ≠ gb104)); clear BK104; clear HB; have BK104 := n0_; have HB := n1_; have BK107 := n2_; have GW107 := n3_; have GE107 := n4_; have NB104_107 := n5_; have NB107_104 := n6_; clear n0_ n1_ n2_ n3_ n4_ n5_ n6_; clear hb hbox hg; have hnb29 := NB107_104.out; have hnc29 := NB104_107.out; have hcz30_0 : w28.cell? ⟨gb107, 0, none⟩ = some (.string (⟨#[]⟩ : ByteArray)) := (blk_cell BK107.out 0).trans rfl; have hcz30_1 : w28.cell? ⟨gb107, 1, none⟩ = some (.string (⟨#[]⟩ : ByteArray)) := (blk_cell BK107.out 1).trans rfl; have hfz30_0 := blk_frozen BK107.out 0; have hfz30_1 := blk_frozen BK107.out 1) | ((with_reducible refine gate_callee (f := 132) rfl ?_); refine goesL_ (some 40) rfl rfl Tryz.func132 (by kernel_rfl) rfl #[.string a0, .int .i64 x6_2] rfl (by (try simp only [List.map_toArray, List.map_cons, List.map_nil]); first | done | rfl | (simp only [List.length_drop, List.length_take]; rfl)) ?_; (with_reducible refine (boltingref06_spaces.calls kj2 a0 x6_2 t108 _ A16.out).mono ?_); rintro e w' ⟨rfl, ⟨nd, rfl⟩⟩; refine ⟨_, rfl, ?_⟩) | ((with_reducible refine gate_callee (f := 40) rfl ?_); refine goesL_ (some 43) rfl rfl Tryz.func40 (by kernel_rfl) rfl #[.string a0, .int .i64 t108, .string (⟨#[61]⟩ : ByteArray)] rfl (by (try simp only [List.map_toArray, List.map_cons, List.map_nil]); first | done | rfl | (simp only [List.length_drop, List.length_take]; rfl)) ?_; (with_reducible refine (boltingref06_at.calls a0 t108 (⟨#[61]⟩ : ByteArray) true _ A17.out).mono ?_); rintro e w' ⟨rfl, ⟨nd, rfl⟩⟩; refine ⟨_, rfl, ?_⟩) | ((with_reducible refine gate_callee (f := 132) rfl ?_); refine goesL_ (some 58) rfl rfl Tryz.func132 (by kernel_rfl) rfl #[.string a0, .int .i64 (wrap64 (t108 + 1))] rfl (by (try simp only [List.map_toArray, List.map_cons, List.map_nil]); first | done | rfl | (simp only [List.length_drop, List.length_take]; rfl)) ?_; (with_reducible refine (boltingref06_spaces.calls kj2 a0 (wrap64 (t108 + 1)) t110 _ A19.out).mono ?_); rintro e w' ⟨rfl, ⟨nd, rfl⟩⟩; refine ⟨_, rfl, ?_⟩))
                (try simp only [Act.put, List.setIfInBounds_toArray, List.set_cons_zero, List.set_cons_succ])
                go_cut [76] (fun v76 wc => ∃ (kq : Nat) (x76_25 : Bool), v76 = .bool x76_25 ∧ Aside0 (boltingref06_attr.j2 kq a0 t110 x76_25 t106 (⟨#[]⟩ : ByteArray) = some (r1, r2, r3)) ∧ Aside0 (kq ≤ kj2) ∧ Aside0 (wc.heap[gb104]? = some (.cells #[.string (⟨#[]⟩ : ByteArray), .string (⟨#[]⟩ : ByteArray)] 40 (0, 0))) ∧ Aside0 (wc.heap[gb107]? = some (.cells #[.string t106, .string (⟨#[]⟩ : ByteArray)] 40 (0, 0))) ∧ Aside0 (Below w.heap.size w wc))
                case first =>
                  have H := HC26.out
                  clear HC26
                  by_cases c31 : 0 ≤ t110
                  · rw [if_pos c31] at H
                    have c31b0 : decide (0 ≤ t110) = true := decide_eq_true c31
                    clear c31
                    (first | rw [c31b0] | (simp only [i64_w, i32_w]; rw [c31b0]) | skip)
                    by_cases c32 : t110 < (a0.size : Int)
                    · rw [if_pos c32] at H
                      have c32b0 : decide (t110 < (a0.size : Int)) = true := decide_eq_true c32
                      clear c32
                      by_cases c34 : (bt a0 t110) = 34
                      · rw [if_pos c34] at H
                        have c34b0 : ((bt a0 t110) == 34) = true := beq_iff_eq.mpr c34
                        have c34b1 : ((bt a0 t110) != 34) = false := bne_eq_false_iff_eq.mpr c34
                        clear c34
                        have H' := Aside0.mk H
                        clear H
                        have p33 : 0 ≤ (t110 : Int) := (by first | exact of_decide_eq_true (by first | (with_reducible assumption) | assumption) | assumption | omega)
                        have q33 : t110 < (a0.size : Int) := (by first | exact of_decide_eq_true (by first | (with_reducible assumption) | assumption) | assumption | omega)
                        have hx33 := bt_at a0 t110
                        replace p33 := eq_true p33
                        replace q33 := eq_true q33
                        go_wp2
                        go_meet
                        case rel => exact ⟨_, (true), (by first | rfl | (simp; done) | (simp [*]; done)), H', ⟨by have := HJ2.out; first | omega | exact Nat.le_refl _⟩, ⟨by (with_reducible repeat (first | refine blk_drewN ?_ _ | refine blk_drew ?_ | refine blk_alloc ?_ _)); refine blk_far ?_ NB104_107.out _; (with_reducible repeat (first | refine blk_drewN ?_ _ | refine blk_drew ?_ | refine blk_alloc ?_ _)); refine blk_far ?_ NB104_107.out _; (with_reducible repeat (first | refine blk_drewN ?_ _ | refine blk_drew ?_ | refine blk_alloc ?_ _)); exact BK104.out⟩, ⟨by (with_reducible repeat (first | refine blk_drewN ?_ _ | refine blk_drew ?_ | refine blk_alloc ?_ _)); refine blk_put (cs := #[.string t106, .string (⟨#[]⟩ : ByteArray)]) ?_ 1 _ rfl; (with_reducible repeat (first | refine blk_drewN ?_ _ | refine blk_drew ?_ | refine blk_alloc ?_ _)); refine blk_put (cs := #[.string (⟨#[]⟩ : ByteArray), .string (⟨#[]⟩ : ByteArray)]) ?_ 0 _ rfl; (with_reducible repeat (first | refine blk_drewN ?_ _ | refine blk_drew ?_ | refine blk_alloc ?_ _)); exact BK107.out⟩, ⟨by repeat (first | (with_reducible first | exact HB.out | apply below_alloc | apply pw_below_drewN | apply below_drew1 | refine below_set ?_ GE104.out | refine below_set ?_ GE107.out) | exact HB.out)⟩⟩
                      · rw [if_neg c34] at H
                        have c34b0 : ((bt a0 t110) == 34) = false := beq_eq_false_iff_ne.mpr c34
                        have c34b1 : ((bt a0 t110) != 34) = true := bne_iff_ne.mpr c34
                        have H' := Aside0.mk H
                        clear H
                        have p33 : 0 ≤ (t110 : Int) := (by first | exact of_decide_eq_true (by first | (with_reducible assumption) | assumption) | assumption | omega)
                        have q33 : t110 < (a0.size : Int) := (by first | exact of_decide_eq_true (by first | (with_reducible assumption) | assumption) | assumption | omega)
                        have hx33 := bt_at a0 t110
                        replace p33 := eq_true p33
                        replace q33 := eq_true q33
                        have p35 : 0 ≤ (t110 : Int) := (by first | exact of_decide_eq_true (by first | (with_reducible assumption) | assumption) | assumption | omega)
                        have q35 : t110 < (a0.size : Int) := (by first | exact of_decide_eq_true (by first | (with_reducible assumption) | assumption) | assumption | omega)
                        have hx35 := bt_at a0 t110
                        replace p35 := eq_true p35
                        replace q35 := eq_true q35
                        go_wp2
                        go_meet
                        case rel => exact ⟨_, (((bt a0 t110) == 39)), (by first | rfl | (simp; done) | (simp [*]; done)), H', ⟨by have := HJ2.out; first | omega | exact Nat.le_refl _⟩, ⟨by (with_reducible repeat (first | refine blk_drewN ?_ _ | refine blk_drew ?_ | refine blk_alloc ?_ _)); refine blk_far ?_ NB104_107.out _; (with_reducible repeat (first | refine blk_drewN ?_ _ | refine blk_drew ?_ | refine blk_alloc ?_ _)); refine blk_far ?_ NB104_107.out _; (with_reducible repeat (first | refine blk_drewN ?_ _ | refine blk_drew ?_ | refine blk_alloc ?_ _)); exact BK104.out⟩, ⟨by (with_reducible repeat (first | refine blk_drewN ?_ _ | refine blk_drew ?_ | refine blk_alloc ?_ _)); refine blk_put (cs := #[.string t106, .string (⟨#[]⟩ : ByteArray)]) ?_ 1 _ rfl; (with_reducible repeat (first | refine blk_drewN ?_ _ | refine blk_drew ?_ | refine blk_alloc ?_ _)); refine blk_put (cs := #[.string (⟨#[]⟩ : ByteArray), .string (⟨#[]⟩ : ByteArray)]) ?_ 0 _ rfl; (with_reducible repeat (first | refine blk_drewN ?_ _ | refine blk_drew ?_ | refine blk_alloc ?_ _)); exact BK107.out⟩, ⟨by repeat (first | (with_reducible first | exact HB.out | apply below_alloc | apply pw_below_drewN | apply below_drew1 | refine below_set ?_ GE104.out | refine below_set ?_ GE107.out) | exact HB.out)⟩⟩
                    · rw [if_neg c32] at H
                      exact absurd H (by simp)
                  · rw [if_neg c31] at H
                    exact absurd H (by simp)
                case rest =>
                  clear HC26
                  try clear c1
                  try clear p1
                  try clear q1
                  try clear hx1
                  try clear c2
                  try clear p2
                  try clear c3
                  try clear p3
                  try clear q3
                  try clear hx3
                  try clear c4
                  try clear c5
                  try clear c5b0
                  try clear c6
                  try clear c6b0
                  try clear p6
                  try clear p7
                  try clear q7
                  try clear hx7
                  try clear c8
                  try clear c9
                  try clear p10
                  try clear q10
                  try clear hx10
                  try clear c11
                  try clear c11b0
                  try clear c11b1
                  try clear c12
                  try clear c12b0
                  try clear c12b1
                  try clear c13
                  try clear c13b0
                  try clear c13b1
                  try clear c14
                  try clear c14b0
                  try clear c14b1
                  try clear c18
                  try clear c20
                  try clear c20b0
                  try clear c20b1
                  try clear c23
                  try clear c29
                  try clear c31
                  try clear c31b0
                  try clear c32
                  try clear c32b0
                  try clear p33
                  try clear q33
                  try clear hx33
                  try clear c34
                  try clear c34b0
                  try clear c34b1
                  try clear p35
                  try clear q35
                  try clear hx35
                  try clear hcz24_0
                  try clear hcz24_1
                  try clear hcz25_0
                  try clear hcz25_1
                  try clear hcz30_0
                  try clear hcz30_1
                  try clear hfz24_0
                  try clear hfz24_1
                  try clear hfz25_0
                  try clear hfz25_1
                  try clear hfz30_0
                  try clear hfz30_1
                  try clear p1
                  try clear p10
                  try clear p2
                  try clear p33
                  try clear p35
                  try clear p6
                  try clear p7
                  try clear q1
                  try clear q10
                  try clear q33
                  try clear q35
                  try clear q7
                  obtain ⟨kq, x76_25, rfl, HA, HJ25, BK104, BK107, HB⟩ := hcut
                  cases kq with
                  | zero => exact absurd HA.out (by simp [boltingref06_attr.j2])
                  | succ kj25 =>
                    have H := HA.out
                    clear HA
                    simp only [boltingref06_attr.j2] at H
                    by_cases c36 : x76_25 = true
                    · subst c36
                      have H1 : (if 0 ≤ t110 then (if t110 ≤ (wrap64 (t110 + 1)) then (if (wrap64 (t110 + 1)) ≤ (a0.size : Int) then ((boltingref06_find.f kj25 a0 (wrap64 (t110 + 1)) (a0.extract (t110 : Int).toNat ((wrap64 (t110 + 1)) : Int).toNat)).bind fun t111 => (if t111 = (a0.size : Int) then (some (t106, (⟨#[]⟩ : ByteArray), wrap64 ((a0.size : Int) + 1))) else (if 0 ≤ (wrap64 (t110 + 1)) then (if (wrap64 (t110 + 1)) ≤ t111 then (if t111 ≤ (a0.size : Int) then ((boltingref03_Decode.f (a0.extract ((wrap64 (t110 + 1)) : Int).toNat (t111 : Int).toNat)).bind fun t112 => (some (t106, t112, wrap64 (t111 + 1)))) else (none)) else (none)) else (none)))) else (none)) else (none)) else (none)) = some (r1, r2, r3) := by rw [if_pos rfl] at H; exact H
                      clear H
                      have H := H1
                      clear H1
                      by_cases c37 : 0 ≤ t110
                      · rw [if_pos c37] at H
                        have c37b0 := eq_true c37
                        have c37b1 : decide (0 ≤ t110) = true := decide_eq_true c37
                        clear c37
                        by_cases c38 : t110 ≤ (wrap64 (t110 + 1))
                        · rw [if_pos c38] at H
                          have c38b0 := eq_true c38
                          have c38b1 : decide (t110 ≤ (wrap64 (t110 + 1))) = true := decide_eq_true c38
                          by_cases c39 : (wrap64 (t110 + 1)) ≤ (a0.size : Int)
                          · rw [if_pos c39] at H
                            have c39b0 := eq_true c39
                            have c39b1 : decide ((wrap64 (t110 + 1)) ≤ (a0.size : Int)) = true := decide_eq_true c39
                            replace H := Option.bind_eq_some_iff.mp H
                            obtain ⟨t111, A400, H⟩ := H
                            replace H : (if t111 = (a0.size : Int) then (some (t106, (⟨#[]⟩ : ByteArray), wrap64 ((a0.size : Int) + 1))) else (if 0 ≤ (wrap64 (t110 + 1)) then (if (wrap64 (t110 + 1)) ≤ t111 then (if t111 ≤ (a0.size : Int) then ((boltingref03_Decode.f (a0.extract ((wrap64 (t110 + 1)) : Int).toNat (t111 : Int).toNat)).bind fun t112 => (some (t106, t112, wrap64 (t111 + 1)))) else (none)) else (none)) else (none))) = some (r1, r2, r3) := H
                            have A40 := Aside0.mk A400
                            clear A400
                            by_cases c41 : t111 = (a0.size : Int)
                            · rw [if_pos c41] at H
                              have c41b0 : (t111 == (a0.size : Int)) = true := beq_iff_eq.mpr c41
                              have c41b1 : (t111 != (a0.size : Int)) = false := bne_eq_false_iff_eq.mpr c41
                              clear c41
                              simp only [Option.some.injEq, Prod.mk.injEq] at H
                              obtain ⟨rfl, rfl, rfl⟩ := H
                              go_wp2_with (first | ((with_reducible refine gate_callee (f := 133) rfl ?_); refine goesL_ (some 85) rfl rfl Tryz.func133 (by kernel_rfl) rfl #[.string a0, .int .i64 (wrap64 (t110 + 1)), .string (a0.extract (t110 : Int).toNat ((wrap64 (t110 + 1)) : Int).toNat)] rfl (by (try simp only [List.map_toArray, List.map_cons, List.map_nil]); first | done | rfl | (simp only [List.length_drop, List.length_take]; rfl)) ?_; (with_reducible refine (boltingref06_find.calls kj25 a0 (wrap64 (t110 + 1)) (a0.extract (t110 : Int).toNat ((wrap64 (t110 + 1)) : Int).toNat) t111 _ A40.out).mono ?_); rintro e w42 ⟨rfl, hb⟩; refine ⟨_, rfl, ?_⟩; have n0_ := Aside0.mk (blk_below (g := gb104) (o := .cells #[.string (⟨#[]⟩ : ByteArray), .string (⟨#[]⟩ : ByteArray)] 40 (0, 0)) (by (with_reducible repeat (first | refine blk_drewN ?_ _ | refine blk_drew ?_ | refine blk_alloc ?_ _)); exact BK104.out) hb); have n1_ := Aside0.mk (blk_below (g := gb107) (o := .cells #[.string t106, .string (⟨#[]⟩ : ByteArray)] 40 (0, 0)) (by (with_reducible repeat (first | refine blk_drewN ?_ _ | refine blk_drew ?_ | refine blk_alloc ?_ _)); exact BK107.out) hb); have n2_ := Aside0.mk (below_step (by repeat (first | (with_reducible first | exact HB.out | apply below_alloc | apply pw_below_drewN | apply below_drew1 | refine below_set ?_ GE104.out | refine below_set ?_ GE107.out) | exact HB.out)) hb); clear BK104; clear BK107; clear HB; have BK104 := n0_; have BK107 := n1_; have HB := n2_; clear n0_ n1_ n2_; (try clear hb); (try clear hb2); (try clear hk); (try clear hi); have hnb43 := NB107_104.out; have hnc43 := NB104_107.out; have hcz44_0 : w42.cell? ⟨gb107, 0, none⟩ = some (.string t106) := (blk_cell BK107.out 0).trans rfl; have hcz44_1 : w42.cell? ⟨gb107, 1, none⟩ = some (.string (⟨#[]⟩ : ByteArray)) := (blk_cell BK107.out 1).trans rfl; have hfz44_0 := blk_frozen BK107.out 0; have hfz44_1 := blk_frozen BK107.out 1; have hcz45_0 : w42.cell? ⟨gb104, 0, none⟩ = some (.string (⟨#[]⟩ : ByteArray)) := (blk_cell BK104.out 0).trans rfl; have hcz45_1 : w42.cell? ⟨gb104, 1, none⟩ = some (.string (⟨#[]⟩ : ByteArray)) := (blk_cell BK104.out 1).trans rfl; have hfz45_0 := blk_frozen BK104.out 0; have hfz45_1 := blk_frozen BK104.out 1))
                              refine bodyPost_ret (results_ct rfl _ _ gb104 40 #[.string t106, .string (⟨#[]⟩ : ByteArray)] (0, 0) _ rfl (by (with_reducible repeat (first | refine blk_drewN ?_ _ | refine blk_drew ?_ | refine blk_alloc ?_ _)); refine blk_put (cs := #[.string t106, .string (⟨#[]⟩ : ByteArray)]) ?_ 1 _ rfl; (with_reducible repeat (first | refine blk_drewN ?_ _ | refine blk_drew ?_ | refine blk_alloc ?_ _)); refine blk_put (cs := #[.string (⟨#[]⟩ : ByteArray), .string (⟨#[]⟩ : ByteArray)]) ?_ 0 _ rfl; (with_reducible repeat (first | refine blk_drewN ?_ _ | refine blk_drew ?_ | refine blk_alloc ?_ _)); exact BK104.out) Tryz.underlying40 rfl (by kernel_rfl)) rfl ?_
                              exact ⟨by first | rfl | (simp [errW_none, errW_some] <;> rfl) | (simp [*, errW_none, errW_some] <;> rfl), by repeat (first | (with_reducible first | exact HB.out | apply below_alloc | apply pw_below_drewN | apply below_drew1 | refine below_set ?_ GE104.out | refine below_set ?_ GE107.out) | exact HB.out)⟩
                            · rw [if_neg c41] at H
                              have c41b0 : (t111 == (a0.size : Int)) = false := beq_eq_false_iff_ne.mpr c41
                              have c41b1 : (t111 != (a0.size : Int)) = true := bne_iff_ne.mpr c41
                              obtain ⟨ji46, hji46⟩ : ∃ j_ : Int, (wrap64 (t110 + 1)) = j_ := ⟨_, rfl⟩
                              replace H : (if 0 ≤ (ji46) then (if (ji46) ≤ t111 then (if t111 ≤ (a0.size : Int) then ((boltingref03_Decode.f (a0.extract ((ji46) : Int).toNat (t111 : Int).toNat)).bind fun t112 => (some (t106, t112, wrap64 (t111 + 1)))) else (none)) else (none)) else (none)) = some (r1, r2, r3) := by first | (rw [hji46] at H; exact H) | (simp only [hji46] at H ⊢; exact H)
                              (try rw [hji46] at c38b0)
                              (try rw [hji46] at c38b1)
                              (try rw [hji46] at c38)
                              (try rw [hji46] at c39b0)
                              (try rw [hji46] at c39b1)
                              (try rw [hji46] at c39)
                              (try rw [hji46] at A40)
                              have hji46w : (IntKind.i64.wrap (t110 + 1)) = ji46 := (i64_w _).trans hji46
                              (try rw [hji46] at c38b0)
                              (try rw [hji46] at c38b1)
                              (try rw [hji46] at c38)
                              (try rw [hji46] at c39b0)
                              (try rw [hji46] at c39b1)
                              (try rw [hji46] at c39)
                              (try rw [hji46] at A40)
                              by_cases c47 : 0 ≤ (ji46)
                              · rw [if_pos c47] at H
                                have c47b0 := eq_true c47
                                have c47b1 : decide (0 ≤ (ji46)) = true := decide_eq_true c47
                                clear c47
                                by_cases c48 : (ji46) ≤ t111
                                · rw [if_pos c48] at H
                                  have c48b0 := eq_true c48
                                  have c48b1 : decide ((ji46) ≤ t111) = true := decide_eq_true c48
                                  clear c48
                                  by_cases c49 : t111 ≤ (a0.size : Int)
                                  · rw [if_pos c49] at H
                                    have c49b0 := eq_true c49
                                    have c49b1 : decide (t111 ≤ (a0.size : Int)) = true := decide_eq_true c49
                                    clear c49
                                    replace H := Option.bind_eq_some_iff.mp H
                                    obtain ⟨t112, A500, H⟩ := H
                                    replace H : (some (t106, t112, wrap64 (t111 + 1))) = some (r1, r2, r3) := H
                                    have A50 := Aside0.mk A500
                                    clear A500
                                    simp only [Option.some.injEq, Prod.mk.injEq] at H
                                    obtain ⟨rfl, rfl, rfl⟩ := H
                                    go_wp2_with (first | ((with_reducible refine gate_callee (f := 133) rfl ?_); refine goesL_ (some 85) rfl rfl Tryz.func133 (by kernel_rfl) rfl #[.string a0, .int .i64 ji46, .string (a0.extract (t110 : Int).toNat ((ji46) : Int).toNat)] rfl (by (try simp only [List.map_toArray, List.map_cons, List.map_nil]); first | done | (simp only [hji46]; rfl) | rfl | (simp only [List.length_drop, List.length_take]; rfl)) ?_; (with_reducible refine (boltingref06_find.calls kj25 a0 ji46 (a0.extract (t110 : Int).toNat ((ji46) : Int).toNat) t111 _ A40.out).mono ?_); rintro e w51 ⟨rfl, hb⟩; refine ⟨_, rfl, ?_⟩; have n0_ := Aside0.mk (blk_below (g := gb104) (o := .cells #[.string (⟨#[]⟩ : ByteArray), .string (⟨#[]⟩ : ByteArray)] 40 (0, 0)) (by (with_reducible repeat (first | refine blk_drewN ?_ _ | refine blk_drew ?_ | refine blk_alloc ?_ _)); exact BK104.out) hb); have n1_ := Aside0.mk (blk_below (g := gb107) (o := .cells #[.string t106, .string (⟨#[]⟩ : ByteArray)] 40 (0, 0)) (by (with_reducible repeat (first | refine blk_drewN ?_ _ | refine blk_drew ?_ | refine blk_alloc ?_ _)); exact BK107.out) hb); have n2_ := Aside0.mk (below_step (by repeat (first | (with_reducible first | exact HB.out | apply below_alloc | apply pw_below_drewN | apply below_drew1 | refine below_set ?_ GE104.out | refine below_set ?_ GE107.out) | exact HB.out)) hb); clear BK104; clear BK107; clear HB; have BK104 := n0_; have BK107 := n1_; have HB := n2_; clear n0_ n1_ n2_; (try clear hb); (try clear hb2); (try clear hk); (try clear hi)) | ((with_reducible refine gate_callee (f := 81) rfl ?_); refine goesL_ (some 99) rfl rfl Tryz.func81 (by kernel_rfl) rfl #[.string (a0.extract ((ji46) : Int).toNat (t111 : Int).toNat)] rfl (by (try simp only [List.map_toArray, List.map_cons, List.map_nil]); first | done | (simp only [hji46]; rfl) | rfl | (simp only [List.length_drop, List.length_take]; rfl)) ?_; (with_reducible refine (boltingref03_Decode.calls (a0.extract ((ji46) : Int).toNat (t111 : Int).toNat) t112 _ A50.out).mono ?_); rintro e w52 ⟨rfl, hb⟩; refine ⟨_, rfl, ?_⟩; have n0_ := Aside0.mk (blk_below (g := gb104) (o := .cells #[.string (⟨#[]⟩ : ByteArray), .string (⟨#[]⟩ : ByteArray)] 40 (0, 0)) (by (with_reducible repeat (first | refine blk_drewN ?_ _ | refine blk_drew ?_ | refine blk_alloc ?_ _)); exact BK104.out) hb); have n1_ := Aside0.mk (blk_below (g := gb107) (o := .cells #[.string t106, .string (⟨#[]⟩ : ByteArray)] 40 (0, 0)) (by (with_reducible repeat (first | refine blk_drewN ?_ _ | refine blk_drew ?_ | refine blk_alloc ?_ _)); exact BK107.out) hb); have n2_ := Aside0.mk (below_step (by repeat (first | (with_reducible first | exact HB.out | apply below_alloc | apply pw_below_drewN | apply below_drew1 | refine below_set ?_ GE104.out | refine below_set ?_ GE107.out) | exact HB.out)) hb); clear BK104; clear BK107; clear HB; have BK104 := n0_; have BK107 := n1_; have HB := n2_; clear n0_ n1_ n2_; (try clear hb); (try clear hb2); (try clear hk); (try clear hi); have hnb53 := NB107_104.out; have hnc53 := NB104_107.out; have hcz54_0 : w52.cell? ⟨gb107, 0, none⟩ = some (.string t106) := (blk_cell BK107.out 0).trans rfl; have hcz54_1 : w52.cell? ⟨gb107, 1, none⟩ = some (.string (⟨#[]⟩ : ByteArray)) := (blk_cell BK107.out 1).trans rfl; have hfz54_0 := blk_frozen BK107.out 0; have hfz54_1 := blk_frozen BK107.out 1; have hcz55_0 : w52.cell? ⟨gb104, 0, none⟩ = some (.string (⟨#[]⟩ : ByteArray)) := (blk_cell BK104.out 0).trans rfl; have hcz55_1 : w52.cell? ⟨gb104, 1, none⟩ = some (.string (⟨#[]⟩ : ByteArray)) := (blk_cell BK104.out 1).trans rfl; have hfz55_0 := blk_frozen BK104.out 0; have hfz55_1 := blk_frozen BK104.out 1))
                                    refine bodyPost_ret (results_ct rfl _ _ gb104 40 #[.string t106, .string t112] (0, 0) _ rfl (by (with_reducible repeat (first | refine blk_drewN ?_ _ | refine blk_drew ?_ | refine blk_alloc ?_ _)); refine blk_put (cs := #[.string t106, .string (⟨#[]⟩ : ByteArray)]) ?_ 1 _ rfl; (with_reducible repeat (first | refine blk_drewN ?_ _ | refine blk_drew ?_ | refine blk_alloc ?_ _)); refine blk_put (cs := #[.string (⟨#[]⟩ : ByteArray), .string (⟨#[]⟩ : ByteArray)]) ?_ 0 _ rfl; (with_reducible repeat (first | refine blk_drewN ?_ _ | refine blk_drew ?_ | refine blk_alloc ?_ _)); refine blk_far ?_ NB104_107.out _; (with_reducible repeat (first | refine blk_drewN ?_ _ | refine blk_drew ?_ | refine blk_alloc ?_ _)); exact BK104.out) Tryz.underlying40 rfl (by kernel_rfl)) rfl ?_
                                    exact ⟨by first | rfl | (simp [errW_none, errW_some] <;> rfl) | (simp only [← hji46]; first | rfl | (simp [errW_none, errW_some] <;> rfl)) | (simp [*, errW_none, errW_some] <;> rfl), by repeat (first | (with_reducible first | exact HB.out | apply below_alloc | apply pw_below_drewN | apply below_drew1 | refine below_set ?_ GE104.out | refine below_set ?_ GE107.out) | exact HB.out)⟩
                                  · rw [if_neg c49] at H
                                    exact absurd H (by simp)
                                · rw [if_neg c48] at H
                                  exact absurd H (by simp)
                              · rw [if_neg c47] at H
                                exact absurd H (by simp)
                          · rw [if_neg c39] at H
                            exact absurd H (by simp)
                        · rw [if_neg c38] at H
                          exact absurd H (by simp)
                      · rw [if_neg c37] at H
                        exact absurd H (by simp)
                    · replace c36 := Bool.eq_false_iff.mpr c36
                      subst c36
                      have H1 : (boltingref06_attr.l1 kj25 a0 t110 t110 t106 (⟨#[]⟩ : ByteArray)) = some (r1, r2, r3) := by rw [if_neg (show ¬ (false = true) by decide)] at H; first | exact H | (simp only [eq_self] at H ⊢; exact H) | (simp only [eq_self, if_true] at H ⊢; exact H)
                      clear H
                      have H := H1
                      clear H1
                      have H' := Aside0.mk H
                      clear H
                      go_wp2
                      go_loopg [10] kj25 (fun kq v10 w' => ∃ (x10_3 : Int), v10 = .int .i64 x10_3 ∧ Aside0 (boltingref06_attr.l1 kq a0 t110 x10_3 t106 (⟨#[]⟩ : ByteArray) = some (r1, r2, r3)) ∧ Aside0 (kq ≤ kj25) ∧ Aside0 (w'.heap[gb104]? = some (.cells #[.string (⟨#[]⟩ : ByteArray), .string (⟨#[]⟩ : ByteArray)] 40 (0, 0))) ∧ Aside0 (w'.heap[gb107]? = some (.cells #[.string t106, .string (⟨#[]⟩ : ByteArray)] 40 (0, 0))) ∧ Aside0 (Below w.heap.size w w'))
                      case atStart => exact ⟨(t110), (by first | rfl | (simp; done) | (simp [*]; done)), H', ⟨Nat.le_refl _⟩, ⟨by (with_reducible repeat (first | refine blk_drewN ?_ _ | refine blk_drew ?_ | refine blk_alloc ?_ _)); exact BK104.out⟩, ⟨by (with_reducible repeat (first | refine blk_drewN ?_ _ | refine blk_drew ?_ | refine blk_alloc ?_ _)); exact BK107.out⟩, ⟨by repeat (first | (with_reducible first | exact HB.out | apply below_alloc | apply pw_below_drewN | apply below_drew1 | refine below_set ?_ GE104.out | refine below_set ?_ GE107.out) | exact HB.out)⟩⟩
                      case round =>
                        clear H'
                        try clear c1
                        try clear p1
                        try clear q1
                        try clear hx1
                        try clear c2
                        try clear p2
                        try clear c3
                        try clear p3
                        try clear q3
                        try clear hx3
                        try clear c4
                        try clear c5
                        try clear c5b0
                        try clear c6
                        try clear c6b0
                        try clear p6
                        try clear p7
                        try clear q7
                        try clear hx7
                        try clear c8
                        try clear c9
                        try clear p10
                        try clear q10
                        try clear hx10
                        try clear c11
                        try clear c11b0
                        try clear c11b1
                        try clear c12
                        try clear c12b0
                        try clear c12b1
                        try clear c13
                        try clear c13b0
                        try clear c13b1
                        try clear c14
                        try clear c14b0
                        try clear c14b1
                        try clear c18
                        try clear c20
                        try clear c20b0
                        try clear c20b1
                        try clear c23
                        try clear c29
                        try clear c31
                        try clear c31b0
                        try clear c32
                        try clear c32b0
                        try clear p33
                        try clear q33
                        try clear hx33
                        try clear c34
                        try clear c34b0
                        try clear c34b1
                        try clear p35
                        try clear q35
                        try clear hx35
                        try clear c36
                        try clear c37
                        try clear c37b0
                        try clear c37b1
                        try clear c38
                        try clear c38b0
                        try clear c38b1
                        try clear c39
                        try clear c39b0
                        try clear c39b1
                        try clear c40
                        try clear c41
                        try clear c41b0
                        try clear c41b1
                        try clear c43
                        try clear c47
                        try clear c47b0
                        try clear c47b1
                        try clear c48
                        try clear c48b0
                        try clear c48b1
                        try clear c49
                        try clear c49b0
                        try clear c49b1
                        try clear c53
                        try clear hcz24_0
                        try clear hcz24_1
                        try clear hcz25_0
                        try clear hcz25_1
                        try clear hcz30_0
                        try clear hcz30_1
                        try clear hcz44_0
                        try clear hcz44_1
                        try clear hcz45_0
                        try clear hcz45_1
                        try clear hcz54_0
                        try clear hcz54_1
                        try clear hcz55_0
                        try clear hcz55_1
                        try clear hfz24_0
                        try clear hfz24_1
                        try clear hfz25_0
                        try clear hfz25_1
                        try clear hfz30_0
                        try clear hfz30_1
                        try clear hfz44_0
                        try clear hfz44_1
                        try clear hfz45_0
                        try clear hfz45_1
                        try clear hfz54_0
                        try clear hfz54_1
                        try clear hfz55_0
                        try clear hfz55_1
                        try clear p1
                        try clear p10
                        try clear p2
                        try clear p3
                        try clear p33
                        try clear p35
                        try clear p6
                        try clear p7
                        try clear q1
                        try clear q10
                        try clear q3
                        try clear q33
                        try clear q35
                        try clear q7
                        obtain ⟨x10_3, rfl, HA, HK3, BK104, BK107, HB⟩ := hrel
                        cases gk with
                        | zero => exact absurd HA.out (by simp [boltingref06_attr.l1])
                        | succ k3 =>
                          have H := HA.out
                          clear HA
                          simp only [boltingref06_attr.l1] at H
                          by_cases c56 : x10_3 < (a0.size : Int)
                          · rw [if_pos c56] at H
                            have c56b0 : decide (x10_3 < (a0.size : Int)) = true := decide_eq_true c56
                            clear c56
                            by_cases c57 : 0 ≤ x10_3
                            · rw [if_pos c57] at H
                              have c57b0 : decide (0 ≤ x10_3) = true := decide_eq_true c57
                              clear c57
                              replace H := Option.bind_eq_some_iff.mp H
                              obtain ⟨t113, A590, H⟩ := H
                              replace H : (if t113 = true then (if 0 ≤ t110 then (if t110 ≤ x10_3 then (if x10_3 ≤ (a0.size : Int) then ((boltingref03_Decode.f (a0.extract (t110 : Int).toNat (x10_3 : Int).toNat)).bind fun t114 => (if x10_3 = (a0.size : Int) then (some (t106, t114, wrap64 ((a0.size : Int) + 1))) else (some (t106, t114, x10_3)))) else (none)) else (none)) else (none)) else (if (bt a0 x10_3) = 62 then (if 0 ≤ t110 then (if t110 ≤ x10_3 then (if x10_3 ≤ (a0.size : Int) then ((boltingref03_Decode.f (a0.extract (t110 : Int).toNat (x10_3 : Int).toNat)).bind fun t115 => (if x10_3 = (a0.size : Int) then (some (t106, t115, wrap64 ((a0.size : Int) + 1))) else (some (t106, t115, x10_3)))) else (none)) else (none)) else (none)) else (boltingref06_attr.l1 k3 a0 t110 (wrap64 (x10_3 + 1)) t106 (⟨#[]⟩ : ByteArray)))) = some (r1, r2, r3) := H
                              have A59 := Aside0.mk A590
                              clear A590
                              by_cases c60 : t113 = true
                              · subst c60
                                have H1 : (if 0 ≤ t110 then (if t110 ≤ x10_3 then (if x10_3 ≤ (a0.size : Int) then ((boltingref03_Decode.f (a0.extract (t110 : Int).toNat (x10_3 : Int).toNat)).bind fun t114 => (if x10_3 = (a0.size : Int) then (some (t106, t114, wrap64 ((a0.size : Int) + 1))) else (some (t106, t114, x10_3)))) else (none)) else (none)) else (none)) = some (r1, r2, r3) := by rw [if_pos rfl] at H; exact H
                                clear H
                                have H := H1
                                clear H1
                                by_cases c61 : 0 ≤ t110
                                · rw [if_pos c61] at H
                                  have c61b0 := eq_true c61
                                  have c61b1 : decide (0 ≤ t110) = true := decide_eq_true c61
                                  clear c61
                                  by_cases c62 : t110 ≤ x10_3
                                  · rw [if_pos c62] at H
                                    have c62b0 := eq_true c62
                                    have c62b1 : decide (t110 ≤ x10_3) = true := decide_eq_true c62
                                    clear c62
                                    by_cases c63 : x10_3 ≤ (a0.size : Int)
                                    · rw [if_pos c63] at H
                                      have c63b0 := eq_true c63
                                      have c63b1 : decide (x10_3 ≤ (a0.size : Int)) = true := decide_eq_true c63
                                      clear c63
                                      replace H := Option.bind_eq_some_iff.mp H
                                      obtain ⟨t114, A640, H⟩ := H
                                      replace H : (if x10_3 = (a0.size : Int) then (some (t106, t114, wrap64 ((a0.size : Int) + 1))) else (some (t106, t114, x10_3))) = some (r1, r2, r3) := H
                                      have A64 := Aside0.mk A640
                                      clear A640
                                      by_cases c65 : x10_3 = (a0.size : Int)
                                      · rw [if_pos c65] at H
                                        have c65b0 : (x10_3 == (a0.size : Int)) = true := beq_iff_eq.mpr c65
                                        have c65b1 : (x10_3 != (a0.size : Int)) = false := bne_eq_false_iff_eq.mpr c65
                                        clear c65
                                        simp only [Option.some.injEq, Prod.mk.injEq] at H
                                        obtain ⟨rfl, rfl, rfl⟩ := H
                                        have p58 : 0 ≤ (x10_3 : Int) := (by first | exact of_decide_eq_true (by first | (with_reducible assumption) | assumption) | assumption | omega)
                                        have q58 : x10_3 < (a0.size : Int) := (by first | exact of_decide_eq_true (by first | (with_reducible assumption) | assumption) | assumption | omega)
                                        have hx58 := bt_at a0 x10_3
                                        replace p58 := eq_true p58
                                        replace q58 := eq_true q58
                                        go_wp2_with (first | (go_at_call 85; (with_reducible refine (boltingref02_Space.calls (bt a0 x10_3) true _ A59.out).mono ?_); rintro e w' ⟨rfl, ⟨nd, rfl⟩⟩; (try (rw [drewN_self wr]; generalize hq_ : World.drewN wr _ = wr; have n0_ : Aside0 (wr.heap[gb104]? = some (.cells #[.string (⟨#[]⟩ : ByteArray), .string (⟨#[]⟩ : ByteArray)] 40 (0, 0))) := ⟨by rw [← hq_]; exact (by (with_reducible repeat (first | refine blk_drewN ?_ _ | refine blk_drew ?_ | refine blk_alloc ?_ _)); exact BK104.out)⟩; have n1_ : Aside0 (wr.heap[gb107]? = some (.cells #[.string t106, .string (⟨#[]⟩ : ByteArray)] 40 (0, 0))) := ⟨by rw [← hq_]; exact (by (with_reducible repeat (first | refine blk_drewN ?_ _ | refine blk_drew ?_ | refine blk_alloc ?_ _)); exact BK107.out)⟩; have n2_ : Aside0 (Below w.heap.size w wr) := ⟨by rw [← hq_]; exact (by repeat (first | (with_reducible first | exact HB.out | apply below_alloc | apply pw_below_drewN | apply below_drew1 | refine below_set ?_ GE104.out | refine below_set ?_ GE107.out) | exact HB.out))⟩; clear BK104 BK107 HB hq_; have BK104 := n0_; have BK107 := n1_; have HB := n2_; clear n0_ n1_ n2_))) | ((with_reducible refine gate_callee (f := 81) rfl ?_); refine goesL_ (some 128) rfl rfl Tryz.func81 (by kernel_rfl) rfl #[.string (a0.extract (t110 : Int).toNat (x10_3 : Int).toNat)] rfl (by (try simp only [List.map_toArray, List.map_cons, List.map_nil]); first | done | rfl | (simp only [List.length_drop, List.length_take]; rfl)) ?_; (with_reducible refine (boltingref03_Decode.calls (a0.extract (t110 : Int).toNat (x10_3 : Int).toNat) t114 _ A64.out).mono ?_); rintro e w66 ⟨rfl, hb⟩; refine ⟨_, rfl, ?_⟩; have n0_ := Aside0.mk (blk_below (g := gb104) (o := .cells #[.string (⟨#[]⟩ : ByteArray), .string (⟨#[]⟩ : ByteArray)] 40 (0, 0)) (by (with_reducible repeat (first | refine blk_drewN ?_ _ | refine blk_drew ?_ | refine blk_alloc ?_ _)); exact BK104.out) hb); have n1_ := Aside0.mk (blk_below (g := gb107) (o := .cells #[.string t106, .string (⟨#[]⟩ : ByteArray)] 40 (0, 0)) (by (with_reducible repeat (first | refine blk_drewN ?_ _ | refine blk_drew ?_ | refine blk_alloc ?_ _)); exact BK107.out) hb); have n2_ := Aside0.mk (below_step (by repeat (first | (with_reducible first | exact HB.out | apply below_alloc | apply pw_below_drewN | apply below_drew1 | refine below_set ?_ GE104.out | refine below_set ?_ GE107.out) | exact HB.out)) hb); clear BK104; clear BK107; clear HB; have BK104 := n0_; have BK107 := n1_; have HB := n2_; clear n0_ n1_ n2_; (try clear hb); (try clear hb2); (try clear hk); (try clear hi); have hnb67 := NB107_104.out; have hnc67 := NB104_107.out; have hcz68_0 : w66.cell? ⟨gb107, 0, none⟩ = some (.string t106) := (blk_cell BK107.out 0).trans rfl; have hcz68_1 : w66.cell? ⟨gb107, 1, none⟩ = some (.string (⟨#[]⟩ : ByteArray)) := (blk_cell BK107.out 1).trans rfl; have hfz68_0 := blk_frozen BK107.out 0; have hfz68_1 := blk_frozen BK107.out 1; have hcz69_0 : w66.cell? ⟨gb104, 0, none⟩ = some (.string (⟨#[]⟩ : ByteArray)) := (blk_cell BK104.out 0).trans rfl; have hcz69_1 : w66.cell? ⟨gb104, 1, none⟩ = some (.string (⟨#[]⟩ : ByteArray)) := (blk_cell BK104.out 1).trans rfl; have hfz69_0 := blk_frozen BK104.out 0; have hfz69_1 := blk_frozen BK104.out 1))
                                        refine bodyPost_ret (results_ct rfl _ _ gb104 40 #[.string t106, .string t114] (0, 0) _ rfl (by (with_reducible repeat (first | refine blk_drewN ?_ _ | refine blk_drew ?_ | refine blk_alloc ?_ _)); refine blk_put (cs := #[.string t106, .string (⟨#[]⟩ : ByteArray)]) ?_ 1 _ rfl; (with_reducible repeat (first | refine blk_drewN ?_ _ | refine blk_drew ?_ | refine blk_alloc ?_ _)); refine blk_put (cs := #[.string (⟨#[]⟩ : ByteArray), .string (⟨#[]⟩ : ByteArray)]) ?_ 0 _ rfl; (with_reducible repeat (first | refine blk_drewN ?_ _ | refine blk_drew ?_ | refine blk_alloc ?_ _)); refine blk_far ?_ NB104_107.out _; (with_reducible repeat (first | refine blk_drewN ?_ _ | refine blk_drew ?_ | refine blk_alloc ?_ _)); exact BK104.out) Tryz.underlying40 rfl (by kernel_rfl)) rfl ?_
                                        exact ⟨by first | rfl | (simp [errW_none, errW_some] <;> rfl) | (simp [*, errW_none, errW_some] <;> rfl), by repeat (first | (with_reducible first | exact HB.out | apply below_alloc | apply pw_below_drewN | apply below_drew1 | refine below_set ?_ GE104.out | refine below_set ?_ GE107.out) | exact HB.out)⟩
                                      · rw [if_neg c65] at H
                                        have c65b0 : (x10_3 == (a0.size : Int)) = false := beq_eq_false_iff_ne.mpr c65
                                        have c65b1 : (x10_3 != (a0.size : Int)) = true := bne_iff_ne.mpr c65
                                        simp only [Option.some.injEq, Prod.mk.injEq] at H
                                        obtain ⟨rfl, rfl, rfl⟩ := H
                                        have p58 : 0 ≤ (x10_3 : Int) := (by first | exact of_decide_eq_true (by first | (with_reducible assumption) | assumption) | assumption | omega)
                                        have q58 : x10_3 < (a0.size : Int) := (by first | exact of_decide_eq_true (by first | (with_reducible assumption) | assumption) | assumption | omega)
                                        have hx58 := bt_at a0 x10_3
                                        replace p58 := eq_true p58
                                        replace q58 := eq_true q58
                                        go_wp2_with (first | (go_at_call 85; (with_reducible refine (boltingref02_Space.calls (bt a0 x10_3) true _ A59.out).mono ?_); rintro e w' ⟨rfl, ⟨nd, rfl⟩⟩; (try (rw [drewN_self wr]; generalize hq_ : World.drewN wr _ = wr; have n0_ : Aside0 (wr.heap[gb104]? = some (.cells #[.string (⟨#[]⟩ : ByteArray), .string (⟨#[]⟩ : ByteArray)] 40 (0, 0))) := ⟨by rw [← hq_]; exact (by (with_reducible repeat (first | refine blk_drewN ?_ _ | refine blk_drew ?_ | refine blk_alloc ?_ _)); exact BK104.out)⟩; have n1_ : Aside0 (wr.heap[gb107]? = some (.cells #[.string t106, .string (⟨#[]⟩ : ByteArray)] 40 (0, 0))) := ⟨by rw [← hq_]; exact (by (with_reducible repeat (first | refine blk_drewN ?_ _ | refine blk_drew ?_ | refine blk_alloc ?_ _)); exact BK107.out)⟩; have n2_ : Aside0 (Below w.heap.size w wr) := ⟨by rw [← hq_]; exact (by repeat (first | (with_reducible first | exact HB.out | apply below_alloc | apply pw_below_drewN | apply below_drew1 | refine below_set ?_ GE104.out | refine below_set ?_ GE107.out) | exact HB.out))⟩; clear BK104 BK107 HB hq_; have BK104 := n0_; have BK107 := n1_; have HB := n2_; clear n0_ n1_ n2_))) | ((with_reducible refine gate_callee (f := 81) rfl ?_); refine goesL_ (some 128) rfl rfl Tryz.func81 (by kernel_rfl) rfl #[.string (a0.extract (t110 : Int).toNat (x10_3 : Int).toNat)] rfl (by (try simp only [List.map_toArray, List.map_cons, List.map_nil]); first | done | rfl | (simp only [List.length_drop, List.length_take]; rfl)) ?_; (with_reducible refine (boltingref03_Decode.calls (a0.extract (t110 : Int).toNat (x10_3 : Int).toNat) t114 _ A64.out).mono ?_); rintro e w70 ⟨rfl, hb⟩; refine ⟨_, rfl, ?_⟩; have n0_ := Aside0.mk (blk_below (g := gb104) (o := .cells #[.string (⟨#[]⟩ : ByteArray), .string (⟨#[]⟩ : ByteArray)] 40 (0, 0)) (by (with_reducible repeat (first | refine blk_drewN ?_ _ | refine blk_drew ?_ | refine blk_alloc ?_ _)); exact BK104.out) hb); have n1_ := Aside0.mk (blk_below (g := gb107) (o := .cells #[.string t106, .string (⟨#[]⟩ : ByteArray)] 40 (0, 0)) (by (with_reducible repeat (first | refine blk_drewN ?_ _ | refine blk_drew ?_ | refine blk_alloc ?_ _)); exact BK107.out) hb); have n2_ := Aside0.mk (below_step (by repeat (first | (with_reducible first | exact HB.out | apply below_alloc | apply pw_below_drewN | apply below_drew1 | refine below_set ?_ GE104.out | refine below_set ?_ GE107.out) | exact HB.out)) hb); clear BK104; clear BK107; clear HB; have BK104 := n0_; have BK107 := n1_; have HB := n2_; clear n0_ n1_ n2_; (try clear hb); (try clear hb2); (try clear hk); (try clear hi); have hnb71 := NB107_104.out; have hnc71 := NB104_107.out; have hcz72_0 : w70.cell? ⟨gb107, 0, none⟩ = some (.string t106) := (blk_cell BK107.out 0).trans rfl; have hcz72_1 : w70.cell? ⟨gb107, 1, none⟩ = some (.string (⟨#[]⟩ : ByteArray)) := (blk_cell BK107.out 1).trans rfl; have hfz72_0 := blk_frozen BK107.out 0; have hfz72_1 := blk_frozen BK107.out 1; have hcz73_0 : w70.cell? ⟨gb104, 0, none⟩ = some (.string (⟨#[]⟩ : ByteArray)) := (blk_cell BK104.out 0).trans rfl; have hcz73_1 : w70.cell? ⟨gb104, 1, none⟩ = some (.string (⟨#[]⟩ : ByteArray)) := (blk_cell BK104.out 1).trans rfl; have hfz73_0 := blk_frozen BK104.out 0; have hfz73_1 := blk_frozen BK104.out 1))
                                        refine bodyPost_ret (results_ct rfl _ _ gb104 40 #[.string t106, .string t114] (0, 0) _ rfl (by (with_reducible repeat (first | refine blk_drewN ?_ _ | refine blk_drew ?_ | refine blk_alloc ?_ _)); refine blk_put (cs := #[.string t106, .string (⟨#[]⟩ : ByteArray)]) ?_ 1 _ rfl; (with_reducible repeat (first | refine blk_drewN ?_ _ | refine blk_drew ?_ | refine blk_alloc ?_ _)); refine blk_put (cs := #[.string (⟨#[]⟩ : ByteArray), .string (⟨#[]⟩ : ByteArray)]) ?_ 0 _ rfl; (with_reducible repeat (first | refine blk_drewN ?_ _ | refine blk_drew ?_ | refine blk_alloc ?_ _)); refine blk_far ?_ NB104_107.out _; (with_reducible repeat (first | refine blk_drewN ?_ _ | refine blk_drew ?_ | refine blk_alloc ?_ _)); exact BK104.out) Tryz.underlying40 rfl (by kernel_rfl)) rfl ?_
                                        exact ⟨by first | rfl | (simp [errW_none, errW_some] <;> rfl) | (simp [*, errW_none, errW_some] <;> rfl), by repeat (first | (with_reducible first | exact HB.out | apply below_alloc | apply pw_below_drewN | apply below_drew1 | refine below_set ?_ GE104.out | refine below_set ?_ GE107.out) | exact HB.out)⟩
                                    · rw [if_neg c63] at H
                                      exact absurd H (by simp)
                                  · rw [if_neg c62] at H
                                    exact absurd H (by simp)
                                · rw [if_neg c61] at H
                                  exact absurd H (by simp)
                              · replace c60 := Bool.eq_false_iff.mpr c60
                                subst c60
                                have H1 : (if (bt a0 x10_3) = 62 then (if 0 ≤ t110 then (if t110 ≤ x10_3 then (if x10_3 ≤ (a0.size : Int) then ((boltingref03_Decode.f (a0.extract (t110 : Int).toNat (x10_3 : Int).toNat)).bind fun t115 => (if x10_3 = (a0.size : Int) then (some (t106, t115, wrap64 ((a0.size : Int) + 1))) else (some (t106, t115, x10_3)))) else (none)) else (none)) else (none)) else (boltingref06_attr.l1 k3 a0 t110 (wrap64 (x10_3 + 1)) t106 (⟨#[]⟩ : ByteArray))) = some (r1, r2, r3) := by rw [if_neg (show ¬ (false = true) by decide)] at H; first | exact H | (simp only [eq_self] at H ⊢; exact H) | (simp only [eq_self, if_true] at H ⊢; exact H)
                                clear H
                                have H := H1
                                clear H1
                                by_cases c75 : (bt a0 x10_3) = 62
                                · rw [if_pos c75] at H
                                  have c75b0 : ((bt a0 x10_3) == 62) = true := beq_iff_eq.mpr c75
                                  have c75b1 : ((bt a0 x10_3) != 62) = false := bne_eq_false_iff_eq.mpr c75
                                  clear c75
                                  by_cases c76 : 0 ≤ t110
                                  · rw [if_pos c76] at H
                                    have c76b0 := eq_true c76
                                    have c76b1 : decide (0 ≤ t110) = true := decide_eq_true c76
                                    clear c76
                                    by_cases c77 : t110 ≤ x10_3
                                    · rw [if_pos c77] at H
                                      have c77b0 := eq_true c77
                                      have c77b1 : decide (t110 ≤ x10_3) = true := decide_eq_true c77
                                      clear c77
                                      by_cases c78 : x10_3 ≤ (a0.size : Int)
                                      · rw [if_pos c78] at H
                                        have c78b0 := eq_true c78
                                        have c78b1 : decide (x10_3 ≤ (a0.size : Int)) = true := decide_eq_true c78
                                        clear c78
                                        replace H := Option.bind_eq_some_iff.mp H
                                        obtain ⟨t115, A790, H⟩ := H
                                        replace H : (if x10_3 = (a0.size : Int) then (some (t106, t115, wrap64 ((a0.size : Int) + 1))) else (some (t106, t115, x10_3))) = some (r1, r2, r3) := H
                                        have A79 := Aside0.mk A790
                                        clear A790
                                        by_cases c80 : x10_3 = (a0.size : Int)
                                        · rw [if_pos c80] at H
                                          have c80b0 : (x10_3 == (a0.size : Int)) = true := beq_iff_eq.mpr c80
                                          have c80b1 : (x10_3 != (a0.size : Int)) = false := bne_eq_false_iff_eq.mpr c80
                                          clear c80
                                          simp only [Option.some.injEq, Prod.mk.injEq] at H
                                          obtain ⟨rfl, rfl, rfl⟩ := H
                                          have p58 : 0 ≤ (x10_3 : Int) := (by first | exact of_decide_eq_true (by first | (with_reducible assumption) | assumption) | assumption | omega)
                                          have q58 : x10_3 < (a0.size : Int) := (by first | exact of_decide_eq_true (by first | (with_reducible assumption) | assumption) | assumption | omega)
                                          have hx58 := bt_at a0 x10_3
                                          replace p58 := eq_true p58
                                          replace q58 := eq_true q58
                                          go_wp2_with (first | (go_at_call 85; (with_reducible refine (boltingref02_Space.calls (bt a0 x10_3) false _ A59.out).mono ?_); rintro e w' ⟨rfl, ⟨nd, rfl⟩⟩; (try (rw [drewN_self wr]; generalize hq_ : World.drewN wr _ = wr; have n0_ : Aside0 (wr.heap[gb104]? = some (.cells #[.string (⟨#[]⟩ : ByteArray), .string (⟨#[]⟩ : ByteArray)] 40 (0, 0))) := ⟨by rw [← hq_]; exact (by (with_reducible repeat (first | refine blk_drewN ?_ _ | refine blk_drew ?_ | refine blk_alloc ?_ _)); exact BK104.out)⟩; have n1_ : Aside0 (wr.heap[gb107]? = some (.cells #[.string t106, .string (⟨#[]⟩ : ByteArray)] 40 (0, 0))) := ⟨by rw [← hq_]; exact (by (with_reducible repeat (first | refine blk_drewN ?_ _ | refine blk_drew ?_ | refine blk_alloc ?_ _)); exact BK107.out)⟩; have n2_ : Aside0 (Below w.heap.size w wr) := ⟨by rw [← hq_]; exact (by repeat (first | (with_reducible first | exact HB.out | apply below_alloc | apply pw_below_drewN | apply below_drew1 | refine below_set ?_ GE104.out | refine below_set ?_ GE107.out) | exact HB.out))⟩; clear BK104 BK107 HB hq_; have BK104 := n0_; have BK107 := n1_; have HB := n2_; clear n0_ n1_ n2_)); have p74 : 0 ≤ (x10_3 : Int) := (by first | exact of_decide_eq_true (by first | (with_reducible assumption) | assumption) | assumption | omega); have q74 : x10_3 < (a0.size : Int) := (by first | exact of_decide_eq_true (by first | (with_reducible assumption) | assumption) | assumption | omega); have hx74 := bt_at a0 x10_3; replace p74 := eq_true p74; replace q74 := eq_true q74) | ((with_reducible refine gate_callee (f := 81) rfl ?_); refine goesL_ (some 128) rfl rfl Tryz.func81 (by kernel_rfl) rfl #[.string (a0.extract (t110 : Int).toNat (x10_3 : Int).toNat)] rfl (by (try simp only [List.map_toArray, List.map_cons, List.map_nil]); first | done | rfl | (simp only [List.length_drop, List.length_take]; rfl)) ?_; (with_reducible refine (boltingref03_Decode.calls (a0.extract (t110 : Int).toNat (x10_3 : Int).toNat) t115 _ A79.out).mono ?_); rintro e w81 ⟨rfl, hb⟩; refine ⟨_, rfl, ?_⟩; have n0_ := Aside0.mk (blk_below (g := gb104) (o := .cells #[.string (⟨#[]⟩ : ByteArray), .string (⟨#[]⟩ : ByteArray)] 40 (0, 0)) (by (with_reducible repeat (first | refine blk_drewN ?_ _ | refine blk_drew ?_ | refine blk_alloc ?_ _)); exact BK104.out) hb); have n1_ := Aside0.mk (blk_below (g := gb107) (o := .cells #[.string t106, .string (⟨#[]⟩ : ByteArray)] 40 (0, 0)) (by (with_reducible repeat (first | refine blk_drewN ?_ _ | refine blk_drew ?_ | refine blk_alloc ?_ _)); exact BK107.out) hb); have n2_ := Aside0.mk (below_step (by repeat (first | (with_reducible first | exact HB.out | apply below_alloc | apply pw_below_drewN | apply below_drew1 | refine below_set ?_ GE104.out | refine below_set ?_ GE107.out) | exact HB.out)) hb); clear BK104; clear BK107; clear HB; have BK104 := n0_; have BK107 := n1_; have HB := n2_; clear n0_ n1_ n2_; (try clear hb); (try clear hb2); (try clear hk); (try clear hi); have hnb82 := NB107_104.out; have hnc82 := NB104_107.out; have hcz83_0 : w81.cell? ⟨gb107, 0, none⟩ = some (.string t106) := (blk_cell BK107.out 0).trans rfl; have hcz83_1 : w81.cell? ⟨gb107, 1, none⟩ = some (.string (⟨#[]⟩ : ByteArray)) := (blk_cell BK107.out 1).trans rfl; have hfz83_0 := blk_frozen BK107.out 0; have hfz83_1 := blk_frozen BK107.out 1; have hcz84_0 : w81.cell? ⟨gb104, 0, none⟩ = some (.string (⟨#[]⟩ : ByteArray)) := (blk_cell BK104.out 0).trans rfl; have hcz84_1 : w81.cell? ⟨gb104, 1, none⟩ = some (.string (⟨#[]⟩ : ByteArray)) := (blk_cell BK104.out 1).trans rfl; have hfz84_0 := blk_frozen BK104.out 0; have hfz84_1 := blk_frozen BK104.out 1))
                                          refine bodyPost_ret (results_ct rfl _ _ gb104 40 #[.string t106, .string t115] (0, 0) _ rfl (by (with_reducible repeat (first | refine blk_drewN ?_ _ | refine blk_drew ?_ | refine blk_alloc ?_ _)); refine blk_put (cs := #[.string t106, .string (⟨#[]⟩ : ByteArray)]) ?_ 1 _ rfl; (with_reducible repeat (first | refine blk_drewN ?_ _ | refine blk_drew ?_ | refine blk_alloc ?_ _)); refine blk_put (cs := #[.string (⟨#[]⟩ : ByteArray), .string (⟨#[]⟩ : ByteArray)]) ?_ 0 _ rfl; (with_reducible repeat (first | refine blk_drewN ?_ _ | refine blk_drew ?_ | refine blk_alloc ?_ _)); refine blk_far ?_ NB104_107.out _; (with_reducible repeat (first | refine blk_drewN ?_ _ | refine blk_drew ?_ | refine blk_alloc ?_ _)); exact BK104.out) Tryz.underlying40 rfl (by kernel_rfl)) rfl ?_
                                          exact ⟨by first | rfl | (simp [errW_none, errW_some] <;> rfl) | (simp [*, errW_none, errW_some] <;> rfl), by repeat (first | (with_reducible first | exact HB.out | apply below_alloc | apply pw_below_drewN | apply below_drew1 | refine below_set ?_ GE104.out | refine below_set ?_ GE107.out) | exact HB.out)⟩
                                        · rw [if_neg c80] at H
                                          have c80b0 : (x10_3 == (a0.size : Int)) = false := beq_eq_false_iff_ne.mpr c80
                                          have c80b1 : (x10_3 != (a0.size : Int)) = true := bne_iff_ne.mpr c80
                                          simp only [Option.some.injEq, Prod.mk.injEq] at H
                                          obtain ⟨rfl, rfl, rfl⟩ := H
                                          have p58 : 0 ≤ (x10_3 : Int) := (by first | exact of_decide_eq_true (by first | (with_reducible assumption) | assumption) | assumption | omega)
                                          have q58 : x10_3 < (a0.size : Int) := (by first | exact of_decide_eq_true (by first | (with_reducible assumption) | assumption) | assumption | omega)
                                          have hx58 := bt_at a0 x10_3
                                          replace p58 := eq_true p58
                                          replace q58 := eq_true q58
                                          go_wp2_with (first | (go_at_call 85; (with_reducible refine (boltingref02_Space.calls (bt a0 x10_3) false _ A59.out).mono ?_); rintro e w' ⟨rfl, ⟨nd, rfl⟩⟩; (try (rw [drewN_self wr]; generalize hq_ : World.drewN wr _ = wr; have n0_ : Aside0 (wr.heap[gb104]? = some (.cells #[.string (⟨#[]⟩ : ByteArray), .string (⟨#[]⟩ : ByteArray)] 40 (0, 0))) := ⟨by rw [← hq_]; exact (by (with_reducible repeat (first | refine blk_drewN ?_ _ | refine blk_drew ?_ | refine blk_alloc ?_ _)); exact BK104.out)⟩; have n1_ : Aside0 (wr.heap[gb107]? = some (.cells #[.string t106, .string (⟨#[]⟩ : ByteArray)] 40 (0, 0))) := ⟨by rw [← hq_]; exact (by (with_reducible repeat (first | refine blk_drewN ?_ _ | refine blk_drew ?_ | refine blk_alloc ?_ _)); exact BK107.out)⟩; have n2_ : Aside0 (Below w.heap.size w wr) := ⟨by rw [← hq_]; exact (by repeat (first | (with_reducible first | exact HB.out | apply below_alloc | apply pw_below_drewN | apply below_drew1 | refine below_set ?_ GE104.out | refine below_set ?_ GE107.out) | exact HB.out))⟩; clear BK104 BK107 HB hq_; have BK104 := n0_; have BK107 := n1_; have HB := n2_; clear n0_ n1_ n2_)); have p74 : 0 ≤ (x10_3 : Int) := (by first | exact of_decide_eq_true (by first | (with_reducible assumption) | assumption) | assumption | omega); have q74 : x10_3 < (a0.size : Int) := (by first | exact of_decide_eq_true (by first | (with_reducible assumption) | assumption) | assumption | omega); have hx74 := bt_at a0 x10_3; replace p74 := eq_true p74; replace q74 := eq_true q74) | ((with_reducible refine gate_callee (f := 81) rfl ?_); refine goesL_ (some 128) rfl rfl Tryz.func81 (by kernel_rfl) rfl #[.string (a0.extract (t110 : Int).toNat (x10_3 : Int).toNat)] rfl (by (try simp only [List.map_toArray, List.map_cons, List.map_nil]); first | done | rfl | (simp only [List.length_drop, List.length_take]; rfl)) ?_; (with_reducible refine (boltingref03_Decode.calls (a0.extract (t110 : Int).toNat (x10_3 : Int).toNat) t115 _ A79.out).mono ?_); rintro e w85 ⟨rfl, hb⟩; refine ⟨_, rfl, ?_⟩; have n0_ := Aside0.mk (blk_below (g := gb104) (o := .cells #[.string (⟨#[]⟩ : ByteArray), .string (⟨#[]⟩ : ByteArray)] 40 (0, 0)) (by (with_reducible repeat (first | refine blk_drewN ?_ _ | refine blk_drew ?_ | refine blk_alloc ?_ _)); exact BK104.out) hb); have n1_ := Aside0.mk (blk_below (g := gb107) (o := .cells #[.string t106, .string (⟨#[]⟩ : ByteArray)] 40 (0, 0)) (by (with_reducible repeat (first | refine blk_drewN ?_ _ | refine blk_drew ?_ | refine blk_alloc ?_ _)); exact BK107.out) hb); have n2_ := Aside0.mk (below_step (by repeat (first | (with_reducible first | exact HB.out | apply below_alloc | apply pw_below_drewN | apply below_drew1 | refine below_set ?_ GE104.out | refine below_set ?_ GE107.out) | exact HB.out)) hb); clear BK104; clear BK107; clear HB; have BK104 := n0_; have BK107 := n1_; have HB := n2_; clear n0_ n1_ n2_; (try clear hb); (try clear hb2); (try clear hk); (try clear hi); have hnb86 := NB107_104.out; have hnc86 := NB104_107.out; have hcz87_0 : w85.cell? ⟨gb107, 0, none⟩ = some (.string t106) := (blk_cell BK107.out 0).trans rfl; have hcz87_1 : w85.cell? ⟨gb107, 1, none⟩ = some (.string (⟨#[]⟩ : ByteArray)) := (blk_cell BK107.out 1).trans rfl; have hfz87_0 := blk_frozen BK107.out 0; have hfz87_1 := blk_frozen BK107.out 1; have hcz88_0 : w85.cell? ⟨gb104, 0, none⟩ = some (.string (⟨#[]⟩ : ByteArray)) := (blk_cell BK104.out 0).trans rfl; have hcz88_1 : w85.cell? ⟨gb104, 1, none⟩ = some (.string (⟨#[]⟩ : ByteArray)) := (blk_cell BK104.out 1).trans rfl; have hfz88_0 := blk_frozen BK104.out 0; have hfz88_1 := blk_frozen BK104.out 1))
                                          refine bodyPost_ret (results_ct rfl _ _ gb104 40 #[.string t106, .string t115] (0, 0) _ rfl (by (with_reducible repeat (first | refine blk_drewN ?_ _ | refine blk_drew ?_ | refine blk_alloc ?_ _)); refine blk_put (cs := #[.string t106, .string (⟨#[]⟩ : ByteArray)]) ?_ 1 _ rfl; (with_reducible repeat (first | refine blk_drewN ?_ _ | refine blk_drew ?_ | refine blk_alloc ?_ _)); refine blk_put (cs := #[.string (⟨#[]⟩ : ByteArray), .string (⟨#[]⟩ : ByteArray)]) ?_ 0 _ rfl; (with_reducible repeat (first | refine blk_drewN ?_ _ | refine blk_drew ?_ | refine blk_alloc ?_ _)); refine blk_far ?_ NB104_107.out _; (with_reducible repeat (first | refine blk_drewN ?_ _ | refine blk_drew ?_ | refine blk_alloc ?_ _)); exact BK104.out) Tryz.underlying40 rfl (by kernel_rfl)) rfl ?_
                                          exact ⟨by first | rfl | (simp [errW_none, errW_some] <;> rfl) | (simp [*, errW_none, errW_some] <;> rfl), by repeat (first | (with_reducible first | exact HB.out | apply below_alloc | apply pw_below_drewN | apply below_drew1 | refine below_set ?_ GE104.out | refine below_set ?_ GE107.out) | exact HB.out)⟩
                                      · rw [if_neg c78] at H
                                        exact absurd H (by simp)
                                    · rw [if_neg c77] at H
                                      exact absurd H (by simp)
                                  · rw [if_neg c76] at H
                                    exact absurd H (by simp)
                                · rw [if_neg c75] at H
                                  have c75b0 : ((bt a0 x10_3) == 62) = false := beq_eq_false_iff_ne.mpr c75
                                  have c75b1 : ((bt a0 x10_3) != 62) = true := bne_iff_ne.mpr c75
                                  have H' := Aside0.mk H
                                  clear H
                                  have p58 : 0 ≤ (x10_3 : Int) := (by first | exact of_decide_eq_true (by first | (with_reducible assumption) | assumption) | assumption | omega)
                                  have q58 : x10_3 < (a0.size : Int) := (by first | exact of_decide_eq_true (by first | (with_reducible assumption) | assumption) | assumption | omega)
                                  have hx58 := bt_at a0 x10_3
                                  replace p58 := eq_true p58
                                  replace q58 := eq_true q58
                                  go_wp2_with (first | (go_at_call 85; (with_reducible refine (boltingref02_Space.calls (bt a0 x10_3) false _ A59.out).mono ?_); rintro e w' ⟨rfl, ⟨nd, rfl⟩⟩; have p74 : 0 ≤ (x10_3 : Int) := (by first | exact of_decide_eq_true (by first | (with_reducible assumption) | assumption) | assumption | omega); have q74 : x10_3 < (a0.size : Int) := (by first | exact of_decide_eq_true (by first | (with_reducible assumption) | assumption) | assumption | omega); have hx74 := bt_at a0 x10_3; replace p74 := eq_true p74; replace q74 := eq_true q74))
                                  go_roundg k3
                                  case measure => have := HJ2.out; have := HJ25.out; have := HK3.out; omega
                                  case rel => exact ⟨(wrap64 (x10_3 + 1)), (by first | rfl | (simp; done) | (simp [*]; done)), H', ⟨by have := HJ2.out; have := HJ25.out; have := HK3.out; omega⟩, ⟨by (with_reducible repeat (first | refine blk_drewN ?_ _ | refine blk_drew ?_ | refine blk_alloc ?_ _)); exact BK104.out⟩, ⟨by (with_reducible repeat (first | refine blk_drewN ?_ _ | refine blk_drew ?_ | refine blk_alloc ?_ _)); exact BK107.out⟩, ⟨by repeat (first | (with_reducible first | exact HB.out | apply below_alloc | apply pw_below_drewN | apply below_drew1 | refine below_set ?_ GE104.out | refine below_set ?_ GE107.out) | exact HB.out)⟩⟩
                            · rw [if_neg c57] at H
                              exact absurd H (by simp)
                          · rw [if_neg c56] at H
                            have c56b0 : decide (x10_3 < (a0.size : Int)) = false := decide_eq_false c56
                            clear c56
                            by_cases c89 : 0 ≤ t110
                            · rw [if_pos c89] at H
                              have c89b0 := eq_true c89
                              have c89b1 : decide (0 ≤ t110) = true := decide_eq_true c89
                              clear c89
                              by_cases c90 : t110 ≤ x10_3
                              · rw [if_pos c90] at H
                                have c90b0 := eq_true c90
                                have c90b1 : decide (t110 ≤ x10_3) = true := decide_eq_true c90
                                clear c90
                                by_cases c91 : x10_3 ≤ (a0.size : Int)
                                · rw [if_pos c91] at H
                                  have c91b0 := eq_true c91
                                  have c91b1 : decide (x10_3 ≤ (a0.size : Int)) = true := decide_eq_true c91
                                  clear c91
                                  replace H := Option.bind_eq_some_iff.mp H
                                  obtain ⟨t116, A920, H⟩ := H
                                  replace H : (if x10_3 = (a0.size : Int) then (some (t106, t116, wrap64 ((a0.size : Int) + 1))) else (some (t106, t116, x10_3))) = some (r1, r2, r3) := H
                                  have A92 := Aside0.mk A920
                                  clear A920
                                  by_cases c93 : x10_3 = (a0.size : Int)
                                  · rw [if_pos c93] at H
                                    have c93b0 : (x10_3 == (a0.size : Int)) = true := beq_iff_eq.mpr c93
                                    have c93b1 : (x10_3 != (a0.size : Int)) = false := bne_eq_false_iff_eq.mpr c93
                                    clear c93
                                    simp only [Option.some.injEq, Prod.mk.injEq] at H
                                    obtain ⟨rfl, rfl, rfl⟩ := H
                                    go_wp2_with (first | ((with_reducible refine gate_callee (f := 81) rfl ?_); refine goesL_ (some 128) rfl rfl Tryz.func81 (by kernel_rfl) rfl #[.string (a0.extract (t110 : Int).toNat (x10_3 : Int).toNat)] rfl (by (try simp only [List.map_toArray, List.map_cons, List.map_nil]); first | done | rfl | (simp only [List.length_drop, List.length_take]; rfl)) ?_; (with_reducible refine (boltingref03_Decode.calls (a0.extract (t110 : Int).toNat (x10_3 : Int).toNat) t116 _ A92.out).mono ?_); rintro e w94 ⟨rfl, hb⟩; refine ⟨_, rfl, ?_⟩; have n0_ := Aside0.mk (blk_below (g := gb104) (o := .cells #[.string (⟨#[]⟩ : ByteArray), .string (⟨#[]⟩ : ByteArray)] 40 (0, 0)) (by (with_reducible repeat (first | refine blk_drewN ?_ _ | refine blk_drew ?_ | refine blk_alloc ?_ _)); exact BK104.out) hb); have n1_ := Aside0.mk (blk_below (g := gb107) (o := .cells #[.string t106, .string (⟨#[]⟩ : ByteArray)] 40 (0, 0)) (by (with_reducible repeat (first | refine blk_drewN ?_ _ | refine blk_drew ?_ | refine blk_alloc ?_ _)); exact BK107.out) hb); have n2_ := Aside0.mk (below_step (by repeat (first | (with_reducible first | exact HB.out | apply below_alloc | apply pw_below_drewN | apply below_drew1 | refine below_set ?_ GE104.out | refine below_set ?_ GE107.out) | exact HB.out)) hb); clear BK104; clear BK107; clear HB; have BK104 := n0_; have BK107 := n1_; have HB := n2_; clear n0_ n1_ n2_; (try clear hb); (try clear hb2); (try clear hk); (try clear hi); have hnb95 := NB107_104.out; have hnc95 := NB104_107.out; have hcz96_0 : w94.cell? ⟨gb107, 0, none⟩ = some (.string t106) := (blk_cell BK107.out 0).trans rfl; have hcz96_1 : w94.cell? ⟨gb107, 1, none⟩ = some (.string (⟨#[]⟩ : ByteArray)) := (blk_cell BK107.out 1).trans rfl; have hfz96_0 := blk_frozen BK107.out 0; have hfz96_1 := blk_frozen BK107.out 1; have hcz97_0 : w94.cell? ⟨gb104, 0, none⟩ = some (.string (⟨#[]⟩ : ByteArray)) := (blk_cell BK104.out 0).trans rfl; have hcz97_1 : w94.cell? ⟨gb104, 1, none⟩ = some (.string (⟨#[]⟩ : ByteArray)) := (blk_cell BK104.out 1).trans rfl; have hfz97_0 := blk_frozen BK104.out 0; have hfz97_1 := blk_frozen BK104.out 1))
                                    refine bodyPost_ret (results_ct rfl _ _ gb104 40 #[.string t106, .string t116] (0, 0) _ rfl (by (with_reducible repeat (first | refine blk_drewN ?_ _ | refine blk_drew ?_ | refine blk_alloc ?_ _)); refine blk_put (cs := #[.string t106, .string (⟨#[]⟩ : ByteArray)]) ?_ 1 _ rfl; (with_reducible repeat (first | refine blk_drewN ?_ _ | refine blk_drew ?_ | refine blk_alloc ?_ _)); refine blk_put (cs := #[.string (⟨#[]⟩ : ByteArray), .string (⟨#[]⟩ : ByteArray)]) ?_ 0 _ rfl; (with_reducible repeat (first | refine blk_drewN ?_ _ | refine blk_drew ?_ | refine blk_alloc ?_ _)); refine blk_far ?_ NB104_107.out _; (with_reducible repeat (first | refine blk_drewN ?_ _ | refine blk_drew ?_ | refine blk_alloc ?_ _)); exact BK104.out) Tryz.underlying40 rfl (by kernel_rfl)) rfl ?_
                                    exact ⟨by first | rfl | (simp [errW_none, errW_some] <;> rfl) | (simp [*, errW_none, errW_some] <;> rfl), by repeat (first | (with_reducible first | exact HB.out | apply below_alloc | apply pw_below_drewN | apply below_drew1 | refine below_set ?_ GE104.out | refine below_set ?_ GE107.out) | exact HB.out)⟩
                                  · rw [if_neg c93] at H
                                    have c93b0 : (x10_3 == (a0.size : Int)) = false := beq_eq_false_iff_ne.mpr c93
                                    have c93b1 : (x10_3 != (a0.size : Int)) = true := bne_iff_ne.mpr c93
                                    simp only [Option.some.injEq, Prod.mk.injEq] at H
                                    obtain ⟨rfl, rfl, rfl⟩ := H
                                    go_wp2_with (first | ((with_reducible refine gate_callee (f := 81) rfl ?_); refine goesL_ (some 128) rfl rfl Tryz.func81 (by kernel_rfl) rfl #[.string (a0.extract (t110 : Int).toNat (x10_3 : Int).toNat)] rfl (by (try simp only [List.map_toArray, List.map_cons, List.map_nil]); first | done | rfl | (simp only [List.length_drop, List.length_take]; rfl)) ?_; (with_reducible refine (boltingref03_Decode.calls (a0.extract (t110 : Int).toNat (x10_3 : Int).toNat) t116 _ A92.out).mono ?_); rintro e w98 ⟨rfl, hb⟩; refine ⟨_, rfl, ?_⟩; have n0_ := Aside0.mk (blk_below (g := gb104) (o := .cells #[.string (⟨#[]⟩ : ByteArray), .string (⟨#[]⟩ : ByteArray)] 40 (0, 0)) (by (with_reducible repeat (first | refine blk_drewN ?_ _ | refine blk_drew ?_ | refine blk_alloc ?_ _)); exact BK104.out) hb); have n1_ := Aside0.mk (blk_below (g := gb107) (o := .cells #[.string t106, .string (⟨#[]⟩ : ByteArray)] 40 (0, 0)) (by (with_reducible repeat (first | refine blk_drewN ?_ _ | refine blk_drew ?_ | refine blk_alloc ?_ _)); exact BK107.out) hb); have n2_ := Aside0.mk (below_step (by repeat (first | (with_reducible first | exact HB.out | apply below_alloc | apply pw_below_drewN | apply below_drew1 | refine below_set ?_ GE104.out | refine below_set ?_ GE107.out) | exact HB.out)) hb); clear BK104; clear BK107; clear HB; have BK104 := n0_; have BK107 := n1_; have HB := n2_; clear n0_ n1_ n2_; (try clear hb); (try clear hb2); (try clear hk); (try clear hi); have hnb99 := NB107_104.out; have hnc99 := NB104_107.out; have hcz100_0 : w98.cell? ⟨gb107, 0, none⟩ = some (.string t106) := (blk_cell BK107.out 0).trans rfl; have hcz100_1 : w98.cell? ⟨gb107, 1, none⟩ = some (.string (⟨#[]⟩ : ByteArray)) := (blk_cell BK107.out 1).trans rfl; have hfz100_0 := blk_frozen BK107.out 0; have hfz100_1 := blk_frozen BK107.out 1; have hcz101_0 : w98.cell? ⟨gb104, 0, none⟩ = some (.string (⟨#[]⟩ : ByteArray)) := (blk_cell BK104.out 0).trans rfl; have hcz101_1 : w98.cell? ⟨gb104, 1, none⟩ = some (.string (⟨#[]⟩ : ByteArray)) := (blk_cell BK104.out 1).trans rfl; have hfz101_0 := blk_frozen BK104.out 0; have hfz101_1 := blk_frozen BK104.out 1))
                                    refine bodyPost_ret (results_ct rfl _ _ gb104 40 #[.string t106, .string t116] (0, 0) _ rfl (by (with_reducible repeat (first | refine blk_drewN ?_ _ | refine blk_drew ?_ | refine blk_alloc ?_ _)); refine blk_put (cs := #[.string t106, .string (⟨#[]⟩ : ByteArray)]) ?_ 1 _ rfl; (with_reducible repeat (first | refine blk_drewN ?_ _ | refine blk_drew ?_ | refine blk_alloc ?_ _)); refine blk_put (cs := #[.string (⟨#[]⟩ : ByteArray), .string (⟨#[]⟩ : ByteArray)]) ?_ 0 _ rfl; (with_reducible repeat (first | refine blk_drewN ?_ _ | refine blk_drew ?_ | refine blk_alloc ?_ _)); refine blk_far ?_ NB104_107.out _; (with_reducible repeat (first | refine blk_drewN ?_ _ | refine blk_drew ?_ | refine blk_alloc ?_ _)); exact BK104.out) Tryz.underlying40 rfl (by kernel_rfl)) rfl ?_
                                    exact ⟨by first | rfl | (simp [errW_none, errW_some] <;> rfl) | (simp [*, errW_none, errW_some] <;> rfl), by repeat (first | (with_reducible first | exact HB.out | apply below_alloc | apply pw_below_drewN | apply below_drew1 | refine below_set ?_ GE104.out | refine below_set ?_ GE107.out) | exact HB.out)⟩
                                · rw [if_neg c91] at H
                                  exact absurd H (by simp)
                              · rw [if_neg c90] at H
                                exact absurd H (by simp)
                            · rw [if_neg c89] at H
                              exact absurd H (by simp)
            · replace c18 := Bool.eq_false_iff.mpr c18
              subst c18
              have H1 : (if t108 = (a0.size : Int) then (some (t106, (⟨#[]⟩ : ByteArray), wrap64 ((a0.size : Int) + 1))) else (some (t106, (⟨#[]⟩ : ByteArray), t108))) = some (r1, r2, r3) := by rw [if_neg (show ¬ (false = true) by decide)] at H; first | exact H | (simp only [eq_self] at H ⊢; exact H) | (simp only [eq_self, if_true] at H ⊢; exact H)
              clear H
              have H := H1
              clear H1
              by_cases c102 : t108 = (a0.size : Int)
              · rw [if_pos c102] at H
                have c102b0 : (t108 == (a0.size : Int)) = true := beq_iff_eq.mpr c102
                have c102b1 : (t108 != (a0.size : Int)) = false := bne_eq_false_iff_eq.mpr c102
                clear c102
                simp only [Option.some.injEq, Prod.mk.injEq] at H
                obtain ⟨rfl, rfl, rfl⟩ := H
                go_wp2_with (first | ((with_reducible refine gate_callee (f := 84) rfl ?_); refine goesL_ (some 36) rfl rfl Tryz.func84 (by kernel_rfl) rfl #[.string (a0.extract (a1 : Int).toNat (x6_2 : Int).toNat)] rfl (by (try simp only [List.map_toArray, List.map_cons, List.map_nil]); first | done | rfl | (simp only [List.length_drop, List.length_take]; rfl)) ?_; (with_reducible refine (boltingref02_Lower.calls (a0.extract (a1 : Int).toNat (x6_2 : Int).toNat) t106 _ A15.out).mono ?_); rintro e w103 ⟨rfl, hb⟩; refine ⟨_, rfl, ?_⟩; have n0_ := Aside0.mk (blk_below (g := gb104) (o := .cells #[.string (⟨#[]⟩ : ByteArray), .string (⟨#[]⟩ : ByteArray)] 40 (0, 0)) (by (with_reducible repeat (first | refine blk_drewN ?_ _ | refine blk_drew ?_ | refine blk_alloc ?_ _)); exact BK104.out) hb); have n1_ := Aside0.mk (below_step (by repeat (first | (with_reducible first | exact HB.out | apply below_alloc | apply pw_below_drewN | apply below_drew1 | refine below_set ?_ GE104.out) | exact HB.out)) hb); clear BK104; clear HB; have BK104 := n0_; have HB := n1_; clear n0_ n1_; (try clear hb); (try clear hb2); (try clear hk); (try clear hi)) | ((with_reducible refine gate_dst (N := 7) rfl ?_); refine box_event ?hg (N := 7) ?hd (cs := #[.string (⟨#[]⟩ : ByteArray), .string (⟨#[]⟩ : ByteArray)]) (t := 40) ?hr ?_; (case hd => rfl); (case hg => rfl); (case hr => first | (go_simp; done) | (go_simp; rfl)); intro gb107 hg w104 hbox hb; have n0_ := Aside0.mk (blk_below (g := gb104) (o := .cells #[.string (⟨#[]⟩ : ByteArray), .string (⟨#[]⟩ : ByteArray)] 40 (0, 0)) (by (with_reducible repeat (first | refine blk_drewN ?_ _ | refine blk_drew ?_ | refine blk_alloc ?_ _)); exact BK104.out) hb); have n1_ := Aside0.mk (below_step (by repeat (first | (with_reducible first | exact HB.out | apply below_alloc | apply pw_below_drewN | apply below_drew1 | refine below_set ?_ GE104.out) | exact HB.out)) hb); have n2_ := Aside0.mk (hbox); have n3_ := Aside0.mk ((by rw [hg]; exact (below_size (by repeat (first | (with_reducible first | exact HB.out | apply below_alloc | apply pw_below_drewN | apply below_drew1 | refine below_set ?_ GE104.out) | exact HB.out))) : w.heap.size ≤ gb107)); have n4_ := Aside0.mk ((by rw [hg]; exact (below_size (by repeat (first | (with_reducible first | exact HB.out | apply below_alloc | apply pw_below_drewN | apply below_drew1 | refine below_set ?_ GE104.out) | exact HB.out))) : w.heap.size ≤ gb107)); have n5_ := Aside0.mk ((by rw [hg]; exact Nat.ne_of_lt (blk_lt (g := gb104) (o := .cells #[.string (⟨#[]⟩ : ByteArray), .string (⟨#[]⟩ : ByteArray)] 40 (0, 0)) (by (with_reducible repeat (first | refine blk_drewN ?_ _ | refine blk_drew ?_ | refine blk_alloc ?_ _)); exact BK104.out)) : gb104 ≠ gb107)); have n6_ := Aside0.mk ((by rw [hg]; exact Nat.ne_of_gt (blk_lt (g := gb104) (o := .cells #[.string (⟨#[]⟩ : ByteArray), .string (⟨#[]⟩ : ByteArray)] 40 (0, 0)) (by (with_reducible repeat (first | refine blk_drewN ?_ _ | refine blk_drew ?_ | refine blk_alloc ?_ _)); exact BK104.out)) : gb107 ≠ gb104)); clear BK104; clear HB; have BK104 := n0_; have HB := n1_; have BK107 := n2_; have GW107 := n3_; have GE107 := n4_; have NB104_107 := n5_; have NB107_104 := n6_; clear n0_ n1_ n2_ n3_ n4_ n5_ n6_; clear hb hbox hg; have hnb105 := NB107_104.out; have hnc105 := NB104_107.out; have hcz106_0 : w104.cell? ⟨gb107, 0, none⟩ = some (.string (⟨#[]⟩ : ByteArray)) := (blk_cell BK107.out 0).trans rfl; have hcz106_1 : w104.cell? ⟨gb107, 1, none⟩ = some (.string (⟨#[]⟩ : ByteArray)) := (blk_cell BK107.out 1).trans rfl; have hfz106_0 := blk_frozen BK107.out 0; have hfz106_1 := blk_frozen BK107.out 1) | ((with_reducible refine gate_callee (f := 132) rfl ?_); refine goesL_ (some 40) rfl rfl Tryz.func132 (by kernel_rfl) rfl #[.string a0, .int .i64 x6_2] rfl (by (try simp only [List.map_toArray, List.map_cons, List.map_nil]); first | done | rfl | (simp only [List.length_drop, List.length_take]; rfl)) ?_; (with_reducible refine (boltingref06_spaces.calls kj2 a0 x6_2 t108 _ A16.out).mono ?_); rintro e w' ⟨rfl, ⟨nd, rfl⟩⟩; refine ⟨_, rfl, ?_⟩) | ((with_reducible refine gate_callee (f := 40) rfl ?_); refine goesL_ (some 43) rfl rfl Tryz.func40 (by kernel_rfl) rfl #[.string a0, .int .i64 t108, .string (⟨#[61]⟩ : ByteArray)] rfl (by (try simp only [List.map_toArray, List.map_cons, List.map_nil]); first | done | rfl | (simp only [List.length_drop, List.length_take]; rfl)) ?_; (with_reducible refine (boltingref06_at.calls a0 t108 (⟨#[61]⟩ : ByteArray) false _ A17.out).mono ?_); rintro e w' ⟨rfl, ⟨nd, rfl⟩⟩; refine ⟨_, rfl, ?_⟩; have hcz107_0 : w104.cell? ⟨gb104, 0, none⟩ = some (.string (⟨#[]⟩ : ByteArray)) := (blk_cell BK104.out 0).trans rfl; have hcz107_1 : w104.cell? ⟨gb104, 1, none⟩ = some (.string (⟨#[]⟩ : ByteArray)) := (blk_cell BK104.out 1).trans rfl; have hfz107_0 := blk_frozen BK104.out 0; have hfz107_1 := blk_frozen BK104.out 1))
                refine bodyPost_ret (results_ct rfl _ _ gb104 40 #[.string t106, .string (⟨#[]⟩ : ByteArray)] (0, 0) _ rfl (by (with_reducible repeat (first | refine blk_drewN ?_ _ | refine blk_drew ?_ | refine blk_alloc ?_ _)); refine blk_put (cs := #[.string t106, .string (⟨#[]⟩ : ByteArray)]) ?_ 1 _ rfl; (with_reducible repeat (first | refine blk_drewN ?_ _ | refine blk_drew ?_ | refine blk_alloc ?_ _)); refine blk_put (cs := #[.string (⟨#[]⟩ : ByteArray), .string (⟨#[]⟩ : ByteArray)]) ?_ 0 _ rfl; (with_reducible repeat (first | refine blk_drewN ?_ _ | refine blk_drew ?_ | refine blk_alloc ?_ _)); refine blk_far ?_ NB104_107.out _; (with_reducible repeat (first | refine blk_drewN ?_ _ | refine blk_drew ?_ | refine blk_alloc ?_ _)); refine blk_far ?_ NB104_107.out _; (with_reducible repeat (first | refine blk_drewN ?_ _ | refine blk_drew ?_ | refine blk_alloc ?_ _)); exact BK104.out) Tryz.underlying40 rfl (by kernel_rfl)) rfl ?_
                exact ⟨by first | rfl | (simp [errW_none, errW_some] <;> rfl) | (simp [*, errW_none, errW_some] <;> rfl), by repeat (first | (with_reducible first | exact HB.out | apply below_alloc | apply pw_below_drewN | apply below_drew1 | refine below_set ?_ GE104.out | refine below_set ?_ GE107.out) | exact HB.out)⟩
              · rw [if_neg c102] at H
                have c102b0 : (t108 == (a0.size : Int)) = false := beq_eq_false_iff_ne.mpr c102
                have c102b1 : (t108 != (a0.size : Int)) = true := bne_iff_ne.mpr c102
                simp only [Option.some.injEq, Prod.mk.injEq] at H
                obtain ⟨rfl, rfl, rfl⟩ := H
                go_wp2_with (first | ((with_reducible refine gate_callee (f := 84) rfl ?_); refine goesL_ (some 36) rfl rfl Tryz.func84 (by kernel_rfl) rfl #[.string (a0.extract (a1 : Int).toNat (x6_2 : Int).toNat)] rfl (by (try simp only [List.map_toArray, List.map_cons, List.map_nil]); first | done | rfl | (simp only [List.length_drop, List.length_take]; rfl)) ?_; (with_reducible refine (boltingref02_Lower.calls (a0.extract (a1 : Int).toNat (x6_2 : Int).toNat) t106 _ A15.out).mono ?_); rintro e w108 ⟨rfl, hb⟩; refine ⟨_, rfl, ?_⟩; have n0_ := Aside0.mk (blk_below (g := gb104) (o := .cells #[.string (⟨#[]⟩ : ByteArray), .string (⟨#[]⟩ : ByteArray)] 40 (0, 0)) (by (with_reducible repeat (first | refine blk_drewN ?_ _ | refine blk_drew ?_ | refine blk_alloc ?_ _)); exact BK104.out) hb); have n1_ := Aside0.mk (below_step (by repeat (first | (with_reducible first | exact HB.out | apply below_alloc | apply pw_below_drewN | apply below_drew1 | refine below_set ?_ GE104.out) | exact HB.out)) hb); clear BK104; clear HB; have BK104 := n0_; have HB := n1_; clear n0_ n1_; (try clear hb); (try clear hb2); (try clear hk); (try clear hi)) | ((with_reducible refine gate_dst (N := 7) rfl ?_); refine box_event ?hg (N := 7) ?hd (cs := #[.string (⟨#[]⟩ : ByteArray), .string (⟨#[]⟩ : ByteArray)]) (t := 40) ?hr ?_; (case hd => rfl); (case hg => rfl); (case hr => first | (go_simp; done) | (go_simp; rfl)); intro gb107 hg w109 hbox hb; have n0_ := Aside0.mk (blk_below (g := gb104) (o := .cells #[.string (⟨#[]⟩ : ByteArray), .string (⟨#[]⟩ : ByteArray)] 40 (0, 0)) (by (with_reducible repeat (first | refine blk_drewN ?_ _ | refine blk_drew ?_ | refine blk_alloc ?_ _)); exact BK104.out) hb); have n1_ := Aside0.mk (below_step (by repeat (first | (with_reducible first | exact HB.out | apply below_alloc | apply pw_below_drewN | apply below_drew1 | refine below_set ?_ GE104.out) | exact HB.out)) hb); have n2_ := Aside0.mk (hbox); have n3_ := Aside0.mk ((by rw [hg]; exact (below_size (by repeat (first | (with_reducible first | exact HB.out | apply below_alloc | apply pw_below_drewN | apply below_drew1 | refine below_set ?_ GE104.out) | exact HB.out))) : w.heap.size ≤ gb107)); have n4_ := Aside0.mk ((by rw [hg]; exact (below_size (by repeat (first | (with_reducible first | exact HB.out | apply below_alloc | apply pw_below_drewN | apply below_drew1 | refine below_set ?_ GE104.out) | exact HB.out))) : w.heap.size ≤ gb107)); have n5_ := Aside0.mk ((by rw [hg]; exact Nat.ne_of_lt (blk_lt (g := gb104) (o := .cells #[.string (⟨#[]⟩ : ByteArray), .string (⟨#[]⟩ : ByteArray)] 40 (0, 0)) (by (with_reducible repeat (first | refine blk_drewN ?_ _ | refine blk_drew ?_ | refine blk_alloc ?_ _)); exact BK104.out)) : gb104 ≠ gb107)); have n6_ := Aside0.mk ((by rw [hg]; exact Nat.ne_of_gt (blk_lt (g := gb104) (o := .cells #[.string (⟨#[]⟩ : ByteArray), .string (⟨#[]⟩ : ByteArray)] 40 (0, 0)) (by (with_reducible repeat (first | refine blk_drewN ?_ _ | refine blk_drew ?_ | refine blk_alloc ?_ _)); exact BK104.out)) : gb107 ≠ gb104)); clear BK104; clear HB; have BK104 := n0_; have HB := n1_; have BK107 := n2_; have GW107 := n3_; have GE107 := n4_; have NB104_107 := n5_; have NB107_104 := n6_; clear n0_ n1_ n2_ n3_ n4_ n5_ n6_; clear hb hbox hg; have hnb110 := NB107_104.out; have hnc110 := NB104_107.out; have hcz111_0 : w109.cell? ⟨gb107, 0, none⟩ = some (.string (⟨#[]⟩ : ByteArray)) := (blk_cell BK107.out 0).trans rfl; have hcz111_1 : w109.cell? ⟨gb107, 1, none⟩ = some (.string (⟨#[]⟩ : ByteArray)) := (blk_cell BK107.out 1).trans rfl; have hfz111_0 := blk_frozen BK107.out 0; have hfz111_1 := blk_frozen BK107.out 1) | ((with_reducible refine gate_callee (f := 132) rfl ?_); refine goesL_ (some 40) rfl rfl Tryz.func132 (by kernel_rfl) rfl #[.string a0, .int .i64 x6_2] rfl (by (try simp only [List.map_toArray, List.map_cons, List.map_nil]); first | done | rfl | (simp only [List.length_drop, List.length_take]; rfl)) ?_; (with_reducible refine (boltingref06_spaces.calls kj2 a0 x6_2 t108 _ A16.out).mono ?_); rintro e w' ⟨rfl, ⟨nd, rfl⟩⟩; refine ⟨_, rfl, ?_⟩) | ((with_reducible refine gate_callee (f := 40) rfl ?_); refine goesL_ (some 43) rfl rfl Tryz.func40 (by kernel_rfl) rfl #[.string a0, .int .i64 t108, .string (⟨#[61]⟩ : ByteArray)] rfl (by (try simp only [List.map_toArray, List.map_cons, List.map_nil]); first | done | rfl | (simp only [List.length_drop, List.length_take]; rfl)) ?_; (with_reducible refine (boltingref06_at.calls a0 t108 (⟨#[61]⟩ : ByteArray) false _ A17.out).mono ?_); rintro e w' ⟨rfl, ⟨nd, rfl⟩⟩; refine ⟨_, rfl, ?_⟩; have hcz112_0 : w109.cell? ⟨gb104, 0, none⟩ = some (.string (⟨#[]⟩ : ByteArray)) := (blk_cell BK104.out 0).trans rfl; have hcz112_1 : w109.cell? ⟨gb104, 1, none⟩ = some (.string (⟨#[]⟩ : ByteArray)) := (blk_cell BK104.out 1).trans rfl; have hfz112_0 := blk_frozen BK104.out 0; have hfz112_1 := blk_frozen BK104.out 1))
                refine bodyPost_ret (results_ct rfl _ _ gb104 40 #[.string t106, .string (⟨#[]⟩ : ByteArray)] (0, 0) _ rfl (by (with_reducible repeat (first | refine blk_drewN ?_ _ | refine blk_drew ?_ | refine blk_alloc ?_ _)); refine blk_put (cs := #[.string t106, .string (⟨#[]⟩ : ByteArray)]) ?_ 1 _ rfl; (with_reducible repeat (first | refine blk_drewN ?_ _ | refine blk_drew ?_ | refine blk_alloc ?_ _)); refine blk_put (cs := #[.string (⟨#[]⟩ : ByteArray), .string (⟨#[]⟩ : ByteArray)]) ?_ 0 _ rfl; (with_reducible repeat (first | refine blk_drewN ?_ _ | refine blk_drew ?_ | refine blk_alloc ?_ _)); refine blk_far ?_ NB104_107.out _; (with_reducible repeat (first | refine blk_drewN ?_ _ | refine blk_drew ?_ | refine blk_alloc ?_ _)); refine blk_far ?_ NB104_107.out _; (with_reducible repeat (first | refine blk_drewN ?_ _ | refine blk_drew ?_ | refine blk_alloc ?_ _)); exact BK104.out) Tryz.underlying40 rfl (by kernel_rfl)) rfl ?_
                exact ⟨by first | rfl | (simp [errW_none, errW_some] <;> rfl) | (simp [*, errW_none, errW_some] <;> rfl), by repeat (first | (with_reducible first | exact HB.out | apply below_alloc | apply pw_below_drewN | apply below_drew1 | refine below_set ?_ GE104.out | refine below_set ?_ GE107.out) | exact HB.out)⟩
          · rw [if_neg c14] at H
            exact absurd H (by simp)
        · rw [if_neg c13] at H
          exact absurd H (by simp)
      · rw [if_neg c12] at H
        exact absurd H (by simp)

end Go.Proofs.YtdnbaliibiginaaGreatDoorH.TI
