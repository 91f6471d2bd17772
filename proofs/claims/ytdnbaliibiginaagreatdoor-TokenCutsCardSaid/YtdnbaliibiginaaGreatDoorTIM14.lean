/- Lemmas and walks, part 14: PTIx5. -/
import Derived.Test.YtdnbaliibiginaaGreatDoorTIM1
import Derived.Test.YtdnbaliibiginaaGreatDoorTIM13
set_option linter.unusedVariables false
set_option linter.unusedSimpArgs false

-- Walks of Go functions by a program (wip/hook/hook.py over the kit's printer): each as a Lean function, and that the call comes to what it tells. Not trusted: Lean checks it.
namespace Go.Proofs.YtdnbaliibiginaaGreatDoorH.TI
open Go.RowKit Go.Proofs.YtdnbaliibiginaaGreatDoorW.PrintWords Go.Proofs.YtdnbaliibiginaaGreatDoorW.PrintLast Go.Proofs.YtdnbaliibiginaaGreatDoorW.PrintMore
attribute [local go_sem] max2_int min2_int max_two min_two max_three min_three max_four min_four   -- for this text's walks alone

/-! ### boltingref06_note: function 44 -/
mutual
def boltingref06_note.j0 : Nat → ByteArray → Int → Bool → Int → ByteArray → ByteArray → Bool → Option (Int × ByteArray × ByteArray × (List (S40)) × Bool × Int)
  | 0, _, _, _, _, _, _, _ => none
  | k + 1, x0, x1, x49, x141000, x141001, x141002, x141004 => if x49 = true then ((boltingref06_other.f k x0 (wrap64 (x1 + 9))).bind fun bt146 => ((boltingref02_Trim.f k bt146.1).bind fun t148 => (some (4, (⟨#[]⟩ : ByteArray), t148, ([] : List (S40)), false, bt146.2)))) else ((boltingref06_at.f x0 x1 (⟨#[60, 33]⟩ : ByteArray)).bind fun t149 => (if t149 = true then (boltingref06_note.j1 k x0 x1 x1 true x141000 x141001 x141002 x141004) else ((boltingref06_at.f x0 x1 (⟨#[60, 47]⟩ : ByteArray)).bind fun t150 => (if t150 = true then (boltingref06_note.j1 k x0 x1 x1 (decide ((wrap64 (x1 + 2)) < (x0.size : Int))) x141000 x141001 x141002 x141004) else (boltingref06_note.j1 k x0 x1 x1 false x141000 x141001 x141002 x141004)))))
def boltingref06_note.j1 : Nat → ByteArray → Int → Int → Bool → Int → ByteArray → ByteArray → Bool → Option (Int × ByteArray × ByteArray × (List (S40)) × Bool × Int)
  | 0, _, _, _, _, _, _, _, _ => none
  | k + 1, x0, x1, x11, x76, x141000, x141001, x141002, x141004 => if x76 = true then (if (wrap64 (x1 + 2)) = x1 then (some (x141000, x141001, x141002, ([] : List (S40)), x141004, x1)) else ((boltingref06_other.f k x0 (wrap64 (x1 + 2))).bind fun bt151 => (some (x141000, x141001, bt151.1, ([] : List (S40)), x141004, bt151.2)))) else ((boltingref06_at.f x0 x1 (⟨#[60, 63]⟩ : ByteArray)).bind fun t153 => (if t153 = true then (if (wrap64 (x1 + 1)) = x1 then (some (x141000, x141001, x141002, ([] : List (S40)), x141004, x1)) else ((boltingref06_other.f k x0 (wrap64 (x1 + 1))).bind fun bt154 => (some (x141000, x141001, bt154.1, ([] : List (S40)), x141004, bt154.2)))) else (if x11 = x1 then (some (x141000, x141001, x141002, ([] : List (S40)), x141004, x1)) else ((boltingref06_other.f k x0 x11).bind fun bt156 => (some (x141000, x141001, bt156.1, ([] : List (S40)), x141004, bt156.2))))))
end
def boltingref06_note.f (k : Nat) (a0 : ByteArray) (a1 : Int) : Option (Int × ByteArray × ByteArray × (List (S40)) × Bool × Int) := (boltingref06_at.f a0 a1 (⟨#[60, 33, 45, 45]⟩ : ByteArray)).bind fun t141 => (if t141 = true then ((boltingref06_comment.f k a0 (wrap64 (a1 + 4))).bind fun bt142 => (some (3, (⟨#[]⟩ : ByteArray), bt142.1, ([] : List (S40)), false, bt142.2))) else (if (wrap64 (a1 + 9)) ≤ (a0.size : Int) then (if 0 ≤ a1 then (if a1 ≤ (wrap64 (a1 + 9)) then ((boltingref02_Lower.f (a0.extract (a1 : Int).toNat ((wrap64 (a1 + 9)) : Int).toNat)).bind fun t144 => (if t144.toList = ([60, 33, 100, 111, 99, 116, 121, 112, 101] : List UInt8) then ((boltingref06_letter.f a0 (wrap64 (a1 + 9))).bind fun t145 => (boltingref06_note.j0 k a0 a1 (!t145) 3 (⟨#[]⟩ : ByteArray) (⟨#[]⟩ : ByteArray) false)) else (boltingref06_note.j0 k a0 a1 false 3 (⟨#[]⟩ : ByteArray) (⟨#[]⟩ : ByteArray) false))) else (none)) else (none)) else (boltingref06_note.j0 k a0 a1 false 3 (⟨#[]⟩ : ByteArray) (⟨#[]⟩ : ByteArray) false)))
theorem boltingref06_note.mono_l : ∀ k, (∀ y0 y1 y2 y3 y4 y5 y6, LeO (boltingref06_note.j0 k y0 y1 y2 y3 y4 y5 y6) (boltingref06_note.j0 (k + 1) y0 y1 y2 y3 y4 y5 y6)) ∧ (∀ y0 y1 y2 y3 y4 y5 y6 y7, LeO (boltingref06_note.j1 k y0 y1 y2 y3 y4 y5 y6 y7) (boltingref06_note.j1 (k + 1) y0 y1 y2 y3 y4 y5 y6 y7))
  | 0 => ⟨fun _ _ _ _ _ _ _ r h => by simp [boltingref06_note.j0] at h, fun _ _ _ _ _ _ _ _ r h => by simp [boltingref06_note.j1] at h⟩
  | k + 1 => by
    obtain ⟨ih0, ih1⟩ := boltingref06_note.mono_l k
    refine ⟨?_, ?_⟩
    · intro y0 y1 y2 y3 y4 y5 y6
      unfold boltingref06_note.j0
      repeat' first
      | (with_reducible exact ih0 _ _ _ _ _ _ _)
      | (with_reducible exact ih1 _ _ _ _ _ _ _ _)
      | (with_reducible exact boltingref02_Trim.mono _ _)
      | (with_reducible exact boltingref06_comment.mono _ _ _)
      | (with_reducible exact boltingref06_other.mono _ _ _)
      | (with_reducible exact LeO.refl _)
      | (with_reducible exact LeO.none _)
      | (with_reducible refine LeO.ite ?_ ?_)
      | (with_reducible refine LeO.bind ?_ (fun _ => ?_))
      | exact ih0 _ _ _ _ _ _ _
      | exact ih1 _ _ _ _ _ _ _ _
      | exact boltingref02_Trim.mono _ _
      | exact boltingref06_comment.mono _ _ _
      | exact boltingref06_other.mono _ _ _
      | exact LeO.none _
      | refine LeO.ite ?_ ?_
      | refine LeO.bind ?_ (fun _ => ?_)
    · intro y0 y1 y2 y3 y4 y5 y6 y7
      unfold boltingref06_note.j1
      repeat' first
      | (with_reducible exact ih0 _ _ _ _ _ _ _)
      | (with_reducible exact ih1 _ _ _ _ _ _ _ _)
      | (with_reducible exact boltingref02_Trim.mono _ _)
      | (with_reducible exact boltingref06_comment.mono _ _ _)
      | (with_reducible exact boltingref06_other.mono _ _ _)
      | (with_reducible exact LeO.refl _)
      | (with_reducible exact LeO.none _)
      | (with_reducible refine LeO.ite ?_ ?_)
      | (with_reducible refine LeO.bind ?_ (fun _ => ?_))
      | exact ih0 _ _ _ _ _ _ _
      | exact ih1 _ _ _ _ _ _ _ _
      | exact boltingref02_Trim.mono _ _
      | exact boltingref06_comment.mono _ _ _
      | exact boltingref06_other.mono _ _ _
      | exact LeO.none _
      | refine LeO.ite ?_ ?_
      | refine LeO.bind ?_ (fun _ => ?_)
theorem boltingref06_note.mono : ∀ a0 a1 k, LeO (boltingref06_note.f k a0 a1) (boltingref06_note.f (k + 1) a0 a1) := by
  intro a0 a1 k
  obtain ⟨ih0, ih1⟩ := boltingref06_note.mono_l k
  unfold boltingref06_note.f
  repeat' first
      | (with_reducible exact ih0 _ _ _ _ _ _ _)
      | (with_reducible exact ih1 _ _ _ _ _ _ _ _)
      | (with_reducible exact boltingref02_Trim.mono _ _)
      | (with_reducible exact boltingref06_comment.mono _ _ _)
      | (with_reducible exact boltingref06_other.mono _ _ _)
      | (with_reducible exact LeO.refl _)
      | (with_reducible exact LeO.none _)
      | (with_reducible refine LeO.ite ?_ ?_)
      | (with_reducible refine LeO.bind ?_ (fun _ => ?_))
      | exact ih0 _ _ _ _ _ _ _
      | exact ih1 _ _ _ _ _ _ _ _
      | exact boltingref02_Trim.mono _ _
      | exact boltingref06_comment.mono _ _ _
      | exact boltingref06_other.mono _ _ _
      | exact LeO.none _
      | refine LeO.ite ?_ ?_
      | refine LeO.bind ?_ (fun _ => ?_)
set_option maxHeartbeats 8000000 in
set_option maxRecDepth 100000 in
theorem boltingref06_note.calls (k : Nat) (a0 : ByteArray) (a1 : Int) (r1 : Int) (r2 : ByteArray) (r3 : ByteArray) (r4 : List (S40)) (r5 : Bool) (r6 : Int) (w : World) (h : boltingref06_note.f k a0 a1 = some (r1, r2, r3, r4, r5, r6)) :
    Calls Tryz.prog 44 #[.string a0, .int .i64 a1] w fun e w' => ∃ v3_ : Value, e = .returned (.tuple #[.agg #[.int .i64 r1, .string r2, .string r3, v3_, .bool r5], .int .i64 r6]) ∧ Kd.R k40 40 w' w.heap.size (fun _ => True) v3_ r4 ∧ Below w.heap.size w w' := by
  have hu59 := Tryz.underlying59
  have HB := Aside0.mk (Below.refl w.heap.size w)
  have H : ((boltingref06_at.f a0 a1 (⟨#[60, 33, 45, 45]⟩ : ByteArray)).bind fun t141 => (if t141 = true then ((boltingref06_comment.f k a0 (wrap64 (a1 + 4))).bind fun bt142 => (some (3, (⟨#[]⟩ : ByteArray), bt142.1, ([] : List (S40)), false, bt142.2))) else (if (wrap64 (a1 + 9)) ≤ (a0.size : Int) then (if 0 ≤ a1 then (if a1 ≤ (wrap64 (a1 + 9)) then ((boltingref02_Lower.f (a0.extract (a1 : Int).toNat ((wrap64 (a1 + 9)) : Int).toNat)).bind fun t144 => (if t144.toList = ([60, 33, 100, 111, 99, 116, 121, 112, 101] : List UInt8) then ((boltingref06_letter.f a0 (wrap64 (a1 + 9))).bind fun t145 => (boltingref06_note.j0 k a0 a1 (!t145) 3 (⟨#[]⟩ : ByteArray) (⟨#[]⟩ : ByteArray) false)) else (boltingref06_note.j0 k a0 a1 false 3 (⟨#[]⟩ : ByteArray) (⟨#[]⟩ : ByteArray) false))) else (none)) else (none)) else (boltingref06_note.j0 k a0 a1 false 3 (⟨#[]⟩ : ByteArray) (⟨#[]⟩ : ByteArray) false)))) = some (r1, r2, r3, r4, r5, r6) := h
  clear h
  replace H := Option.bind_eq_some_iff.mp H
  obtain ⟨t141, A30, H⟩ := H
  replace H : (if t141 = true then ((boltingref06_comment.f k a0 (wrap64 (a1 + 4))).bind fun bt142 => (some (3, (⟨#[]⟩ : ByteArray), bt142.1, ([] : List (S40)), false, bt142.2))) else (if (wrap64 (a1 + 9)) ≤ (a0.size : Int) then (if 0 ≤ a1 then (if a1 ≤ (wrap64 (a1 + 9)) then ((boltingref02_Lower.f (a0.extract (a1 : Int).toNat ((wrap64 (a1 + 9)) : Int).toNat)).bind fun t144 => (if t144.toList = ([60, 33, 100, 111, 99, 116, 121, 112, 101] : List UInt8) then ((boltingref06_letter.f a0 (wrap64 (a1 + 9))).bind fun t145 => (boltingref06_note.j0 k a0 a1 (!t145) 3 (⟨#[]⟩ : ByteArray) (⟨#[]⟩ : ByteArray) false)) else (boltingref06_note.j0 k a0 a1 false 3 (⟨#[]⟩ : ByteArray) (⟨#[]⟩ : ByteArray) false))) else (none)) else (none)) else (boltingref06_note.j0 k a0 a1 false 3 (⟨#[]⟩ : ByteArray) (⟨#[]⟩ : ByteArray) false))) = some (r1, r2, r3, r4, r5, r6) := H
  have A3 := Aside0.mk A30
  clear A30
  by_cases c4 : t141 = true
  · subst c4
    have H1 : ((boltingref06_comment.f k a0 (wrap64 (a1 + 4))).bind fun bt142 => (some (3, (⟨#[]⟩ : ByteArray), bt142.1, ([] : List (S40)), false, bt142.2))) = some (r1, r2, r3, r4, r5, r6) := by rw [if_pos rfl] at H; exact H
    clear H
    have H := H1
    clear H1
    replace H := Option.bind_eq_some_iff.mp H
    obtain ⟨⟨t142, t143⟩, A50, H⟩ := H
    replace H : (some (3, (⟨#[]⟩ : ByteArray), t142, ([] : List (S40)), false, t143)) = some (r1, r2, r3, r4, r5, r6) := H
    have A5 := Aside0.mk A50
    clear A50
    simp only [Option.some.injEq, Prod.mk.injEq] at H
    obtain ⟨rfl, rfl, rfl, rfl, rfl, rfl⟩ := H
    go_enter Tryz.func44, Tryz.ntmps44
    go_wp2_with (first | ((with_reducible refine gate_dst (N := 4) rfl ?_); (try (refine gate_guard (by rfl) ?_; dsimp only)); refine box_event ?hg (N := 4) ?hd (cs := #[.int .i64 0, .string (⟨#[]⟩ : ByteArray), .string (⟨#[]⟩ : ByteArray), .slice none 0 0, .bool false]) (t := 59) ?hr ?_; (case hd => rfl); (case hg => rfl); (case hr => first | (go_simp; done) | (go_simp; rfl)); intro gb139 hg w6 hbox hb; have n0_ := Aside0.mk (below_step (by repeat (first | (with_reducible first | exact HB.out | apply below_alloc | apply pw_below_drewN | apply below_drew1) | exact HB.out)) hb); have n1_ := Aside0.mk (hbox); have n2_ := Aside0.mk ((by rw [hg]; exact (below_size (by repeat (first | (with_reducible first | exact HB.out | apply below_alloc | apply pw_below_drewN | apply below_drew1) | exact HB.out))) : w.heap.size ≤ gb139)); have n3_ := Aside0.mk ((by rw [hg]; exact (below_size (by repeat (first | (with_reducible first | exact HB.out | apply below_alloc | apply pw_below_drewN | apply below_drew1) | exact HB.out))) : w.heap.size ≤ gb139)); clear HB; have HB := n0_; have BK139 := n1_; have GW139 := n2_; have GE139 := n3_; clear n0_ n1_ n2_ n3_; clear hb hbox hg) | ((with_reducible refine gate_dst (N := 6) rfl ?_); (try (refine gate_guard (by rfl) ?_; dsimp only)); refine box_event ?hg (N := 6) ?hd (cs := #[.int .i64 0, .string (⟨#[]⟩ : ByteArray), .string (⟨#[]⟩ : ByteArray), .slice none 0 0, .bool false]) (t := 59) ?hr ?_; (case hd => rfl); (case hg => rfl); (case hr => first | (go_simp; done) | (go_simp; rfl)); intro gb140 hg w7 hbox hb; have n0_ := Aside0.mk (blk_below (g := gb139) (o := .cells #[.int .i64 0, .string (⟨#[]⟩ : ByteArray), .string (⟨#[]⟩ : ByteArray), .slice none 0 0, .bool false] 59 (0, 0)) (by (with_reducible repeat (first | refine blk_drewN ?_ _ | refine blk_drew ?_ | refine blk_alloc ?_ _)); exact BK139.out) hb); have n1_ := Aside0.mk (below_step (by repeat (first | (with_reducible first | exact HB.out | apply below_alloc | apply pw_below_drewN | apply below_drew1 | refine below_set ?_ GE139.out) | exact HB.out)) hb); have n2_ := Aside0.mk (hbox); have n3_ := Aside0.mk ((by rw [hg]; exact (below_size (by repeat (first | (with_reducible first | exact HB.out | apply below_alloc | apply pw_below_drewN | apply below_drew1 | refine below_set ?_ GE139.out) | exact HB.out))) : w.heap.size ≤ gb140)); have n4_ := Aside0.mk ((by rw [hg]; exact (below_size (by repeat (first | (with_reducible first | exact HB.out | apply below_alloc | apply pw_below_drewN | apply below_drew1 | refine below_set ?_ GE139.out) | exact HB.out))) : w.heap.size ≤ gb140)); have n5_ := Aside0.mk ((by rw [hg]; exact Nat.ne_of_lt (blk_lt (g := gb139) (o := .cells #[.int .i64 0, .string (⟨#[]⟩ : ByteArray), .string (⟨#[]⟩ : ByteArray), .slice none 0 0, .bool false] 59 (0, 0)) (by (with_reducible repeat (first | refine blk_drewN ?_ _ | refine blk_drew ?_ | refine blk_alloc ?_ _)); exact BK139.out)) : gb139 ≠ gb140)); have n6_ := Aside0.mk ((by rw [hg]; exact Nat.ne_of_gt (blk_lt (g := gb139) (o := .cells #[.int .i64 0, .string (⟨#[]⟩ : ByteArray), .string (⟨#[]⟩ : ByteArray), .slice none 0 0, .bool false] 59 (0, 0)) (by (with_reducible repeat (first | refine blk_drewN ?_ _ | refine blk_drew ?_ | refine blk_alloc ?_ _)); exact BK139.out)) : gb140 ≠ gb139)); clear BK139; clear HB; have BK139 := n0_; have HB := n1_; have BK140 := n2_; have GW140 := n3_; have GE140 := n4_; have NB139_140 := n5_; have NB140_139 := n6_; clear n0_ n1_ n2_ n3_ n4_ n5_ n6_; clear hb hbox hg; have hnb8 := NB140_139.out; have hnc8 := NB139_140.out; have hcz9_0 : w7.cell? ⟨gb140, 0, none⟩ = some (.int .i64 0) := (blk_cell BK140.out 0).trans rfl; have hcz9_1 : w7.cell? ⟨gb140, 1, none⟩ = some (.string (⟨#[]⟩ : ByteArray)) := (blk_cell BK140.out 1).trans rfl; have hcz9_2 : w7.cell? ⟨gb140, 2, none⟩ = some (.string (⟨#[]⟩ : ByteArray)) := (blk_cell BK140.out 2).trans rfl; have hcz9_3 : w7.cell? ⟨gb140, 3, none⟩ = some (.slice none 0 0) := (blk_cell BK140.out 3).trans rfl; have hcz9_4 : w7.cell? ⟨gb140, 4, none⟩ = some (.bool false) := (blk_cell BK140.out 4).trans rfl; have hfz9_0 := blk_frozen BK140.out 0; have hfz9_1 := blk_frozen BK140.out 1; have hfz9_2 := blk_frozen BK140.out 2; have hfz9_3 := blk_frozen BK140.out 3; have hfz9_4 := blk_frozen BK140.out 4) | ((with_reducible refine gate_callee (f := 40) rfl ?_); refine goesL_ (some 17) rfl rfl Tryz.func40 (by kernel_rfl) rfl #[.string a0, .int .i64 a1, .string (⟨#[60, 33, 45, 45]⟩ : ByteArray)] rfl (by (try simp only [List.map_toArray, List.map_cons, List.map_nil]); first | done | rfl | (simp only [List.length_drop, List.length_take]; rfl)) ?_; (with_reducible refine (boltingref06_at.calls a0 a1 (⟨#[60, 33, 45, 45]⟩ : ByteArray) true _ A3.out).mono ?_); rintro e w' ⟨rfl, ⟨nd, rfl⟩⟩; refine ⟨_, rfl, ?_⟩) | ((with_reducible refine gate_callee (f := 88) rfl ?_); refine goesL_ (some 22) rfl rfl Tryz.func88 (by kernel_rfl) rfl #[.string a0, .int .i64 (wrap64 (a1 + 4))] rfl (by (try simp only [List.map_toArray, List.map_cons, List.map_nil]); first | done | rfl | (simp only [List.length_drop, List.length_take]; rfl)) ?_; (with_reducible refine (boltingref06_comment.calls k a0 (wrap64 (a1 + 4)) t142 t143 _ A5.out).mono ?_); rintro e w10 ⟨rfl, hb⟩; refine ⟨_, rfl, ?_⟩; have n0_ := Aside0.mk (blk_below (g := gb139) (o := .cells #[.int .i64 0, .string (⟨#[]⟩ : ByteArray), .string (⟨#[]⟩ : ByteArray), .slice none 0 0, .bool false] 59 (0, 0)) (by (with_reducible repeat (first | refine blk_drewN ?_ _ | refine blk_drew ?_ | refine blk_alloc ?_ _)); refine blk_far ?_ NB139_140.out _; (with_reducible repeat (first | refine blk_drewN ?_ _ | refine blk_drew ?_ | refine blk_alloc ?_ _)); refine blk_far ?_ NB139_140.out _; (with_reducible repeat (first | refine blk_drewN ?_ _ | refine blk_drew ?_ | refine blk_alloc ?_ _)); refine blk_far ?_ NB139_140.out _; (with_reducible repeat (first | refine blk_drewN ?_ _ | refine blk_drew ?_ | refine blk_alloc ?_ _)); refine blk_far ?_ NB139_140.out _; (with_reducible repeat (first | refine blk_drewN ?_ _ | refine blk_drew ?_ | refine blk_alloc ?_ _)); refine blk_far ?_ NB139_140.out _; (with_reducible repeat (first | refine blk_drewN ?_ _ | refine blk_drew ?_ | refine blk_alloc ?_ _)); exact BK139.out) hb); have n1_ := Aside0.mk (blk_below (g := gb140) (o := .cells #[.int .i64 3, .string (⟨#[]⟩ : ByteArray), .string (⟨#[]⟩ : ByteArray), .slice none 0 0, .bool false] 59 (0, 0)) (by (with_reducible repeat (first | refine blk_drewN ?_ _ | refine blk_drew ?_ | refine blk_alloc ?_ _)); refine blk_put (cs := #[.int .i64 3, .string (⟨#[]⟩ : ByteArray), .string (⟨#[]⟩ : ByteArray), .slice none 0 0, .bool false]) ?_ 4 _ rfl; (with_reducible repeat (first | refine blk_drewN ?_ _ | refine blk_drew ?_ | refine blk_alloc ?_ _)); refine blk_put (cs := #[.int .i64 3, .string (⟨#[]⟩ : ByteArray), .string (⟨#[]⟩ : ByteArray), .slice none 0 0, .bool false]) ?_ 3 _ rfl; (with_reducible repeat (first | refine blk_drewN ?_ _ | refine blk_drew ?_ | refine blk_alloc ?_ _)); refine blk_put (cs := #[.int .i64 3, .string (⟨#[]⟩ : ByteArray), .string (⟨#[]⟩ : ByteArray), .slice none 0 0, .bool false]) ?_ 2 _ rfl; (with_reducible repeat (first | refine blk_drewN ?_ _ | refine blk_drew ?_ | refine blk_alloc ?_ _)); refine blk_put (cs := #[.int .i64 3, .string (⟨#[]⟩ : ByteArray), .string (⟨#[]⟩ : ByteArray), .slice none 0 0, .bool false]) ?_ 1 _ rfl; (with_reducible repeat (first | refine blk_drewN ?_ _ | refine blk_drew ?_ | refine blk_alloc ?_ _)); refine blk_put (cs := #[.int .i64 0, .string (⟨#[]⟩ : ByteArray), .string (⟨#[]⟩ : ByteArray), .slice none 0 0, .bool false]) ?_ 0 _ rfl; (with_reducible repeat (first | refine blk_drewN ?_ _ | refine blk_drew ?_ | refine blk_alloc ?_ _)); exact BK140.out) hb); have n2_ := Aside0.mk (below_step (by repeat (first | (with_reducible first | exact HB.out | apply below_alloc | apply pw_below_drewN | apply below_drew1 | refine below_set ?_ GE139.out | refine below_set ?_ GE140.out) | exact HB.out)) hb); clear BK139; clear BK140; clear HB; have BK139 := n0_; have BK140 := n1_; have HB := n2_; clear n0_ n1_ n2_; (try clear hb); (try clear hb2); (try clear hk); (try clear hi); have hcz11_0 : w10.cell? ⟨gb140, 0, none⟩ = some (.int .i64 3) := (blk_cell BK140.out 0).trans rfl; have hcz11_1 : w10.cell? ⟨gb140, 1, none⟩ = some (.string (⟨#[]⟩ : ByteArray)) := (blk_cell BK140.out 1).trans rfl; have hcz11_2 : w10.cell? ⟨gb140, 2, none⟩ = some (.string (⟨#[]⟩ : ByteArray)) := (blk_cell BK140.out 2).trans rfl; have hcz11_3 : w10.cell? ⟨gb140, 3, none⟩ = some (.slice none 0 0) := (blk_cell BK140.out 3).trans rfl; have hcz11_4 : w10.cell? ⟨gb140, 4, none⟩ = some (.bool false) := (blk_cell BK140.out 4).trans rfl; have hfz11_0 := blk_frozen BK140.out 0; have hfz11_1 := blk_frozen BK140.out 1; have hfz11_2 := blk_frozen BK140.out 2; have hfz11_3 := blk_frozen BK140.out 3; have hfz11_4 := blk_frozen BK140.out 4; have hcz12_0 : w10.cell? ⟨gb139, 0, none⟩ = some (.int .i64 0) := (blk_cell BK139.out 0).trans rfl; have hcz12_1 : w10.cell? ⟨gb139, 1, none⟩ = some (.string (⟨#[]⟩ : ByteArray)) := (blk_cell BK139.out 1).trans rfl; have hcz12_2 : w10.cell? ⟨gb139, 2, none⟩ = some (.string (⟨#[]⟩ : ByteArray)) := (blk_cell BK139.out 2).trans rfl; have hcz12_3 : w10.cell? ⟨gb139, 3, none⟩ = some (.slice none 0 0) := (blk_cell BK139.out 3).trans rfl; have hcz12_4 : w10.cell? ⟨gb139, 4, none⟩ = some (.bool false) := (blk_cell BK139.out 4).trans rfl; have hfz12_0 := blk_frozen BK139.out 0; have hfz12_1 := blk_frozen BK139.out 1; have hfz12_2 := blk_frozen BK139.out 2; have hfz12_3 := blk_frozen BK139.out 3; have hfz12_4 := blk_frozen BK139.out 4))
    refine bodyPost_ret (results_ct rfl _ _ gb139 59 #[.int .i64 3, .string (⟨#[]⟩ : ByteArray), .string t142, .slice none 0 0, .bool false] (0, 0) _ rfl (by (with_reducible repeat (first | refine blk_drewN ?_ _ | refine blk_drew ?_ | refine blk_alloc ?_ _)); refine blk_put (cs := #[.int .i64 3, .string (⟨#[]⟩ : ByteArray), .string t142, .slice none 0 0, .bool false]) ?_ 4 _ rfl; (with_reducible repeat (first | refine blk_drewN ?_ _ | refine blk_drew ?_ | refine blk_alloc ?_ _)); refine blk_put (cs := #[.int .i64 3, .string (⟨#[]⟩ : ByteArray), .string t142, .slice none 0 0, .bool false]) ?_ 3 _ rfl; (with_reducible repeat (first | refine blk_drewN ?_ _ | refine blk_drew ?_ | refine blk_alloc ?_ _)); refine blk_put (cs := #[.int .i64 3, .string (⟨#[]⟩ : ByteArray), .string (⟨#[]⟩ : ByteArray), .slice none 0 0, .bool false]) ?_ 2 _ rfl; (with_reducible repeat (first | refine blk_drewN ?_ _ | refine blk_drew ?_ | refine blk_alloc ?_ _)); refine blk_put (cs := #[.int .i64 3, .string (⟨#[]⟩ : ByteArray), .string (⟨#[]⟩ : ByteArray), .slice none 0 0, .bool false]) ?_ 1 _ rfl; (with_reducible repeat (first | refine blk_drewN ?_ _ | refine blk_drew ?_ | refine blk_alloc ?_ _)); refine blk_put (cs := #[.int .i64 0, .string (⟨#[]⟩ : ByteArray), .string (⟨#[]⟩ : ByteArray), .slice none 0 0, .bool false]) ?_ 0 _ rfl; (with_reducible repeat (first | refine blk_drewN ?_ _ | refine blk_drew ?_ | refine blk_alloc ?_ _)); refine blk_far ?_ NB139_140.out _; (with_reducible repeat (first | refine blk_drewN ?_ _ | refine blk_drew ?_ | refine blk_alloc ?_ _)); exact BK139.out) Tryz.underlying59 rfl (by kernel_rfl)) rfl ?_
    exact ⟨_, by first | rfl | (simp [errW_none, errW_some] <;> rfl) | (simp [*, errW_none, errW_some] <;> rfl), by first | exact Kd.R_nil _ _ _ _ _ | exact Kd.N_nil _ _ _ _ _ | exact Kd.V_nil _ _ _ _ _ | exact Kd.Q_nil _ _ _ _ _ | exact Kd.S_nil _ _ _ _ _, by repeat (first | (with_reducible first | exact HB.out | apply below_alloc | apply pw_below_drewN | apply below_drew1 | refine below_set ?_ GE139.out | refine below_set ?_ GE140.out) | exact HB.out)⟩
  · replace c4 := Bool.eq_false_iff.mpr c4
    subst c4
    have H1 : (if (wrap64 (a1 + 9)) ≤ (a0.size : Int) then (if 0 ≤ a1 then (if a1 ≤ (wrap64 (a1 + 9)) then ((boltingref02_Lower.f (a0.extract (a1 : Int).toNat ((wrap64 (a1 + 9)) : Int).toNat)).bind fun t144 => (if t144.toList = ([60, 33, 100, 111, 99, 116, 121, 112, 101] : List UInt8) then ((boltingref06_letter.f a0 (wrap64 (a1 + 9))).bind fun t145 => (boltingref06_note.j0 k a0 a1 (!t145) 3 (⟨#[]⟩ : ByteArray) (⟨#[]⟩ : ByteArray) false)) else (boltingref06_note.j0 k a0 a1 false 3 (⟨#[]⟩ : ByteArray) (⟨#[]⟩ : ByteArray) false))) else (none)) else (none)) else (boltingref06_note.j0 k a0 a1 false 3 (⟨#[]⟩ : ByteArray) (⟨#[]⟩ : ByteArray) false)) = some (r1, r2, r3, r4, r5, r6) := by rw [if_neg (show ¬ (false = true) by decide)] at H; first | exact H | (simp only [eq_self] at H ⊢; exact H) | (simp only [eq_self, if_true] at H ⊢; exact H)
    clear H
    have H := H1
    clear H1
    have HC13 := Aside0.mk H
    clear H
    go_enter Tryz.func44, Tryz.ntmps44
    go_upto_region 6 with (first | ((with_reducible refine gate_dst (N := 4) rfl ?_); (try (refine gate_guard (by rfl) ?_; dsimp only)); refine box_event ?hg (N := 4) ?hd (cs := #[.int .i64 0, .string (⟨#[]⟩ : ByteArray), .string (⟨#[]⟩ : ByteArray), .slice none 0 0, .bool false]) (t := 59) ?hr ?_; (case hd => rfl); (case hg => rfl); (case hr => first | (go_simp; done) | (go_simp; rfl)); intro gb139 hg w14 hbox hb; have n0_ := Aside0.mk (below_step (by repeat (first | (with_reducible first | exact HB.out | apply below_alloc | apply pw_below_drewN | apply below_drew1) | exact HB.out)) hb); have n1_ := Aside0.mk (hbox); have n2_ := Aside0.mk ((by rw [hg]; exact (below_size (by repeat (first | (with_reducible first | exact HB.out | apply below_alloc | apply pw_below_drewN | apply below_drew1) | exact HB.out))) : w.heap.size ≤ gb139)); have n3_ := Aside0.mk ((by rw [hg]; exact (below_size (by repeat (first | (with_reducible first | exact HB.out | apply below_alloc | apply pw_below_drewN | apply below_drew1) | exact HB.out))) : w.heap.size ≤ gb139)); clear HB; have HB := n0_; have BK139 := n1_; have GW139 := n2_; have GE139 := n3_; clear n0_ n1_ n2_ n3_; clear hb hbox hg) | ((with_reducible refine gate_dst (N := 6) rfl ?_); (try (refine gate_guard (by rfl) ?_; dsimp only)); refine box_event ?hg (N := 6) ?hd (cs := #[.int .i64 0, .string (⟨#[]⟩ : ByteArray), .string (⟨#[]⟩ : ByteArray), .slice none 0 0, .bool false]) (t := 59) ?hr ?_; (case hd => rfl); (case hg => rfl); (case hr => first | (go_simp; done) | (go_simp; rfl)); intro gb140 hg w15 hbox hb; have n0_ := Aside0.mk (blk_below (g := gb139) (o := .cells #[.int .i64 0, .string (⟨#[]⟩ : ByteArray), .string (⟨#[]⟩ : ByteArray), .slice none 0 0, .bool false] 59 (0, 0)) (by (with_reducible repeat (first | refine blk_drewN ?_ _ | refine blk_drew ?_ | refine blk_alloc ?_ _)); exact BK139.out) hb); have n1_ := Aside0.mk (below_step (by repeat (first | (with_reducible first | exact HB.out | apply below_alloc | apply pw_below_drewN | apply below_drew1 | refine below_set ?_ GE139.out) | exact HB.out)) hb); have n2_ := Aside0.mk (hbox); have n3_ := Aside0.mk ((by rw [hg]; exact (below_size (by repeat (first | (with_reducible first | exact HB.out | apply below_alloc | apply pw_below_drewN | apply below_drew1 | refine below_set ?_ GE139.out) | exact HB.out))) : w.heap.size ≤ gb140)); have n4_ := Aside0.mk ((by rw [hg]; exact (below_size (by repeat (first | (with_reducible first | exact HB.out | apply below_alloc | apply pw_below_drewN | apply below_drew1 | refine below_set ?_ GE139.out) | exact HB.out))) : w.heap.size ≤ gb140)); have n5_ := Aside0.mk ((by rw [hg]; exact Nat.ne_of_lt (blk_lt (g := gb139) (o := .cells #[.int .i64 0, .string (⟨#[]⟩ : ByteArray), .string (⟨#[]⟩ : ByteArray), .slice none 0 0, .bool false] 59 (0, 0)) (by (with_reducible repeat (first | refine blk_drewN ?_ _ | refine blk_drew ?_ | refine blk_alloc ?_ _)); exact BK139.out)) : gb139 ≠ gb140)); have n6_ := Aside0.mk ((by rw [hg]; exact Nat.ne_of_gt (blk_lt (g := gb139) (o := .cells #[.int .i64 0, .string (⟨#[]⟩ : ByteArray), .string (⟨#[]⟩ : ByteArray), .slice none 0 0, .bool false] 59 (0, 0)) (by (with_reducible repeat (first | refine blk_drewN ?_ _ | refine blk_drew ?_ | refine blk_alloc ?_ _)); exact BK139.out)) : gb140 ≠ gb139)); clear BK139; clear HB; have BK139 := n0_; have HB := n1_; have BK140 := n2_; have GW140 := n3_; have GE140 := n4_; have NB139_140 := n5_; have NB140_139 := n6_; clear n0_ n1_ n2_ n3_ n4_ n5_ n6_; clear hb hbox hg; have hnb16 := NB140_139.out; have hnc16 := NB139_140.out; have hcz17_0 : w15.cell? ⟨gb140, 0, none⟩ = some (.int .i64 0) := (blk_cell BK140.out 0).trans rfl; have hcz17_1 : w15.cell? ⟨gb140, 1, none⟩ = some (.string (⟨#[]⟩ : ByteArray)) := (blk_cell BK140.out 1).trans rfl; have hcz17_2 : w15.cell? ⟨gb140, 2, none⟩ = some (.string (⟨#[]⟩ : ByteArray)) := (blk_cell BK140.out 2).trans rfl; have hcz17_3 : w15.cell? ⟨gb140, 3, none⟩ = some (.slice none 0 0) := (blk_cell BK140.out 3).trans rfl; have hcz17_4 : w15.cell? ⟨gb140, 4, none⟩ = some (.bool false) := (blk_cell BK140.out 4).trans rfl; have hfz17_0 := blk_frozen BK140.out 0; have hfz17_1 := blk_frozen BK140.out 1; have hfz17_2 := blk_frozen BK140.out 2; have hfz17_3 := blk_frozen BK140.out 3; have hfz17_4 := blk_frozen BK140.out 4) | ((with_reducible refine gate_callee (f := 40) rfl ?_); refine goesL_ (some 17) rfl rfl Tryz.func40 (by kernel_rfl) rfl #[.string a0, .int .i64 a1, .string (⟨#[60, 33, 45, 45]⟩ : ByteArray)] rfl (by (try simp only [List.map_toArray, List.map_cons, List.map_nil]); first | done | rfl | (simp only [List.length_drop, List.length_take]; rfl)) ?_; (with_reducible refine (boltingref06_at.calls a0 a1 (⟨#[60, 33, 45, 45]⟩ : ByteArray) false _ A3.out).mono ?_); rintro e w' ⟨rfl, ⟨nd, rfl⟩⟩; refine ⟨_, rfl, ?_⟩))
    (try simp only [Act.put, List.setIfInBounds_toArray, List.set_cons_zero, List.set_cons_succ])
    go_cut [49] (fun v49 wc => ∃ (kq : Nat) (x49_12 : Bool), v49 = .bool x49_12 ∧ Aside0 (boltingref06_note.j0 kq a0 a1 x49_12 3 (⟨#[]⟩ : ByteArray) (⟨#[]⟩ : ByteArray) false = some (r1, r2, r3, r4, r5, r6)) ∧ Aside0 (kq ≤ k) ∧ Aside0 (wc.heap[gb139]? = some (.cells #[.int .i64 0, .string (⟨#[]⟩ : ByteArray), .string (⟨#[]⟩ : ByteArray), (.slice none 0 0), .bool false] 59 (0, 0))) ∧ Aside0 (wc.heap[gb140]? = some (.cells #[.int .i64 3, .string (⟨#[]⟩ : ByteArray), .string (⟨#[]⟩ : ByteArray), (.slice none 0 0), .bool false] 59 (0, 0))) ∧ Aside0 (Below w.heap.size w wc))
    case first =>
      have H := HC13.out
      clear HC13
      by_cases c18 : (wrap64 (a1 + 9)) ≤ (a0.size : Int)
      · rw [if_pos c18] at H
        have c18b0 : decide ((wrap64 (a1 + 9)) ≤ (a0.size : Int)) = true := decide_eq_true c18
        clear c18
        (first | rw [c18b0] | (simp only [i64_w, i32_w]; rw [c18b0]) | skip)
        by_cases c19 : 0 ≤ a1
        · rw [if_pos c19] at H
          have c19b0 := eq_true c19
          have c19b1 : decide (0 ≤ a1) = true := decide_eq_true c19
          clear c19
          by_cases c20 : a1 ≤ (wrap64 (a1 + 9))
          · rw [if_pos c20] at H
            have c20b0 := eq_true c20
            have c20b1 : decide (a1 ≤ (wrap64 (a1 + 9))) = true := decide_eq_true c20
            have c21b0 := eq_true ((by first | exact of_decide_eq_true (by first | (with_reducible assumption) | assumption) | assumption | omega) : (wrap64 (a1 + 9)) ≤ (a0.size : Int))
            replace H := Option.bind_eq_some_iff.mp H
            obtain ⟨t144, A220, H⟩ := H
            replace H : (if t144.toList = ([60, 33, 100, 111, 99, 116, 121, 112, 101] : List UInt8) then ((boltingref06_letter.f a0 (wrap64 (a1 + 9))).bind fun t145 => (boltingref06_note.j0 k a0 a1 (!t145) 3 (⟨#[]⟩ : ByteArray) (⟨#[]⟩ : ByteArray) false)) else (boltingref06_note.j0 k a0 a1 false 3 (⟨#[]⟩ : ByteArray) (⟨#[]⟩ : ByteArray) false)) = some (r1, r2, r3, r4, r5, r6) := H
            have A22 := Aside0.mk A220
            clear A220
            by_cases c23 : t144.toList = ([60, 33, 100, 111, 99, 116, 121, 112, 101] : List UInt8)
            · rw [if_pos c23] at H
              have c23b0 : (t144.toList == ([60, 33, 100, 111, 99, 116, 121, 112, 101] : List UInt8)) = true := beq_iff_eq.mpr c23
              have c23b1 : (t144.toList != ([60, 33, 100, 111, 99, 116, 121, 112, 101] : List UInt8)) = false := bne_eq_false_iff_eq.mpr c23
              clear c23
              replace H := Option.bind_eq_some_iff.mp H
              obtain ⟨t145, A240, H⟩ := H
              replace H : (boltingref06_note.j0 k a0 a1 (!t145) 3 (⟨#[]⟩ : ByteArray) (⟨#[]⟩ : ByteArray) false) = some (r1, r2, r3, r4, r5, r6) := H
              have A24 := Aside0.mk A240
              clear A240
              have H' := Aside0.mk H
              clear H
              go_wp2_with (first | (go_at_call 84; (with_reducible refine (boltingref02_Lower.calls (a0.extract (a1 : Int).toNat ((wrap64 (a1 + 9)) : Int).toNat) t144 _ A22.out).mono ?_); rintro e w25 ⟨rfl, hb⟩; have n0_ := Aside0.mk (blk_below (g := gb139) (o := .cells #[.int .i64 0, .string (⟨#[]⟩ : ByteArray), .string (⟨#[]⟩ : ByteArray), .slice none 0 0, .bool false] 59 (0, 0)) (by (with_reducible repeat (first | refine blk_drewN ?_ _ | refine blk_drew ?_ | refine blk_alloc ?_ _)); refine blk_far ?_ NB139_140.out _; (with_reducible repeat (first | refine blk_drewN ?_ _ | refine blk_drew ?_ | refine blk_alloc ?_ _)); refine blk_far ?_ NB139_140.out _; (with_reducible repeat (first | refine blk_drewN ?_ _ | refine blk_drew ?_ | refine blk_alloc ?_ _)); refine blk_far ?_ NB139_140.out _; (with_reducible repeat (first | refine blk_drewN ?_ _ | refine blk_drew ?_ | refine blk_alloc ?_ _)); refine blk_far ?_ NB139_140.out _; (with_reducible repeat (first | refine blk_drewN ?_ _ | refine blk_drew ?_ | refine blk_alloc ?_ _)); refine blk_far ?_ NB139_140.out _; (with_reducible repeat (first | refine blk_drewN ?_ _ | refine blk_drew ?_ | refine blk_alloc ?_ _)); exact BK139.out) hb); have n1_ := Aside0.mk (blk_below (g := gb140) (o := .cells #[.int .i64 3, .string (⟨#[]⟩ : ByteArray), .string (⟨#[]⟩ : ByteArray), .slice none 0 0, .bool false] 59 (0, 0)) (by (with_reducible repeat (first | refine blk_drewN ?_ _ | refine blk_drew ?_ | refine blk_alloc ?_ _)); refine blk_put (cs := #[.int .i64 3, .string (⟨#[]⟩ : ByteArray), .string (⟨#[]⟩ : ByteArray), .slice none 0 0, .bool false]) ?_ 4 _ rfl; (with_reducible repeat (first | refine blk_drewN ?_ _ | refine blk_drew ?_ | refine blk_alloc ?_ _)); refine blk_put (cs := #[.int .i64 3, .string (⟨#[]⟩ : ByteArray), .string (⟨#[]⟩ : ByteArray), .slice none 0 0, .bool false]) ?_ 3 _ rfl; (with_reducible repeat (first | refine blk_drewN ?_ _ | refine blk_drew ?_ | refine blk_alloc ?_ _)); refine blk_put (cs := #[.int .i64 3, .string (⟨#[]⟩ : ByteArray), .string (⟨#[]⟩ : ByteArray), .slice none 0 0, .bool false]) ?_ 2 _ rfl; (with_reducible repeat (first | refine blk_drewN ?_ _ | refine blk_drew ?_ | refine blk_alloc ?_ _)); refine blk_put (cs := #[.int .i64 3, .string (⟨#[]⟩ : ByteArray), .string (⟨#[]⟩ : ByteArray), .slice none 0 0, .bool false]) ?_ 1 _ rfl; (with_reducible repeat (first | refine blk_drewN ?_ _ | refine blk_drew ?_ | refine blk_alloc ?_ _)); refine blk_put (cs := #[.int .i64 0, .string (⟨#[]⟩ : ByteArray), .string (⟨#[]⟩ : ByteArray), .slice none 0 0, .bool false]) ?_ 0 _ rfl; (with_reducible repeat (first | refine blk_drewN ?_ _ | refine blk_drew ?_ | refine blk_alloc ?_ _)); exact BK140.out) hb); have n2_ := Aside0.mk (below_step (by repeat (first | (with_reducible first | exact HB.out | apply below_alloc | apply pw_below_drewN | apply below_drew1 | refine below_set ?_ GE139.out | refine below_set ?_ GE140.out) | exact HB.out)) hb); clear BK139; clear BK140; clear HB; have BK139 := n0_; have BK140 := n1_; have HB := n2_; clear n0_ n1_ n2_; (try clear hb); (try clear hb2); (try clear hk); (try clear hi)) | (go_at_call 41; (with_reducible refine (boltingref06_letter.calls a0 (wrap64 (a1 + 9)) t145 _ A24.out).mono ?_); rintro e w' ⟨rfl, ⟨nd, rfl⟩⟩))
              go_meet
              case rel => exact ⟨_, (!t145), (by first | rfl | (simp; done) | (simp [*]; done)), H', ⟨by first | omega | exact Nat.le_refl _⟩, ⟨by (with_reducible repeat (first | refine blk_drewN ?_ _ | refine blk_drew ?_ | refine blk_alloc ?_ _)); exact BK139.out⟩, ⟨by (with_reducible repeat (first | refine blk_drewN ?_ _ | refine blk_drew ?_ | refine blk_alloc ?_ _)); exact BK140.out⟩, ⟨by repeat (first | (with_reducible first | exact HB.out | apply below_alloc | apply pw_below_drewN | apply below_drew1 | refine below_set ?_ GE139.out | refine below_set ?_ GE140.out) | exact HB.out)⟩⟩
            · rw [if_neg c23] at H
              have c23b0 : (t144.toList == ([60, 33, 100, 111, 99, 116, 121, 112, 101] : List UInt8)) = false := beq_eq_false_iff_ne.mpr c23
              have c23b1 : (t144.toList != ([60, 33, 100, 111, 99, 116, 121, 112, 101] : List UInt8)) = true := bne_iff_ne.mpr c23
              have H' := Aside0.mk H
              clear H
              go_wp2_with (first | (go_at_call 84; (with_reducible refine (boltingref02_Lower.calls (a0.extract (a1 : Int).toNat ((wrap64 (a1 + 9)) : Int).toNat) t144 _ A22.out).mono ?_); rintro e w26 ⟨rfl, hb⟩; have n0_ := Aside0.mk (blk_below (g := gb139) (o := .cells #[.int .i64 0, .string (⟨#[]⟩ : ByteArray), .string (⟨#[]⟩ : ByteArray), .slice none 0 0, .bool false] 59 (0, 0)) (by (with_reducible repeat (first | refine blk_drewN ?_ _ | refine blk_drew ?_ | refine blk_alloc ?_ _)); refine blk_far ?_ NB139_140.out _; (with_reducible repeat (first | refine blk_drewN ?_ _ | refine blk_drew ?_ | refine blk_alloc ?_ _)); refine blk_far ?_ NB139_140.out _; (with_reducible repeat (first | refine blk_drewN ?_ _ | refine blk_drew ?_ | refine blk_alloc ?_ _)); refine blk_far ?_ NB139_140.out _; (with_reducible repeat (first | refine blk_drewN ?_ _ | refine blk_drew ?_ | refine blk_alloc ?_ _)); refine blk_far ?_ NB139_140.out _; (with_reducible repeat (first | refine blk_drewN ?_ _ | refine blk_drew ?_ | refine blk_alloc ?_ _)); refine blk_far ?_ NB139_140.out _; (with_reducible repeat (first | refine blk_drewN ?_ _ | refine blk_drew ?_ | refine blk_alloc ?_ _)); exact BK139.out) hb); have n1_ := Aside0.mk (blk_below (g := gb140) (o := .cells #[.int .i64 3, .string (⟨#[]⟩ : ByteArray), .string (⟨#[]⟩ : ByteArray), .slice none 0 0, .bool false] 59 (0, 0)) (by (with_reducible repeat (first | refine blk_drewN ?_ _ | refine blk_drew ?_ | refine blk_alloc ?_ _)); refine blk_put (cs := #[.int .i64 3, .string (⟨#[]⟩ : ByteArray), .string (⟨#[]⟩ : ByteArray), .slice none 0 0, .bool false]) ?_ 4 _ rfl; (with_reducible repeat (first | refine blk_drewN ?_ _ | refine blk_drew ?_ | refine blk_alloc ?_ _)); refine blk_put (cs := #[.int .i64 3, .string (⟨#[]⟩ : ByteArray), .string (⟨#[]⟩ : ByteArray), .slice none 0 0, .bool false]) ?_ 3 _ rfl; (with_reducible repeat (first | refine blk_drewN ?_ _ | refine blk_drew ?_ | refine blk_alloc ?_ _)); refine blk_put (cs := #[.int .i64 3, .string (⟨#[]⟩ : ByteArray), .string (⟨#[]⟩ : ByteArray), .slice none 0 0, .bool false]) ?_ 2 _ rfl; (with_reducible repeat (first | refine blk_drewN ?_ _ | refine blk_drew ?_ | refine blk_alloc ?_ _)); refine blk_put (cs := #[.int .i64 3, .string (⟨#[]⟩ : ByteArray), .string (⟨#[]⟩ : ByteArray), .slice none 0 0, .bool false]) ?_ 1 _ rfl; (with_reducible repeat (first | refine blk_drewN ?_ _ | refine blk_drew ?_ | refine blk_alloc ?_ _)); refine blk_put (cs := #[.int .i64 0, .string (⟨#[]⟩ : ByteArray), .string (⟨#[]⟩ : ByteArray), .slice none 0 0, .bool false]) ?_ 0 _ rfl; (with_reducible repeat (first | refine blk_drewN ?_ _ | refine blk_drew ?_ | refine blk_alloc ?_ _)); exact BK140.out) hb); have n2_ := Aside0.mk (below_step (by repeat (first | (with_reducible first | exact HB.out | apply below_alloc | apply pw_below_drewN | apply below_drew1 | refine below_set ?_ GE139.out | refine below_set ?_ GE140.out) | exact HB.out)) hb); clear BK139; clear BK140; clear HB; have BK139 := n0_; have BK140 := n1_; have HB := n2_; clear n0_ n1_ n2_; (try clear hb); (try clear hb2); (try clear hk); (try clear hi)))
              go_meet
              case rel => exact ⟨_, (false), (by first | rfl | (simp; done) | (simp [*]; done)), H', ⟨by first | omega | exact Nat.le_refl _⟩, ⟨by (with_reducible repeat (first | refine blk_drewN ?_ _ | refine blk_drew ?_ | refine blk_alloc ?_ _)); exact BK139.out⟩, ⟨by (with_reducible repeat (first | refine blk_drewN ?_ _ | refine blk_drew ?_ | refine blk_alloc ?_ _)); exact BK140.out⟩, ⟨by repeat (first | (with_reducible first | exact HB.out | apply below_alloc | apply pw_below_drewN | apply below_drew1 | refine below_set ?_ GE139.out | refine below_set ?_ GE140.out) | exact HB.out)⟩⟩
          · rw [if_neg c20] at H
            exact absurd H (by simp)
        · rw [if_neg c19] at H
          exact absurd H (by simp)
      · rw [if_neg c18] at H
        have c18b0 : decide ((wrap64 (a1 + 9)) ≤ (a0.size : Int)) = false := decide_eq_false c18
        clear c18
        (first | rw [c18b0] | (simp only [i64_w, i32_w]; rw [c18b0]) | skip)
        have H' := Aside0.mk H
        clear H
        go_wp2
        go_meet
        case rel => exact ⟨_, (false), (by first | rfl | (simp; done) | (simp [*]; done)), H', ⟨by first | omega | exact Nat.le_refl _⟩, ⟨by (with_reducible repeat (first | refine blk_drewN ?_ _ | refine blk_drew ?_ | refine blk_alloc ?_ _)); refine blk_far ?_ NB139_140.out _; (with_reducible repeat (first | refine blk_drewN ?_ _ | refine blk_drew ?_ | refine blk_alloc ?_ _)); refine blk_far ?_ NB139_140.out _; (with_reducible repeat (first | refine blk_drewN ?_ _ | refine blk_drew ?_ | refine blk_alloc ?_ _)); refine blk_far ?_ NB139_140.out _; (with_reducible repeat (first | refine blk_drewN ?_ _ | refine blk_drew ?_ | refine blk_alloc ?_ _)); refine blk_far ?_ NB139_140.out _; (with_reducible repeat (first | refine blk_drewN ?_ _ | refine blk_drew ?_ | refine blk_alloc ?_ _)); refine blk_far ?_ NB139_140.out _; (with_reducible repeat (first | refine blk_drewN ?_ _ | refine blk_drew ?_ | refine blk_alloc ?_ _)); exact BK139.out⟩, ⟨by (with_reducible repeat (first | refine blk_drewN ?_ _ | refine blk_drew ?_ | refine blk_alloc ?_ _)); refine blk_put (cs := #[.int .i64 3, .string (⟨#[]⟩ : ByteArray), .string (⟨#[]⟩ : ByteArray), .slice none 0 0, .bool false]) ?_ 4 _ rfl; (with_reducible repeat (first | refine blk_drewN ?_ _ | refine blk_drew ?_ | refine blk_alloc ?_ _)); refine blk_put (cs := #[.int .i64 3, .string (⟨#[]⟩ : ByteArray), .string (⟨#[]⟩ : ByteArray), .slice none 0 0, .bool false]) ?_ 3 _ rfl; (with_reducible repeat (first | refine blk_drewN ?_ _ | refine blk_drew ?_ | refine blk_alloc ?_ _)); refine blk_put (cs := #[.int .i64 3, .string (⟨#[]⟩ : ByteArray), .string (⟨#[]⟩ : ByteArray), .slice none 0 0, .bool false]) ?_ 2 _ rfl; (with_reducible repeat (first | refine blk_drewN ?_ _ | refine blk_drew ?_ | refine blk_alloc ?_ _)); refine blk_put (cs := #[.int .i64 3, .string (⟨#[]⟩ : ByteArray), .string (⟨#[]⟩ : ByteArray), .slice none 0 0, .bool false]) ?_ 1 _ rfl; (with_reducible repeat (first | refine blk_drewN ?_ _ | refine blk_drew ?_ | refine blk_alloc ?_ _)); refine blk_put (cs := #[.int .i64 0, .string (⟨#[]⟩ : ByteArray), .string (⟨#[]⟩ : ByteArray), .slice none 0 0, .bool false]) ?_ 0 _ rfl; (with_reducible repeat (first | refine blk_drewN ?_ _ | refine blk_drew ?_ | refine blk_alloc ?_ _)); exact BK140.out⟩, ⟨by repeat (first | (with_reducible first | exact HB.out | apply below_alloc | apply pw_below_drewN | apply below_drew1 | refine below_set ?_ GE139.out | refine below_set ?_ GE140.out) | exact HB.out)⟩⟩
    case rest =>
      clear HC13
      try clear c1
      try clear c2
      try clear p2
      try clear c4
      try clear p6
      try clear c8
      try clear c16
      try clear c18
      try clear c18b0
      try clear c19
      try clear c19b0
      try clear c19b1
      try clear c20
      try clear c20b0
      try clear c20b1
      try clear c21
      try clear c21b0
      try clear c23
      try clear c23b0
      try clear c23b1
      try clear hcz11_0
      try clear hcz11_1
      try clear hcz11_2
      try clear hcz11_3
      try clear hcz11_4
      try clear hcz12_0
      try clear hcz12_1
      try clear hcz12_2
      try clear hcz12_3
      try clear hcz12_4
      try clear hcz17_0
      try clear hcz17_1
      try clear hcz17_2
      try clear hcz17_3
      try clear hcz17_4
      try clear hcz9_0
      try clear hcz9_1
      try clear hcz9_2
      try clear hcz9_3
      try clear hcz9_4
      try clear hfz11_0
      try clear hfz11_1
      try clear hfz11_2
      try clear hfz11_3
      try clear hfz11_4
      try clear hfz12_0
      try clear hfz12_1
      try clear hfz12_2
      try clear hfz12_3
      try clear hfz12_4
      try clear hfz17_0
      try clear hfz17_1
      try clear hfz17_2
      try clear hfz17_3
      try clear hfz17_4
      try clear hfz9_0
      try clear hfz9_1
      try clear hfz9_2
      try clear hfz9_3
      try clear hfz9_4
      obtain ⟨kq, x49_12, rfl, HA, HJ12, BK139, BK140, HB⟩ := hcut
      cases kq with
      | zero => exact absurd HA.out (by simp [boltingref06_note.j0])
      | succ kj12 =>
        have H := HA.out
        clear HA
        simp only [boltingref06_note.j0] at H
        by_cases c27 : x49_12 = true
        · subst c27
          have H1 : ((boltingref06_other.f kj12 a0 (wrap64 (a1 + 9))).bind fun bt146 => ((boltingref02_Trim.f kj12 bt146.1).bind fun t148 => (some (4, (⟨#[]⟩ : ByteArray), t148, ([] : List (S40)), false, bt146.2)))) = some (r1, r2, r3, r4, r5, r6) := by rw [if_pos rfl] at H; exact H
          clear H
          have H := H1
          clear H1
          replace H := Option.bind_eq_some_iff.mp H
          obtain ⟨⟨t146, t147⟩, A280, H⟩ := H
          replace H : ((boltingref02_Trim.f kj12 t146).bind fun t148 => (some (4, (⟨#[]⟩ : ByteArray), t148, ([] : List (S40)), false, t147))) = some (r1, r2, r3, r4, r5, r6) := H
          have A28 := Aside0.mk A280
          clear A280
          replace H := Option.bind_eq_some_iff.mp H
          obtain ⟨t148, A290, H⟩ := H
          replace H : (some (4, (⟨#[]⟩ : ByteArray), t148, ([] : List (S40)), false, t147)) = some (r1, r2, r3, r4, r5, r6) := H
          have A29 := Aside0.mk A290
          clear A290
          simp only [Option.some.injEq, Prod.mk.injEq] at H
          obtain ⟨rfl, rfl, rfl, rfl, rfl, rfl⟩ := H
          go_wp2_with (first | ((with_reducible refine gate_callee (f := 89) rfl ?_); refine goesL_ (some 54) rfl rfl Tryz.func89 (by kernel_rfl) rfl #[.string a0, .int .i64 (wrap64 (a1 + 9))] rfl (by (try simp only [List.map_toArray, List.map_cons, List.map_nil]); first | done | rfl | (simp only [List.length_drop, List.length_take]; rfl)) ?_; (with_reducible refine (boltingref06_other.calls kj12 a0 (wrap64 (a1 + 9)) t146 t147 _ A28.out).mono ?_); rintro e w30 ⟨rfl, hb⟩; refine ⟨_, rfl, ?_⟩; have n0_ := Aside0.mk (blk_below (g := gb139) (o := .cells #[.int .i64 0, .string (⟨#[]⟩ : ByteArray), .string (⟨#[]⟩ : ByteArray), .slice none 0 0, .bool false] 59 (0, 0)) (by (with_reducible repeat (first | refine blk_drewN ?_ _ | refine blk_drew ?_ | refine blk_alloc ?_ _)); exact BK139.out) hb); have n1_ := Aside0.mk (blk_below (g := gb140) (o := .cells #[.int .i64 3, .string (⟨#[]⟩ : ByteArray), .string (⟨#[]⟩ : ByteArray), .slice none 0 0, .bool false] 59 (0, 0)) (by (with_reducible repeat (first | refine blk_drewN ?_ _ | refine blk_drew ?_ | refine blk_alloc ?_ _)); exact BK140.out) hb); have n2_ := Aside0.mk (below_step (by repeat (first | (with_reducible first | exact HB.out | apply below_alloc | apply pw_below_drewN | apply below_drew1 | refine below_set ?_ GE139.out | refine below_set ?_ GE140.out) | exact HB.out)) hb); clear BK139; clear BK140; clear HB; have BK139 := n0_; have BK140 := n1_; have HB := n2_; clear n0_ n1_ n2_; (try clear hb); (try clear hb2); (try clear hk); (try clear hi)) | ((with_reducible refine gate_callee (f := 90) rfl ?_); refine goesL_ (some 58) rfl rfl Tryz.func90 (by kernel_rfl) rfl #[.string t146] rfl (by (try simp only [List.map_toArray, List.map_cons, List.map_nil]); first | done | rfl | (simp only [List.length_drop, List.length_take]; rfl)) ?_; (with_reducible refine (boltingref02_Trim.calls kj12 t146 t148 _ A29.out).mono ?_); rintro e w' ⟨rfl, ⟨nd, rfl⟩⟩; refine ⟨_, rfl, ?_⟩; (try (rw [drewN_self w30]; generalize hq_ : World.drewN w30 _ = w30; have n0_ : Aside0 (w30.heap[gb139]? = some (.cells #[.int .i64 0, .string (⟨#[]⟩ : ByteArray), .string (⟨#[]⟩ : ByteArray), .slice none 0 0, .bool false] 59 (0, 0))) := ⟨by rw [← hq_]; exact (by (with_reducible repeat (first | refine blk_drewN ?_ _ | refine blk_drew ?_ | refine blk_alloc ?_ _)); exact BK139.out)⟩; have n1_ : Aside0 (w30.heap[gb140]? = some (.cells #[.int .i64 3, .string (⟨#[]⟩ : ByteArray), .string (⟨#[]⟩ : ByteArray), .slice none 0 0, .bool false] 59 (0, 0))) := ⟨by rw [← hq_]; exact (by (with_reducible repeat (first | refine blk_drewN ?_ _ | refine blk_drew ?_ | refine blk_alloc ?_ _)); exact BK140.out)⟩; have n2_ : Aside0 (Below w.heap.size w w30) := ⟨by rw [← hq_]; exact (by repeat (first | (with_reducible first | exact HB.out | apply below_alloc | apply pw_below_drewN | apply below_drew1 | refine below_set ?_ GE139.out | refine below_set ?_ GE140.out) | exact HB.out))⟩; clear BK139 BK140 HB hq_; have BK139 := n0_; have BK140 := n1_; have HB := n2_; clear n0_ n1_ n2_)); have hnb31 := NB139_140.out; have hnc31 := NB140_139.out; have hcz32_0 : w30.cell? ⟨gb139, 0, none⟩ = some (.int .i64 0) := (blk_cell BK139.out 0).trans rfl; have hcz32_1 : w30.cell? ⟨gb139, 1, none⟩ = some (.string (⟨#[]⟩ : ByteArray)) := (blk_cell BK139.out 1).trans rfl; have hcz32_2 : w30.cell? ⟨gb139, 2, none⟩ = some (.string (⟨#[]⟩ : ByteArray)) := (blk_cell BK139.out 2).trans rfl; have hcz32_3 : w30.cell? ⟨gb139, 3, none⟩ = some (.slice none 0 0) := (blk_cell BK139.out 3).trans rfl; have hcz32_4 : w30.cell? ⟨gb139, 4, none⟩ = some (.bool false) := (blk_cell BK139.out 4).trans rfl; have hfz32_0 := blk_frozen BK139.out 0; have hfz32_1 := blk_frozen BK139.out 1; have hfz32_2 := blk_frozen BK139.out 2; have hfz32_3 := blk_frozen BK139.out 3; have hfz32_4 := blk_frozen BK139.out 4))
          refine bodyPost_ret (results_ct rfl _ _ gb139 59 #[.int .i64 4, .string (⟨#[]⟩ : ByteArray), .string t148, .slice none 0 0, .bool false] (0, 0) _ rfl (by (with_reducible repeat (first | refine blk_drewN ?_ _ | refine blk_drew ?_ | refine blk_alloc ?_ _)); refine blk_put (cs := #[.int .i64 4, .string (⟨#[]⟩ : ByteArray), .string t148, .slice none 0 0, .bool false]) ?_ 4 _ rfl; (with_reducible repeat (first | refine blk_drewN ?_ _ | refine blk_drew ?_ | refine blk_alloc ?_ _)); refine blk_put (cs := #[.int .i64 4, .string (⟨#[]⟩ : ByteArray), .string t148, .slice none 0 0, .bool false]) ?_ 3 _ rfl; (with_reducible repeat (first | refine blk_drewN ?_ _ | refine blk_drew ?_ | refine blk_alloc ?_ _)); refine blk_put (cs := #[.int .i64 4, .string (⟨#[]⟩ : ByteArray), .string (⟨#[]⟩ : ByteArray), .slice none 0 0, .bool false]) ?_ 2 _ rfl; (with_reducible repeat (first | refine blk_drewN ?_ _ | refine blk_drew ?_ | refine blk_alloc ?_ _)); refine blk_put (cs := #[.int .i64 4, .string (⟨#[]⟩ : ByteArray), .string (⟨#[]⟩ : ByteArray), .slice none 0 0, .bool false]) ?_ 1 _ rfl; (with_reducible repeat (first | refine blk_drewN ?_ _ | refine blk_drew ?_ | refine blk_alloc ?_ _)); refine blk_put (cs := #[.int .i64 0, .string (⟨#[]⟩ : ByteArray), .string (⟨#[]⟩ : ByteArray), .slice none 0 0, .bool false]) ?_ 0 _ rfl; (with_reducible repeat (first | refine blk_drewN ?_ _ | refine blk_drew ?_ | refine blk_alloc ?_ _)); exact BK139.out) Tryz.underlying59 rfl (by kernel_rfl)) rfl ?_
          exact ⟨_, by first | rfl | (simp [errW_none, errW_some] <;> rfl) | (simp [*, errW_none, errW_some] <;> rfl), by first | exact Kd.R_nil _ _ _ _ _ | exact Kd.N_nil _ _ _ _ _ | exact Kd.V_nil _ _ _ _ _ | exact Kd.Q_nil _ _ _ _ _ | exact Kd.S_nil _ _ _ _ _, by repeat (first | (with_reducible first | exact HB.out | apply below_alloc | apply pw_below_drewN | apply below_drew1 | refine below_set ?_ GE139.out | refine below_set ?_ GE140.out) | exact HB.out)⟩
        · replace c27 := Bool.eq_false_iff.mpr c27
          subst c27
          have H1 : ((boltingref06_at.f a0 a1 (⟨#[60, 33]⟩ : ByteArray)).bind fun t149 => (if t149 = true then (boltingref06_note.j1 kj12 a0 a1 a1 true 3 (⟨#[]⟩ : ByteArray) (⟨#[]⟩ : ByteArray) false) else ((boltingref06_at.f a0 a1 (⟨#[60, 47]⟩ : ByteArray)).bind fun t150 => (if t150 = true then (boltingref06_note.j1 kj12 a0 a1 a1 (decide ((wrap64 (a1 + 2)) < (a0.size : Int))) 3 (⟨#[]⟩ : ByteArray) (⟨#[]⟩ : ByteArray) false) else (boltingref06_note.j1 kj12 a0 a1 a1 false 3 (⟨#[]⟩ : ByteArray) (⟨#[]⟩ : ByteArray) false))))) = some (r1, r2, r3, r4, r5, r6) := by rw [if_neg (show ¬ (false = true) by decide)] at H; first | exact H | (simp only [eq_self] at H ⊢; exact H) | (simp only [eq_self, if_true] at H ⊢; exact H)
          clear H
          have H := H1
          clear H1
          have HC33 := Aside0.mk H
          clear H
          go_upto_region 10 with (fail)
          go_cut [76] (fun v76 wc => ∃ (kq : Nat) (x76_32 : Bool), v76 = .bool x76_32 ∧ Aside0 (boltingref06_note.j1 kq a0 a1 a1 x76_32 3 (⟨#[]⟩ : ByteArray) (⟨#[]⟩ : ByteArray) false = some (r1, r2, r3, r4, r5, r6)) ∧ Aside0 (kq ≤ kj12) ∧ Aside0 (wc.heap[gb139]? = some (.cells #[.int .i64 0, .string (⟨#[]⟩ : ByteArray), .string (⟨#[]⟩ : ByteArray), (.slice none 0 0), .bool false] 59 (0, 0))) ∧ Aside0 (wc.heap[gb140]? = some (.cells #[.int .i64 3, .string (⟨#[]⟩ : ByteArray), .string (⟨#[]⟩ : ByteArray), (.slice none 0 0), .bool false] 59 (0, 0))) ∧ Aside0 (Below w.heap.size w wc))
          case first =>
            have H := HC33.out
            clear HC33
            replace H := Option.bind_eq_some_iff.mp H
            obtain ⟨t149, A340, H⟩ := H
            replace H : (if t149 = true then (boltingref06_note.j1 kj12 a0 a1 a1 true 3 (⟨#[]⟩ : ByteArray) (⟨#[]⟩ : ByteArray) false) else ((boltingref06_at.f a0 a1 (⟨#[60, 47]⟩ : ByteArray)).bind fun t150 => (if t150 = true then (boltingref06_note.j1 kj12 a0 a1 a1 (decide ((wrap64 (a1 + 2)) < (a0.size : Int))) 3 (⟨#[]⟩ : ByteArray) (⟨#[]⟩ : ByteArray) false) else (boltingref06_note.j1 kj12 a0 a1 a1 false 3 (⟨#[]⟩ : ByteArray) (⟨#[]⟩ : ByteArray) false)))) = some (r1, r2, r3, r4, r5, r6) := H
            have A34 := Aside0.mk A340
            clear A340
            by_cases c35 : t149 = true
            · subst c35
              have H1 : (boltingref06_note.j1 kj12 a0 a1 a1 true 3 (⟨#[]⟩ : ByteArray) (⟨#[]⟩ : ByteArray) false) = some (r1, r2, r3, r4, r5, r6) := by rw [if_pos rfl] at H; exact H
              clear H
              have H := H1
              clear H1
              have H' := Aside0.mk H
              clear H
              go_wp2_with (first | ((with_reducible refine gate_callee (f := 40) rfl ?_); refine goesL_ (some 64) rfl rfl Tryz.func40 (by kernel_rfl) rfl #[.string a0, .int .i64 a1, .string (⟨#[60, 33]⟩ : ByteArray)] rfl (by (try simp only [List.map_toArray, List.map_cons, List.map_nil]); first | done | rfl | (simp only [List.length_drop, List.length_take]; rfl)) ?_; (with_reducible refine (boltingref06_at.calls a0 a1 (⟨#[60, 33]⟩ : ByteArray) true _ A34.out).mono ?_); rintro e w' ⟨rfl, ⟨nd, rfl⟩⟩; refine ⟨_, rfl, ?_⟩))
              go_meet
              case rel => exact ⟨_, (true), (by first | rfl | (simp; done) | (simp [*]; done)), H', ⟨by have := HJ12.out; first | omega | exact Nat.le_refl _⟩, ⟨by (with_reducible repeat (first | refine blk_drewN ?_ _ | refine blk_drew ?_ | refine blk_alloc ?_ _)); exact BK139.out⟩, ⟨by (with_reducible repeat (first | refine blk_drewN ?_ _ | refine blk_drew ?_ | refine blk_alloc ?_ _)); exact BK140.out⟩, ⟨by repeat (first | (with_reducible first | exact HB.out | apply below_alloc | apply pw_below_drewN | apply below_drew1 | refine below_set ?_ GE139.out | refine below_set ?_ GE140.out) | exact HB.out)⟩⟩
            · replace c35 := Bool.eq_false_iff.mpr c35
              subst c35
              have H1 : ((boltingref06_at.f a0 a1 (⟨#[60, 47]⟩ : ByteArray)).bind fun t150 => (if t150 = true then (boltingref06_note.j1 kj12 a0 a1 a1 (decide ((wrap64 (a1 + 2)) < (a0.size : Int))) 3 (⟨#[]⟩ : ByteArray) (⟨#[]⟩ : ByteArray) false) else (boltingref06_note.j1 kj12 a0 a1 a1 false 3 (⟨#[]⟩ : ByteArray) (⟨#[]⟩ : ByteArray) false))) = some (r1, r2, r3, r4, r5, r6) := by rw [if_neg (show ¬ (false = true) by decide)] at H; first | exact H | (simp only [eq_self] at H ⊢; exact H) | (simp only [eq_self, if_true] at H ⊢; exact H)
              clear H
              have H := H1
              clear H1
              replace H := Option.bind_eq_some_iff.mp H
              obtain ⟨t150, A360, H⟩ := H
              replace H : (if t150 = true then (boltingref06_note.j1 kj12 a0 a1 a1 (decide ((wrap64 (a1 + 2)) < (a0.size : Int))) 3 (⟨#[]⟩ : ByteArray) (⟨#[]⟩ : ByteArray) false) else (boltingref06_note.j1 kj12 a0 a1 a1 false 3 (⟨#[]⟩ : ByteArray) (⟨#[]⟩ : ByteArray) false)) = some (r1, r2, r3, r4, r5, r6) := H
              have A36 := Aside0.mk A360
              clear A360
              by_cases c37 : t150 = true
              · subst c37
                have H1 : (boltingref06_note.j1 kj12 a0 a1 a1 (decide ((wrap64 (a1 + 2)) < (a0.size : Int))) 3 (⟨#[]⟩ : ByteArray) (⟨#[]⟩ : ByteArray) false) = some (r1, r2, r3, r4, r5, r6) := by rw [if_pos rfl] at H; exact H
                clear H
                have H := H1
                clear H1
                have H' := Aside0.mk H
                clear H
                go_wp2_with (first | ((with_reducible refine gate_callee (f := 40) rfl ?_); refine goesL_ (some 64) rfl rfl Tryz.func40 (by kernel_rfl) rfl #[.string a0, .int .i64 a1, .string (⟨#[60, 33]⟩ : ByteArray)] rfl (by (try simp only [List.map_toArray, List.map_cons, List.map_nil]); first | done | rfl | (simp only [List.length_drop, List.length_take]; rfl)) ?_; (with_reducible refine (boltingref06_at.calls a0 a1 (⟨#[60, 33]⟩ : ByteArray) false _ A34.out).mono ?_); rintro e w' ⟨rfl, ⟨nd, rfl⟩⟩; refine ⟨_, rfl, ?_⟩) | (go_at_call 40; (with_reducible refine (boltingref06_at.calls a0 a1 (⟨#[60, 47]⟩ : ByteArray) true _ A36.out).mono ?_); rintro e w' ⟨rfl, ⟨nd, rfl⟩⟩))
                go_meet
                case rel => exact ⟨_, (decide ((wrap64 (a1 + 2)) < (a0.size : Int))), (by first | rfl | (simp; done) | (simp [*]; done)), H', ⟨by have := HJ12.out; first | omega | exact Nat.le_refl _⟩, ⟨by (with_reducible repeat (first | refine blk_drewN ?_ _ | refine blk_drew ?_ | refine blk_alloc ?_ _)); exact BK139.out⟩, ⟨by (with_reducible repeat (first | refine blk_drewN ?_ _ | refine blk_drew ?_ | refine blk_alloc ?_ _)); exact BK140.out⟩, ⟨by repeat (first | (with_reducible first | exact HB.out | apply below_alloc | apply pw_below_drewN | apply below_drew1 | refine below_set ?_ GE139.out | refine below_set ?_ GE140.out) | exact HB.out)⟩⟩
              · replace c37 := Bool.eq_false_iff.mpr c37
                subst c37
                have H1 : (boltingref06_note.j1 kj12 a0 a1 a1 false 3 (⟨#[]⟩ : ByteArray) (⟨#[]⟩ : ByteArray) false) = some (r1, r2, r3, r4, r5, r6) := by rw [if_neg (show ¬ (false = true) by decide)] at H; first | exact H | (simp only [eq_self] at H ⊢; exact H) | (simp only [eq_self, if_true] at H ⊢; exact H)
                clear H
                have H := H1
                clear H1
                have H' := Aside0.mk H
                clear H
                go_wp2_with (first | ((with_reducible refine gate_callee (f := 40) rfl ?_); refine goesL_ (some 64) rfl rfl Tryz.func40 (by kernel_rfl) rfl #[.string a0, .int .i64 a1, .string (⟨#[60, 33]⟩ : ByteArray)] rfl (by (try simp only [List.map_toArray, List.map_cons, List.map_nil]); first | done | rfl | (simp only [List.length_drop, List.length_take]; rfl)) ?_; (with_reducible refine (boltingref06_at.calls a0 a1 (⟨#[60, 33]⟩ : ByteArray) false _ A34.out).mono ?_); rintro e w' ⟨rfl, ⟨nd, rfl⟩⟩; refine ⟨_, rfl, ?_⟩) | (go_at_call 40; (with_reducible refine (boltingref06_at.calls a0 a1 (⟨#[60, 47]⟩ : ByteArray) false _ A36.out).mono ?_); rintro e w' ⟨rfl, ⟨nd, rfl⟩⟩))
                go_meet
                case rel => exact ⟨_, (false), (by first | rfl | (simp; done) | (simp [*]; done)), H', ⟨by have := HJ12.out; first | omega | exact Nat.le_refl _⟩, ⟨by (with_reducible repeat (first | refine blk_drewN ?_ _ | refine blk_drew ?_ | refine blk_alloc ?_ _)); exact BK139.out⟩, ⟨by (with_reducible repeat (first | refine blk_drewN ?_ _ | refine blk_drew ?_ | refine blk_alloc ?_ _)); exact BK140.out⟩, ⟨by repeat (first | (with_reducible first | exact HB.out | apply below_alloc | apply pw_below_drewN | apply below_drew1 | refine below_set ?_ GE139.out | refine below_set ?_ GE140.out) | exact HB.out)⟩⟩
          case rest =>
            clear HC33
            try clear c1
            try clear c2
            try clear p2
            try clear c3
            try clear c4
            try clear p6
            try clear c8
            try clear c9
            try clear c16
            try clear c18
            try clear c18b0
            try clear c19
            try clear c19b0
            try clear c19b1
            try clear c20
            try clear c20b0
            try clear c20b1
            try clear c21
            try clear c21b0
            try clear c23
            try clear c23b0
            try clear c23b1
            try clear c27
            try clear c31
            try clear c35
            try clear c37
            try clear hcz11_0
            try clear hcz11_1
            try clear hcz11_2
            try clear hcz11_3
            try clear hcz11_4
            try clear hcz12_0
            try clear hcz12_1
            try clear hcz12_2
            try clear hcz12_3
            try clear hcz12_4
            try clear hcz17_0
            try clear hcz17_1
            try clear hcz17_2
            try clear hcz17_3
            try clear hcz17_4
            try clear hcz32_0
            try clear hcz32_1
            try clear hcz32_2
            try clear hcz32_3
            try clear hcz32_4
            try clear hcz9_0
            try clear hcz9_1
            try clear hcz9_2
            try clear hcz9_3
            try clear hcz9_4
            try clear hfz11_0
            try clear hfz11_1
            try clear hfz11_2
            try clear hfz11_3
            try clear hfz11_4
            try clear hfz12_0
            try clear hfz12_1
            try clear hfz12_2
            try clear hfz12_3
            try clear hfz12_4
            try clear hfz17_0
            try clear hfz17_1
            try clear hfz17_2
            try clear hfz17_3
            try clear hfz17_4
            try clear hfz32_0
            try clear hfz32_1
            try clear hfz32_2
            try clear hfz32_3
            try clear hfz32_4
            try clear hfz9_0
            try clear hfz9_1
            try clear hfz9_2
            try clear hfz9_3
            try clear hfz9_4
            try clear p2
            try clear p6
            obtain ⟨kq, x76_32, rfl, HA, HJ32, BK139, BK140, HB⟩ := hcut
            cases kq with
            | zero => exact absurd HA.out (by simp [boltingref06_note.j1])
            | succ kj32 =>
              have H := HA.out
              clear HA
              simp only [boltingref06_note.j1] at H
              by_cases c38 : x76_32 = true
              · subst c38
                have H1 : (if (wrap64 (a1 + 2)) = a1 then (some (3, (⟨#[]⟩ : ByteArray), (⟨#[]⟩ : ByteArray), ([] : List (S40)), false, a1)) else ((boltingref06_other.f kj32 a0 (wrap64 (a1 + 2))).bind fun bt151 => (some (3, (⟨#[]⟩ : ByteArray), bt151.1, ([] : List (S40)), false, bt151.2)))) = some (r1, r2, r3, r4, r5, r6) := by rw [if_pos rfl] at H; exact H
                clear H
                have H := H1
                clear H1
                by_cases c39 : (wrap64 (a1 + 2)) = a1
                · rw [if_pos c39] at H
                  have c39b0 : ((wrap64 (a1 + 2)) == a1) = true := beq_iff_eq.mpr c39
                  have c39b1 : ((wrap64 (a1 + 2)) != a1) = false := bne_eq_false_iff_eq.mpr c39
                  clear c39
                  simp only [Option.some.injEq, Prod.mk.injEq] at H
                  obtain ⟨rfl, rfl, rfl, rfl, rfl, rfl⟩ := H
                  have hnb40 := NB140_139.out
                  have hnc40 := NB139_140.out
                  have hcz41_0 : wc.cell? ⟨gb140, 0, none⟩ = some (.int .i64 3) := (blk_cell BK140.out 0).trans rfl
                  have hcz41_1 : wc.cell? ⟨gb140, 1, none⟩ = some (.string (⟨#[]⟩ : ByteArray)) := (blk_cell BK140.out 1).trans rfl
                  have hcz41_2 : wc.cell? ⟨gb140, 2, none⟩ = some (.string (⟨#[]⟩ : ByteArray)) := (blk_cell BK140.out 2).trans rfl
                  have hcz41_3 : wc.cell? ⟨gb140, 3, none⟩ = some (.slice none 0 0) := (blk_cell BK140.out 3).trans rfl
                  have hcz41_4 : wc.cell? ⟨gb140, 4, none⟩ = some (.bool false) := (blk_cell BK140.out 4).trans rfl
                  have hfz41_0 := blk_frozen BK140.out 0
                  have hfz41_1 := blk_frozen BK140.out 1
                  have hfz41_2 := blk_frozen BK140.out 2
                  have hfz41_3 := blk_frozen BK140.out 3
                  have hfz41_4 := blk_frozen BK140.out 4
                  have hcz42_0 : wc.cell? ⟨gb139, 0, none⟩ = some (.int .i64 0) := (blk_cell BK139.out 0).trans rfl
                  have hcz42_1 : wc.cell? ⟨gb139, 1, none⟩ = some (.string (⟨#[]⟩ : ByteArray)) := (blk_cell BK139.out 1).trans rfl
                  have hcz42_2 : wc.cell? ⟨gb139, 2, none⟩ = some (.string (⟨#[]⟩ : ByteArray)) := (blk_cell BK139.out 2).trans rfl
                  have hcz42_3 : wc.cell? ⟨gb139, 3, none⟩ = some (.slice none 0 0) := (blk_cell BK139.out 3).trans rfl
                  have hcz42_4 : wc.cell? ⟨gb139, 4, none⟩ = some (.bool false) := (blk_cell BK139.out 4).trans rfl
                  have hfz42_0 := blk_frozen BK139.out 0
                  have hfz42_1 := blk_frozen BK139.out 1
                  have hfz42_2 := blk_frozen BK139.out 2
                  have hfz42_3 := blk_frozen BK139.out 3
                  have hfz42_4 := blk_frozen BK139.out 4
                  go_wp2
                  refine bodyPost_ret (results_ct rfl _ _ gb139 59 #[.int .i64 3, .string (⟨#[]⟩ : ByteArray), .string (⟨#[]⟩ : ByteArray), .slice none 0 0, .bool false] (0, 0) _ rfl (by (with_reducible repeat (first | refine blk_drewN ?_ _ | refine blk_drew ?_ | refine blk_alloc ?_ _)); refine blk_put (cs := #[.int .i64 3, .string (⟨#[]⟩ : ByteArray), .string (⟨#[]⟩ : ByteArray), .slice none 0 0, .bool false]) ?_ 4 _ rfl; (with_reducible repeat (first | refine blk_drewN ?_ _ | refine blk_drew ?_ | refine blk_alloc ?_ _)); refine blk_put (cs := #[.int .i64 3, .string (⟨#[]⟩ : ByteArray), .string (⟨#[]⟩ : ByteArray), .slice none 0 0, .bool false]) ?_ 3 _ rfl; (with_reducible repeat (first | refine blk_drewN ?_ _ | refine blk_drew ?_ | refine blk_alloc ?_ _)); refine blk_put (cs := #[.int .i64 3, .string (⟨#[]⟩ : ByteArray), .string (⟨#[]⟩ : ByteArray), .slice none 0 0, .bool false]) ?_ 2 _ rfl; (with_reducible repeat (first | refine blk_drewN ?_ _ | refine blk_drew ?_ | refine blk_alloc ?_ _)); refine blk_put (cs := #[.int .i64 3, .string (⟨#[]⟩ : ByteArray), .string (⟨#[]⟩ : ByteArray), .slice none 0 0, .bool false]) ?_ 1 _ rfl; (with_reducible repeat (first | refine blk_drewN ?_ _ | refine blk_drew ?_ | refine blk_alloc ?_ _)); refine blk_put (cs := #[.int .i64 0, .string (⟨#[]⟩ : ByteArray), .string (⟨#[]⟩ : ByteArray), .slice none 0 0, .bool false]) ?_ 0 _ rfl; (with_reducible repeat (first | refine blk_drewN ?_ _ | refine blk_drew ?_ | refine blk_alloc ?_ _)); exact BK139.out) Tryz.underlying59 rfl (by kernel_rfl)) rfl ?_
                  exact ⟨_, by first | rfl | (simp [errW_none, errW_some] <;> rfl) | (simp [*, errW_none, errW_some] <;> rfl), by first | exact Kd.R_nil _ _ _ _ _ | exact Kd.N_nil _ _ _ _ _ | exact Kd.V_nil _ _ _ _ _ | exact Kd.Q_nil _ _ _ _ _ | exact Kd.S_nil _ _ _ _ _, by repeat (first | (with_reducible first | exact HB.out | apply below_alloc | apply pw_below_drewN | apply below_drew1 | refine below_set ?_ GE139.out | refine below_set ?_ GE140.out) | exact HB.out)⟩
                · rw [if_neg c39] at H
                  have c39b0 : ((wrap64 (a1 + 2)) == a1) = false := beq_eq_false_iff_ne.mpr c39
                  have c39b1 : ((wrap64 (a1 + 2)) != a1) = true := bne_iff_ne.mpr c39
                  replace H := Option.bind_eq_some_iff.mp H
                  obtain ⟨⟨t151, t152⟩, A430, H⟩ := H
                  replace H : (some (3, (⟨#[]⟩ : ByteArray), t151, ([] : List (S40)), false, t152)) = some (r1, r2, r3, r4, r5, r6) := H
                  have A43 := Aside0.mk A430
                  clear A430
                  simp only [Option.some.injEq, Prod.mk.injEq] at H
                  obtain ⟨rfl, rfl, rfl, rfl, rfl, rfl⟩ := H
                  go_wp2_with (first | ((with_reducible refine gate_callee (f := 89) rfl ?_); refine goesL_ (some 92) rfl rfl Tryz.func89 (by kernel_rfl) rfl #[.string a0, .int .i64 (wrap64 (a1 + 2))] rfl (by (try simp only [List.map_toArray, List.map_cons, List.map_nil]); first | done | rfl | (simp only [List.length_drop, List.length_take]; rfl)) ?_; (with_reducible refine (boltingref06_other.calls kj32 a0 (wrap64 (a1 + 2)) t151 t152 _ A43.out).mono ?_); rintro e w44 ⟨rfl, hb⟩; refine ⟨_, rfl, ?_⟩; have n0_ := Aside0.mk (blk_below (g := gb139) (o := .cells #[.int .i64 0, .string (⟨#[]⟩ : ByteArray), .string (⟨#[]⟩ : ByteArray), .slice none 0 0, .bool false] 59 (0, 0)) (by (with_reducible repeat (first | refine blk_drewN ?_ _ | refine blk_drew ?_ | refine blk_alloc ?_ _)); exact BK139.out) hb); have n1_ := Aside0.mk (blk_below (g := gb140) (o := .cells #[.int .i64 3, .string (⟨#[]⟩ : ByteArray), .string (⟨#[]⟩ : ByteArray), .slice none 0 0, .bool false] 59 (0, 0)) (by (with_reducible repeat (first | refine blk_drewN ?_ _ | refine blk_drew ?_ | refine blk_alloc ?_ _)); exact BK140.out) hb); have n2_ := Aside0.mk (below_step (by repeat (first | (with_reducible first | exact HB.out | apply below_alloc | apply pw_below_drewN | apply below_drew1 | refine below_set ?_ GE139.out | refine below_set ?_ GE140.out) | exact HB.out)) hb); clear BK139; clear BK140; clear HB; have BK139 := n0_; have BK140 := n1_; have HB := n2_; clear n0_ n1_ n2_; (try clear hb); (try clear hb2); (try clear hk); (try clear hi); have hnb45 := NB140_139.out; have hnc45 := NB139_140.out; have hcz46_0 : w44.cell? ⟨gb140, 0, none⟩ = some (.int .i64 3) := (blk_cell BK140.out 0).trans rfl; have hcz46_1 : w44.cell? ⟨gb140, 1, none⟩ = some (.string (⟨#[]⟩ : ByteArray)) := (blk_cell BK140.out 1).trans rfl; have hcz46_2 : w44.cell? ⟨gb140, 2, none⟩ = some (.string (⟨#[]⟩ : ByteArray)) := (blk_cell BK140.out 2).trans rfl; have hcz46_3 : w44.cell? ⟨gb140, 3, none⟩ = some (.slice none 0 0) := (blk_cell BK140.out 3).trans rfl; have hcz46_4 : w44.cell? ⟨gb140, 4, none⟩ = some (.bool false) := (blk_cell BK140.out 4).trans rfl; have hfz46_0 := blk_frozen BK140.out 0; have hfz46_1 := blk_frozen BK140.out 1; have hfz46_2 := blk_frozen BK140.out 2; have hfz46_3 := blk_frozen BK140.out 3; have hfz46_4 := blk_frozen BK140.out 4; have hcz47_0 : w44.cell? ⟨gb139, 0, none⟩ = some (.int .i64 0) := (blk_cell BK139.out 0).trans rfl; have hcz47_1 : w44.cell? ⟨gb139, 1, none⟩ = some (.string (⟨#[]⟩ : ByteArray)) := (blk_cell BK139.out 1).trans rfl; have hcz47_2 : w44.cell? ⟨gb139, 2, none⟩ = some (.string (⟨#[]⟩ : ByteArray)) := (blk_cell BK139.out 2).trans rfl; have hcz47_3 : w44.cell? ⟨gb139, 3, none⟩ = some (.slice none 0 0) := (blk_cell BK139.out 3).trans rfl; have hcz47_4 : w44.cell? ⟨gb139, 4, none⟩ = some (.bool false) := (blk_cell BK139.out 4).trans rfl; have hfz47_0 := blk_frozen BK139.out 0; have hfz47_1 := blk_frozen BK139.out 1; have hfz47_2 := blk_frozen BK139.out 2; have hfz47_3 := blk_frozen BK139.out 3; have hfz47_4 := blk_frozen BK139.out 4))
                  refine bodyPost_ret (results_ct rfl _ _ gb139 59 #[.int .i64 3, .string (⟨#[]⟩ : ByteArray), .string t151, .slice none 0 0, .bool false] (0, 0) _ rfl (by (with_reducible repeat (first | refine blk_drewN ?_ _ | refine blk_drew ?_ | refine blk_alloc ?_ _)); refine blk_put (cs := #[.int .i64 3, .string (⟨#[]⟩ : ByteArray), .string t151, .slice none 0 0, .bool false]) ?_ 4 _ rfl; (with_reducible repeat (first | refine blk_drewN ?_ _ | refine blk_drew ?_ | refine blk_alloc ?_ _)); refine blk_put (cs := #[.int .i64 3, .string (⟨#[]⟩ : ByteArray), .string t151, .slice none 0 0, .bool false]) ?_ 3 _ rfl; (with_reducible repeat (first | refine blk_drewN ?_ _ | refine blk_drew ?_ | refine blk_alloc ?_ _)); refine blk_put (cs := #[.int .i64 3, .string (⟨#[]⟩ : ByteArray), .string (⟨#[]⟩ : ByteArray), .slice none 0 0, .bool false]) ?_ 2 _ rfl; (with_reducible repeat (first | refine blk_drewN ?_ _ | refine blk_drew ?_ | refine blk_alloc ?_ _)); refine blk_put (cs := #[.int .i64 3, .string (⟨#[]⟩ : ByteArray), .string (⟨#[]⟩ : ByteArray), .slice none 0 0, .bool false]) ?_ 1 _ rfl; (with_reducible repeat (first | refine blk_drewN ?_ _ | refine blk_drew ?_ | refine blk_alloc ?_ _)); refine blk_put (cs := #[.int .i64 0, .string (⟨#[]⟩ : ByteArray), .string (⟨#[]⟩ : ByteArray), .slice none 0 0, .bool false]) ?_ 0 _ rfl; (with_reducible repeat (first | refine blk_drewN ?_ _ | refine blk_drew ?_ | refine blk_alloc ?_ _)); refine blk_far ?_ NB139_140.out _; (with_reducible repeat (first | refine blk_drewN ?_ _ | refine blk_drew ?_ | refine blk_alloc ?_ _)); exact BK139.out) Tryz.underlying59 rfl (by kernel_rfl)) rfl ?_
                  exact ⟨_, by first | rfl | (simp [errW_none, errW_some] <;> rfl) | (simp [*, errW_none, errW_some] <;> rfl), by first | exact Kd.R_nil _ _ _ _ _ | exact Kd.N_nil _ _ _ _ _ | exact Kd.V_nil _ _ _ _ _ | exact Kd.Q_nil _ _ _ _ _ | exact Kd.S_nil _ _ _ _ _, by repeat (first | (with_reducible first | exact HB.out | apply below_alloc | apply pw_below_drewN | apply below_drew1 | refine below_set ?_ GE139.out | refine below_set ?_ GE140.out) | exact HB.out)⟩
              · replace c38 := Bool.eq_false_iff.mpr c38
                subst c38
                have H1 : ((boltingref06_at.f a0 a1 (⟨#[60, 63]⟩ : ByteArray)).bind fun t153 => (if t153 = true then (if (wrap64 (a1 + 1)) = a1 then (some (3, (⟨#[]⟩ : ByteArray), (⟨#[]⟩ : ByteArray), ([] : List (S40)), false, a1)) else ((boltingref06_other.f kj32 a0 (wrap64 (a1 + 1))).bind fun bt154 => (some (3, (⟨#[]⟩ : ByteArray), bt154.1, ([] : List (S40)), false, bt154.2)))) else (if a1 = a1 then (some (3, (⟨#[]⟩ : ByteArray), (⟨#[]⟩ : ByteArray), ([] : List (S40)), false, a1)) else ((boltingref06_other.f kj32 a0 a1).bind fun bt156 => (some (3, (⟨#[]⟩ : ByteArray), bt156.1, ([] : List (S40)), false, bt156.2)))))) = some (r1, r2, r3, r4, r5, r6) := by rw [if_neg (show ¬ (false = true) by decide)] at H; first | exact H | (simp only [eq_self] at H ⊢; exact H) | (simp only [eq_self, if_true] at H ⊢; exact H)
                clear H
                have H := H1
                clear H1
                replace H := Option.bind_eq_some_iff.mp H
                obtain ⟨t153, A480, H⟩ := H
                replace H : (if t153 = true then (if (wrap64 (a1 + 1)) = a1 then (some (3, (⟨#[]⟩ : ByteArray), (⟨#[]⟩ : ByteArray), ([] : List (S40)), false, a1)) else ((boltingref06_other.f kj32 a0 (wrap64 (a1 + 1))).bind fun bt154 => (some (3, (⟨#[]⟩ : ByteArray), bt154.1, ([] : List (S40)), false, bt154.2)))) else (if a1 = a1 then (some (3, (⟨#[]⟩ : ByteArray), (⟨#[]⟩ : ByteArray), ([] : List (S40)), false, a1)) else ((boltingref06_other.f kj32 a0 a1).bind fun bt156 => (some (3, (⟨#[]⟩ : ByteArray), bt156.1, ([] : List (S40)), false, bt156.2))))) = some (r1, r2, r3, r4, r5, r6) := H
                have A48 := Aside0.mk A480
                clear A480
                by_cases c49 : t153 = true
                · subst c49
                  have H1 : (if (wrap64 (a1 + 1)) = a1 then (some (3, (⟨#[]⟩ : ByteArray), (⟨#[]⟩ : ByteArray), ([] : List (S40)), false, a1)) else ((boltingref06_other.f kj32 a0 (wrap64 (a1 + 1))).bind fun bt154 => (some (3, (⟨#[]⟩ : ByteArray), bt154.1, ([] : List (S40)), false, bt154.2)))) = some (r1, r2, r3, r4, r5, r6) := by rw [if_pos rfl] at H; exact H
                  clear H
                  have H := H1
                  clear H1
                  by_cases c50 : (wrap64 (a1 + 1)) = a1
                  · rw [if_pos c50] at H
                    have c50b0 : ((wrap64 (a1 + 1)) == a1) = true := beq_iff_eq.mpr c50
                    have c50b1 : ((wrap64 (a1 + 1)) != a1) = false := bne_eq_false_iff_eq.mpr c50
                    clear c50
                    simp only [Option.some.injEq, Prod.mk.injEq] at H
                    obtain ⟨rfl, rfl, rfl, rfl, rfl, rfl⟩ := H
                    go_wp2_with (first | ((with_reducible refine gate_callee (f := 40) rfl ?_); refine goesL_ (some 81) rfl rfl Tryz.func40 (by kernel_rfl) rfl #[.string a0, .int .i64 a1, .string (⟨#[60, 63]⟩ : ByteArray)] rfl (by (try simp only [List.map_toArray, List.map_cons, List.map_nil]); first | done | rfl | (simp only [List.length_drop, List.length_take]; rfl)) ?_; (with_reducible refine (boltingref06_at.calls a0 a1 (⟨#[60, 63]⟩ : ByteArray) true _ A48.out).mono ?_); rintro e w' ⟨rfl, ⟨nd, rfl⟩⟩; refine ⟨_, rfl, ?_⟩; (try (rw [drewN_self wc]; generalize hq_ : World.drewN wc _ = wc; have n0_ : Aside0 (wc.heap[gb139]? = some (.cells #[.int .i64 0, .string (⟨#[]⟩ : ByteArray), .string (⟨#[]⟩ : ByteArray), .slice none 0 0, .bool false] 59 (0, 0))) := ⟨by rw [← hq_]; exact (by (with_reducible repeat (first | refine blk_drewN ?_ _ | refine blk_drew ?_ | refine blk_alloc ?_ _)); exact BK139.out)⟩; have n1_ : Aside0 (wc.heap[gb140]? = some (.cells #[.int .i64 3, .string (⟨#[]⟩ : ByteArray), .string (⟨#[]⟩ : ByteArray), .slice none 0 0, .bool false] 59 (0, 0))) := ⟨by rw [← hq_]; exact (by (with_reducible repeat (first | refine blk_drewN ?_ _ | refine blk_drew ?_ | refine blk_alloc ?_ _)); exact BK140.out)⟩; have n2_ : Aside0 (Below w.heap.size w wc) := ⟨by rw [← hq_]; exact (by repeat (first | (with_reducible first | exact HB.out | apply below_alloc | apply pw_below_drewN | apply below_drew1 | refine below_set ?_ GE139.out | refine below_set ?_ GE140.out) | exact HB.out))⟩; clear BK139 BK140 HB hq_; have BK139 := n0_; have BK140 := n1_; have HB := n2_; clear n0_ n1_ n2_)); have hnb51 := NB140_139.out; have hnc51 := NB139_140.out; have hcz52_0 : wc.cell? ⟨gb140, 0, none⟩ = some (.int .i64 3) := (blk_cell BK140.out 0).trans rfl; have hcz52_1 : wc.cell? ⟨gb140, 1, none⟩ = some (.string (⟨#[]⟩ : ByteArray)) := (blk_cell BK140.out 1).trans rfl; have hcz52_2 : wc.cell? ⟨gb140, 2, none⟩ = some (.string (⟨#[]⟩ : ByteArray)) := (blk_cell BK140.out 2).trans rfl; have hcz52_3 : wc.cell? ⟨gb140, 3, none⟩ = some (.slice none 0 0) := (blk_cell BK140.out 3).trans rfl; have hcz52_4 : wc.cell? ⟨gb140, 4, none⟩ = some (.bool false) := (blk_cell BK140.out 4).trans rfl; have hfz52_0 := blk_frozen BK140.out 0; have hfz52_1 := blk_frozen BK140.out 1; have hfz52_2 := blk_frozen BK140.out 2; have hfz52_3 := blk_frozen BK140.out 3; have hfz52_4 := blk_frozen BK140.out 4; have hcz53_0 : wc.cell? ⟨gb139, 0, none⟩ = some (.int .i64 0) := (blk_cell BK139.out 0).trans rfl; have hcz53_1 : wc.cell? ⟨gb139, 1, none⟩ = some (.string (⟨#[]⟩ : ByteArray)) := (blk_cell BK139.out 1).trans rfl; have hcz53_2 : wc.cell? ⟨gb139, 2, none⟩ = some (.string (⟨#[]⟩ : ByteArray)) := (blk_cell BK139.out 2).trans rfl; have hcz53_3 : wc.cell? ⟨gb139, 3, none⟩ = some (.slice none 0 0) := (blk_cell BK139.out 3).trans rfl; have hcz53_4 : wc.cell? ⟨gb139, 4, none⟩ = some (.bool false) := (blk_cell BK139.out 4).trans rfl; have hfz53_0 := blk_frozen BK139.out 0; have hfz53_1 := blk_frozen BK139.out 1; have hfz53_2 := blk_frozen BK139.out 2; have hfz53_3 := blk_frozen BK139.out 3; have hfz53_4 := blk_frozen BK139.out 4))
                    refine bodyPost_ret (results_ct rfl _ _ gb139 59 #[.int .i64 3, .string (⟨#[]⟩ : ByteArray), .string (⟨#[]⟩ : ByteArray), .slice none 0 0, .bool false] (0, 0) _ rfl (by (with_reducible repeat (first | refine blk_drewN ?_ _ | refine blk_drew ?_ | refine blk_alloc ?_ _)); refine blk_put (cs := #[.int .i64 3, .string (⟨#[]⟩ : ByteArray), .string (⟨#[]⟩ : ByteArray), .slice none 0 0, .bool false]) ?_ 4 _ rfl; (with_reducible repeat (first | refine blk_drewN ?_ _ | refine blk_drew ?_ | refine blk_alloc ?_ _)); refine blk_put (cs := #[.int .i64 3, .string (⟨#[]⟩ : ByteArray), .string (⟨#[]⟩ : ByteArray), .slice none 0 0, .bool false]) ?_ 3 _ rfl; (with_reducible repeat (first | refine blk_drewN ?_ _ | refine blk_drew ?_ | refine blk_alloc ?_ _)); refine blk_put (cs := #[.int .i64 3, .string (⟨#[]⟩ : ByteArray), .string (⟨#[]⟩ : ByteArray), .slice none 0 0, .bool false]) ?_ 2 _ rfl; (with_reducible repeat (first | refine blk_drewN ?_ _ | refine blk_drew ?_ | refine blk_alloc ?_ _)); refine blk_put (cs := #[.int .i64 3, .string (⟨#[]⟩ : ByteArray), .string (⟨#[]⟩ : ByteArray), .slice none 0 0, .bool false]) ?_ 1 _ rfl; (with_reducible repeat (first | refine blk_drewN ?_ _ | refine blk_drew ?_ | refine blk_alloc ?_ _)); refine blk_put (cs := #[.int .i64 0, .string (⟨#[]⟩ : ByteArray), .string (⟨#[]⟩ : ByteArray), .slice none 0 0, .bool false]) ?_ 0 _ rfl; (with_reducible repeat (first | refine blk_drewN ?_ _ | refine blk_drew ?_ | refine blk_alloc ?_ _)); exact BK139.out) Tryz.underlying59 rfl (by kernel_rfl)) rfl ?_
                    exact ⟨_, by first | rfl | (simp [errW_none, errW_some] <;> rfl) | (simp [*, errW_none, errW_some] <;> rfl), by first | exact Kd.R_nil _ _ _ _ _ | exact Kd.N_nil _ _ _ _ _ | exact Kd.V_nil _ _ _ _ _ | exact Kd.Q_nil _ _ _ _ _ | exact Kd.S_nil _ _ _ _ _, by repeat (first | (with_reducible first | exact HB.out | apply below_alloc | apply pw_below_drewN | apply below_drew1 | refine below_set ?_ GE139.out | refine below_set ?_ GE140.out) | exact HB.out)⟩
                  · rw [if_neg c50] at H
                    have c50b0 : ((wrap64 (a1 + 1)) == a1) = false := beq_eq_false_iff_ne.mpr c50
                    have c50b1 : ((wrap64 (a1 + 1)) != a1) = true := bne_iff_ne.mpr c50
                    replace H := Option.bind_eq_some_iff.mp H
                    obtain ⟨⟨t154, t155⟩, A540, H⟩ := H
                    replace H : (some (3, (⟨#[]⟩ : ByteArray), t154, ([] : List (S40)), false, t155)) = some (r1, r2, r3, r4, r5, r6) := H
                    have A54 := Aside0.mk A540
                    clear A540
                    simp only [Option.some.injEq, Prod.mk.injEq] at H
                    obtain ⟨rfl, rfl, rfl, rfl, rfl, rfl⟩ := H
                    go_wp2_with (first | ((with_reducible refine gate_callee (f := 40) rfl ?_); refine goesL_ (some 81) rfl rfl Tryz.func40 (by kernel_rfl) rfl #[.string a0, .int .i64 a1, .string (⟨#[60, 63]⟩ : ByteArray)] rfl (by (try simp only [List.map_toArray, List.map_cons, List.map_nil]); first | done | rfl | (simp only [List.length_drop, List.length_take]; rfl)) ?_; (with_reducible refine (boltingref06_at.calls a0 a1 (⟨#[60, 63]⟩ : ByteArray) true _ A48.out).mono ?_); rintro e w' ⟨rfl, ⟨nd, rfl⟩⟩; refine ⟨_, rfl, ?_⟩; (try (rw [drewN_self wc]; generalize hq_ : World.drewN wc _ = wc; have n0_ : Aside0 (wc.heap[gb139]? = some (.cells #[.int .i64 0, .string (⟨#[]⟩ : ByteArray), .string (⟨#[]⟩ : ByteArray), .slice none 0 0, .bool false] 59 (0, 0))) := ⟨by rw [← hq_]; exact (by (with_reducible repeat (first | refine blk_drewN ?_ _ | refine blk_drew ?_ | refine blk_alloc ?_ _)); exact BK139.out)⟩; have n1_ : Aside0 (wc.heap[gb140]? = some (.cells #[.int .i64 3, .string (⟨#[]⟩ : ByteArray), .string (⟨#[]⟩ : ByteArray), .slice none 0 0, .bool false] 59 (0, 0))) := ⟨by rw [← hq_]; exact (by (with_reducible repeat (first | refine blk_drewN ?_ _ | refine blk_drew ?_ | refine blk_alloc ?_ _)); exact BK140.out)⟩; have n2_ : Aside0 (Below w.heap.size w wc) := ⟨by rw [← hq_]; exact (by repeat (first | (with_reducible first | exact HB.out | apply below_alloc | apply pw_below_drewN | apply below_drew1 | refine below_set ?_ GE139.out | refine below_set ?_ GE140.out) | exact HB.out))⟩; clear BK139 BK140 HB hq_; have BK139 := n0_; have BK140 := n1_; have HB := n2_; clear n0_ n1_ n2_))) | ((with_reducible refine gate_callee (f := 89) rfl ?_); refine goesL_ (some 92) rfl rfl Tryz.func89 (by kernel_rfl) rfl #[.string a0, .int .i64 (wrap64 (a1 + 1))] rfl (by (try simp only [List.map_toArray, List.map_cons, List.map_nil]); first | done | rfl | (simp only [List.length_drop, List.length_take]; rfl)) ?_; (with_reducible refine (boltingref06_other.calls kj32 a0 (wrap64 (a1 + 1)) t154 t155 _ A54.out).mono ?_); rintro e w55 ⟨rfl, hb⟩; refine ⟨_, rfl, ?_⟩; have n0_ := Aside0.mk (blk_below (g := gb139) (o := .cells #[.int .i64 0, .string (⟨#[]⟩ : ByteArray), .string (⟨#[]⟩ : ByteArray), .slice none 0 0, .bool false] 59 (0, 0)) (by (with_reducible repeat (first | refine blk_drewN ?_ _ | refine blk_drew ?_ | refine blk_alloc ?_ _)); exact BK139.out) hb); have n1_ := Aside0.mk (blk_below (g := gb140) (o := .cells #[.int .i64 3, .string (⟨#[]⟩ : ByteArray), .string (⟨#[]⟩ : ByteArray), .slice none 0 0, .bool false] 59 (0, 0)) (by (with_reducible repeat (first | refine blk_drewN ?_ _ | refine blk_drew ?_ | refine blk_alloc ?_ _)); exact BK140.out) hb); have n2_ := Aside0.mk (below_step (by repeat (first | (with_reducible first | exact HB.out | apply below_alloc | apply pw_below_drewN | apply below_drew1 | refine below_set ?_ GE139.out | refine below_set ?_ GE140.out) | exact HB.out)) hb); clear BK139; clear BK140; clear HB; have BK139 := n0_; have BK140 := n1_; have HB := n2_; clear n0_ n1_ n2_; (try clear hb); (try clear hb2); (try clear hk); (try clear hi); have hnb56 := NB140_139.out; have hnc56 := NB139_140.out; have hcz57_0 : w55.cell? ⟨gb140, 0, none⟩ = some (.int .i64 3) := (blk_cell BK140.out 0).trans rfl; have hcz57_1 : w55.cell? ⟨gb140, 1, none⟩ = some (.string (⟨#[]⟩ : ByteArray)) := (blk_cell BK140.out 1).trans rfl; have hcz57_2 : w55.cell? ⟨gb140, 2, none⟩ = some (.string (⟨#[]⟩ : ByteArray)) := (blk_cell BK140.out 2).trans rfl; have hcz57_3 : w55.cell? ⟨gb140, 3, none⟩ = some (.slice none 0 0) := (blk_cell BK140.out 3).trans rfl; have hcz57_4 : w55.cell? ⟨gb140, 4, none⟩ = some (.bool false) := (blk_cell BK140.out 4).trans rfl; have hfz57_0 := blk_frozen BK140.out 0; have hfz57_1 := blk_frozen BK140.out 1; have hfz57_2 := blk_frozen BK140.out 2; have hfz57_3 := blk_frozen BK140.out 3; have hfz57_4 := blk_frozen BK140.out 4; have hcz58_0 : w55.cell? ⟨gb139, 0, none⟩ = some (.int .i64 0) := (blk_cell BK139.out 0).trans rfl; have hcz58_1 : w55.cell? ⟨gb139, 1, none⟩ = some (.string (⟨#[]⟩ : ByteArray)) := (blk_cell BK139.out 1).trans rfl; have hcz58_2 : w55.cell? ⟨gb139, 2, none⟩ = some (.string (⟨#[]⟩ : ByteArray)) := (blk_cell BK139.out 2).trans rfl; have hcz58_3 : w55.cell? ⟨gb139, 3, none⟩ = some (.slice none 0 0) := (blk_cell BK139.out 3).trans rfl; have hcz58_4 : w55.cell? ⟨gb139, 4, none⟩ = some (.bool false) := (blk_cell BK139.out 4).trans rfl; have hfz58_0 := blk_frozen BK139.out 0; have hfz58_1 := blk_frozen BK139.out 1; have hfz58_2 := blk_frozen BK139.out 2; have hfz58_3 := blk_frozen BK139.out 3; have hfz58_4 := blk_frozen BK139.out 4))
                    refine bodyPost_ret (results_ct rfl _ _ gb139 59 #[.int .i64 3, .string (⟨#[]⟩ : ByteArray), .string t154, .slice none 0 0, .bool false] (0, 0) _ rfl (by (with_reducible repeat (first | refine blk_drewN ?_ _ | refine blk_drew ?_ | refine blk_alloc ?_ _)); refine blk_put (cs := #[.int .i64 3, .string (⟨#[]⟩ : ByteArray), .string t154, .slice none 0 0, .bool false]) ?_ 4 _ rfl; (with_reducible repeat (first | refine blk_drewN ?_ _ | refine blk_drew ?_ | refine blk_alloc ?_ _)); refine blk_put (cs := #[.int .i64 3, .string (⟨#[]⟩ : ByteArray), .string t154, .slice none 0 0, .bool false]) ?_ 3 _ rfl; (with_reducible repeat (first | refine blk_drewN ?_ _ | refine blk_drew ?_ | refine blk_alloc ?_ _)); refine blk_put (cs := #[.int .i64 3, .string (⟨#[]⟩ : ByteArray), .string (⟨#[]⟩ : ByteArray), .slice none 0 0, .bool false]) ?_ 2 _ rfl; (with_reducible repeat (first | refine blk_drewN ?_ _ | refine blk_drew ?_ | refine blk_alloc ?_ _)); refine blk_put (cs := #[.int .i64 3, .string (⟨#[]⟩ : ByteArray), .string (⟨#[]⟩ : ByteArray), .slice none 0 0, .bool false]) ?_ 1 _ rfl; (with_reducible repeat (first | refine blk_drewN ?_ _ | refine blk_drew ?_ | refine blk_alloc ?_ _)); refine blk_put (cs := #[.int .i64 0, .string (⟨#[]⟩ : ByteArray), .string (⟨#[]⟩ : ByteArray), .slice none 0 0, .bool false]) ?_ 0 _ rfl; (with_reducible repeat (first | refine blk_drewN ?_ _ | refine blk_drew ?_ | refine blk_alloc ?_ _)); refine blk_far ?_ NB139_140.out _; (with_reducible repeat (first | refine blk_drewN ?_ _ | refine blk_drew ?_ | refine blk_alloc ?_ _)); exact BK139.out) Tryz.underlying59 rfl (by kernel_rfl)) rfl ?_
                    exact ⟨_, by first | rfl | (simp [errW_none, errW_some] <;> rfl) | (simp [*, errW_none, errW_some] <;> rfl), by first | exact Kd.R_nil _ _ _ _ _ | exact Kd.N_nil _ _ _ _ _ | exact Kd.V_nil _ _ _ _ _ | exact Kd.Q_nil _ _ _ _ _ | exact Kd.S_nil _ _ _ _ _, by repeat (first | (with_reducible first | exact HB.out | apply below_alloc | apply pw_below_drewN | apply below_drew1 | refine below_set ?_ GE139.out | refine below_set ?_ GE140.out) | exact HB.out)⟩
                · replace c49 := Bool.eq_false_iff.mpr c49
                  subst c49
                  have H1 : (if a1 = a1 then (some (3, (⟨#[]⟩ : ByteArray), (⟨#[]⟩ : ByteArray), ([] : List (S40)), false, a1)) else ((boltingref06_other.f kj32 a0 a1).bind fun bt156 => (some (3, (⟨#[]⟩ : ByteArray), bt156.1, ([] : List (S40)), false, bt156.2)))) = some (r1, r2, r3, r4, r5, r6) := by rw [if_neg (show ¬ (false = true) by decide)] at H; first | exact H | (simp only [eq_self] at H ⊢; exact H) | (simp only [eq_self, if_true] at H ⊢; exact H)
                  clear H
                  have H := H1
                  clear H1
                  by_cases c59 : a1 = a1
                  · rw [if_pos c59] at H
                    have c59b0 : (a1 == a1) = true := beq_iff_eq.mpr c59
                    have c59b1 : (a1 != a1) = false := bne_eq_false_iff_eq.mpr c59
                    clear c59
                    simp only [Option.some.injEq, Prod.mk.injEq] at H
                    obtain ⟨rfl, rfl, rfl, rfl, rfl, rfl⟩ := H
                    go_wp2_with (first | ((with_reducible refine gate_callee (f := 40) rfl ?_); refine goesL_ (some 81) rfl rfl Tryz.func40 (by kernel_rfl) rfl #[.string a0, .int .i64 a1, .string (⟨#[60, 63]⟩ : ByteArray)] rfl (by (try simp only [List.map_toArray, List.map_cons, List.map_nil]); first | done | rfl | (simp only [List.length_drop, List.length_take]; rfl)) ?_; (with_reducible refine (boltingref06_at.calls a0 a1 (⟨#[60, 63]⟩ : ByteArray) false _ A48.out).mono ?_); rintro e w' ⟨rfl, ⟨nd, rfl⟩⟩; refine ⟨_, rfl, ?_⟩; (try (rw [drewN_self wc]; generalize hq_ : World.drewN wc _ = wc; have n0_ : Aside0 (wc.heap[gb139]? = some (.cells #[.int .i64 0, .string (⟨#[]⟩ : ByteArray), .string (⟨#[]⟩ : ByteArray), .slice none 0 0, .bool false] 59 (0, 0))) := ⟨by rw [← hq_]; exact (by (with_reducible repeat (first | refine blk_drewN ?_ _ | refine blk_drew ?_ | refine blk_alloc ?_ _)); exact BK139.out)⟩; have n1_ : Aside0 (wc.heap[gb140]? = some (.cells #[.int .i64 3, .string (⟨#[]⟩ : ByteArray), .string (⟨#[]⟩ : ByteArray), .slice none 0 0, .bool false] 59 (0, 0))) := ⟨by rw [← hq_]; exact (by (with_reducible repeat (first | refine blk_drewN ?_ _ | refine blk_drew ?_ | refine blk_alloc ?_ _)); exact BK140.out)⟩; have n2_ : Aside0 (Below w.heap.size w wc) := ⟨by rw [← hq_]; exact (by repeat (first | (with_reducible first | exact HB.out | apply below_alloc | apply pw_below_drewN | apply below_drew1 | refine below_set ?_ GE139.out | refine below_set ?_ GE140.out) | exact HB.out))⟩; clear BK139 BK140 HB hq_; have BK139 := n0_; have BK140 := n1_; have HB := n2_; clear n0_ n1_ n2_)); have hnb60 := NB140_139.out; have hnc60 := NB139_140.out; have hcz61_0 : wc.cell? ⟨gb140, 0, none⟩ = some (.int .i64 3) := (blk_cell BK140.out 0).trans rfl; have hcz61_1 : wc.cell? ⟨gb140, 1, none⟩ = some (.string (⟨#[]⟩ : ByteArray)) := (blk_cell BK140.out 1).trans rfl; have hcz61_2 : wc.cell? ⟨gb140, 2, none⟩ = some (.string (⟨#[]⟩ : ByteArray)) := (blk_cell BK140.out 2).trans rfl; have hcz61_3 : wc.cell? ⟨gb140, 3, none⟩ = some (.slice none 0 0) := (blk_cell BK140.out 3).trans rfl; have hcz61_4 : wc.cell? ⟨gb140, 4, none⟩ = some (.bool false) := (blk_cell BK140.out 4).trans rfl; have hfz61_0 := blk_frozen BK140.out 0; have hfz61_1 := blk_frozen BK140.out 1; have hfz61_2 := blk_frozen BK140.out 2; have hfz61_3 := blk_frozen BK140.out 3; have hfz61_4 := blk_frozen BK140.out 4; have hcz62_0 : wc.cell? ⟨gb139, 0, none⟩ = some (.int .i64 0) := (blk_cell BK139.out 0).trans rfl; have hcz62_1 : wc.cell? ⟨gb139, 1, none⟩ = some (.string (⟨#[]⟩ : ByteArray)) := (blk_cell BK139.out 1).trans rfl; have hcz62_2 : wc.cell? ⟨gb139, 2, none⟩ = some (.string (⟨#[]⟩ : ByteArray)) := (blk_cell BK139.out 2).trans rfl; have hcz62_3 : wc.cell? ⟨gb139, 3, none⟩ = some (.slice none 0 0) := (blk_cell BK139.out 3).trans rfl; have hcz62_4 : wc.cell? ⟨gb139, 4, none⟩ = some (.bool false) := (blk_cell BK139.out 4).trans rfl; have hfz62_0 := blk_frozen BK139.out 0; have hfz62_1 := blk_frozen BK139.out 1; have hfz62_2 := blk_frozen BK139.out 2; have hfz62_3 := blk_frozen BK139.out 3; have hfz62_4 := blk_frozen BK139.out 4))
                    refine bodyPost_ret (results_ct rfl _ _ gb139 59 #[.int .i64 3, .string (⟨#[]⟩ : ByteArray), .string (⟨#[]⟩ : ByteArray), .slice none 0 0, .bool false] (0, 0) _ rfl (by (with_reducible repeat (first | refine blk_drewN ?_ _ | refine blk_drew ?_ | refine blk_alloc ?_ _)); refine blk_put (cs := #[.int .i64 3, .string (⟨#[]⟩ : ByteArray), .string (⟨#[]⟩ : ByteArray), .slice none 0 0, .bool false]) ?_ 4 _ rfl; (with_reducible repeat (first | refine blk_drewN ?_ _ | refine blk_drew ?_ | refine blk_alloc ?_ _)); refine blk_put (cs := #[.int .i64 3, .string (⟨#[]⟩ : ByteArray), .string (⟨#[]⟩ : ByteArray), .slice none 0 0, .bool false]) ?_ 3 _ rfl; (with_reducible repeat (first | refine blk_drewN ?_ _ | refine blk_drew ?_ | refine blk_alloc ?_ _)); refine blk_put (cs := #[.int .i64 3, .string (⟨#[]⟩ : ByteArray), .string (⟨#[]⟩ : ByteArray), .slice none 0 0, .bool false]) ?_ 2 _ rfl; (with_reducible repeat (first | refine blk_drewN ?_ _ | refine blk_drew ?_ | refine blk_alloc ?_ _)); refine blk_put (cs := #[.int .i64 3, .string (⟨#[]⟩ : ByteArray), .string (⟨#[]⟩ : ByteArray), .slice none 0 0, .bool false]) ?_ 1 _ rfl; (with_reducible repeat (first | refine blk_drewN ?_ _ | refine blk_drew ?_ | refine blk_alloc ?_ _)); refine blk_put (cs := #[.int .i64 0, .string (⟨#[]⟩ : ByteArray), .string (⟨#[]⟩ : ByteArray), .slice none 0 0, .bool false]) ?_ 0 _ rfl; (with_reducible repeat (first | refine blk_drewN ?_ _ | refine blk_drew ?_ | refine blk_alloc ?_ _)); exact BK139.out) Tryz.underlying59 rfl (by kernel_rfl)) rfl ?_
                    exact ⟨_, by first | rfl | (simp [errW_none, errW_some] <;> rfl) | (simp [*, errW_none, errW_some] <;> rfl), by first | exact Kd.R_nil _ _ _ _ _ | exact Kd.N_nil _ _ _ _ _ | exact Kd.V_nil _ _ _ _ _ | exact Kd.Q_nil _ _ _ _ _ | exact Kd.S_nil _ _ _ _ _, by repeat (first | (with_reducible first | exact HB.out | apply below_alloc | apply pw_below_drewN | apply below_drew1 | refine below_set ?_ GE139.out | refine below_set ?_ GE140.out) | exact HB.out)⟩
                  · exact absurd rfl c59
/-! ### boltingref06_inside: function 80 -/
def boltingref06_inside.l0 : Nat → ByteArray → ByteArray → Int → Option (Int)
  | 0, _, _, _ => none
  | k + 1, x0, x2, x7 => if x7 < (x0.size : Int) then (if (wrap64 ((wrap64 (x7 + 2)) + (x2.size : Int))) < (x0.size : Int) then ((boltingref06_at.f x0 x7 (⟨#[60, 47]⟩ : ByteArray)).bind fun t158 => (if t158 = true then (if 0 ≤ (wrap64 (x7 + 2)) then (if (wrap64 (x7 + 2)) ≤ (wrap64 ((wrap64 (x7 + 2)) + (x2.size : Int))) then (if (wrap64 ((wrap64 (x7 + 2)) + (x2.size : Int))) ≤ (x0.size : Int) then ((boltingref02_Lower.f (x0.extract ((wrap64 (x7 + 2)) : Int).toNat ((wrap64 ((wrap64 (x7 + 2)) + (x2.size : Int))) : Int).toNat)).bind fun t159 => (if t159.toList = x2.toList then (if 0 ≤ (wrap64 ((wrap64 (x7 + 2)) + (x2.size : Int))) then ((boltingref06_stops.f (bt x0 (wrap64 ((wrap64 (x7 + 2)) + (x2.size : Int))))).bind fun t160 => (if t160 = true then (some x7) else (boltingref06_inside.l0 k x0 x2 (wrap64 (x7 + 1))))) else (none)) else (boltingref06_inside.l0 k x0 x2 (wrap64 (x7 + 1))))) else (none)) else (none)) else (none)) else (boltingref06_inside.l0 k x0 x2 (wrap64 (x7 + 1))))) else (boltingref06_inside.l0 k x0 x2 (wrap64 (x7 + 1)))) else (some (x0.size : Int))
def boltingref06_inside.f (k : Nat) (a0 : ByteArray) (a1 : Int) (a2 : ByteArray) : Option (Int) := boltingref06_inside.l0 k a0 a2 a1
theorem boltingref06_inside.mono_l : ∀ k, (∀ y0 y1 y2, LeO (boltingref06_inside.l0 k y0 y1 y2) (boltingref06_inside.l0 (k + 1) y0 y1 y2))
  | 0 => fun _ _ _ r h => by simp [boltingref06_inside.l0] at h
  | k + 1 => by
    have ih0 := boltingref06_inside.mono_l k
    · intro y0 y1 y2
      unfold boltingref06_inside.l0
      repeat' first
      | (with_reducible exact ih0 _ _ _)
      | (with_reducible exact LeO.refl _)
      | (with_reducible exact LeO.none _)
      | (with_reducible refine LeO.ite ?_ ?_)
      | (with_reducible refine LeO.bind ?_ (fun _ => ?_))
      | exact ih0 _ _ _
      | exact LeO.none _
      | refine LeO.ite ?_ ?_
      | refine LeO.bind ?_ (fun _ => ?_)
theorem boltingref06_inside.mono : ∀ a0 a1 a2 k, LeO (boltingref06_inside.f k a0 a1 a2) (boltingref06_inside.f (k + 1) a0 a1 a2) := by
  intro a0 a1 a2 k
  have ih0 := boltingref06_inside.mono_l k
  unfold boltingref06_inside.f
  repeat' first
      | (with_reducible exact ih0 _ _ _)
      | (with_reducible exact LeO.refl _)
      | (with_reducible exact LeO.none _)
      | (with_reducible refine LeO.ite ?_ ?_)
      | (with_reducible refine LeO.bind ?_ (fun _ => ?_))
      | exact ih0 _ _ _
      | exact LeO.none _
      | refine LeO.ite ?_ ?_
      | refine LeO.bind ?_ (fun _ => ?_)
set_option maxHeartbeats 8000000 in
set_option maxRecDepth 100000 in
theorem boltingref06_inside.calls (k : Nat) (a0 : ByteArray) (a1 : Int) (a2 : ByteArray) (r : Int) (w : World) (h : boltingref06_inside.f k a0 a1 a2 = some r) :
    Calls Tryz.prog 80 #[.string a0, .int .i64 a1, .string a2] w fun e w' => e = .returned (.int .i64 r) ∧ Below w.heap.size w w' := by
  have HB := Aside0.mk (Below.refl w.heap.size w)
  have H : (boltingref06_inside.l0 k a0 a2 a1) = some r := h
  clear h
  have H' := Aside0.mk H
  clear H
  go_enter Tryz.func80, Tryz.ntmps80
  go_wp2
  go_loopg [7] k (fun kq v7 w' => ∃ (x7_1 : Int), v7 = .int .i64 x7_1 ∧ Aside0 (boltingref06_inside.l0 kq a0 a2 x7_1 = some r) ∧ Aside0 (kq ≤ k) ∧ Aside0 (Below w.heap.size w w'))
  case atStart => exact ⟨(a1), (by first | rfl | (simp; done) | (simp [*]; done)), H', ⟨Nat.le_refl _⟩, ⟨by repeat (first | (with_reducible first | exact HB.out | apply below_alloc | apply pw_below_drewN | apply below_drew1) | exact HB.out)⟩⟩
  case round =>
    clear H'
    try clear p2
    obtain ⟨x7_1, rfl, HA, HK1, HB⟩ := hrel
    cases gk with
    | zero => exact absurd HA.out (by simp [boltingref06_inside.l0])
    | succ k1 =>
      have H := HA.out
      clear HA
      simp only [boltingref06_inside.l0] at H
      by_cases c4 : x7_1 < (a0.size : Int)
      · rw [if_pos c4] at H
        have c4b0 : decide (x7_1 < (a0.size : Int)) = true := decide_eq_true c4
        clear c4
        by_cases c5 : (wrap64 ((wrap64 (x7_1 + 2)) + (a2.size : Int))) < (a0.size : Int)
        · rw [if_pos c5] at H
          have c5b0 : decide ((wrap64 ((wrap64 (x7_1 + 2)) + (a2.size : Int))) < (a0.size : Int)) = true := decide_eq_true c5
          clear c5
          replace H := Option.bind_eq_some_iff.mp H
          obtain ⟨t158, A60, H⟩ := H
          replace H : (if t158 = true then (if 0 ≤ (wrap64 (x7_1 + 2)) then (if (wrap64 (x7_1 + 2)) ≤ (wrap64 ((wrap64 (x7_1 + 2)) + (a2.size : Int))) then (if (wrap64 ((wrap64 (x7_1 + 2)) + (a2.size : Int))) ≤ (a0.size : Int) then ((boltingref02_Lower.f (a0.extract ((wrap64 (x7_1 + 2)) : Int).toNat ((wrap64 ((wrap64 (x7_1 + 2)) + (a2.size : Int))) : Int).toNat)).bind fun t159 => (if t159.toList = a2.toList then (if 0 ≤ (wrap64 ((wrap64 (x7_1 + 2)) + (a2.size : Int))) then ((boltingref06_stops.f (bt a0 (wrap64 ((wrap64 (x7_1 + 2)) + (a2.size : Int))))).bind fun t160 => (if t160 = true then (some x7_1) else (boltingref06_inside.l0 k1 a0 a2 (wrap64 (x7_1 + 1))))) else (none)) else (boltingref06_inside.l0 k1 a0 a2 (wrap64 (x7_1 + 1))))) else (none)) else (none)) else (none)) else (boltingref06_inside.l0 k1 a0 a2 (wrap64 (x7_1 + 1)))) = some r := H
          have A6 := Aside0.mk A60
          clear A60
          by_cases c7 : t158 = true
          · subst c7
            have H1 : (if 0 ≤ (wrap64 (x7_1 + 2)) then (if (wrap64 (x7_1 + 2)) ≤ (wrap64 ((wrap64 (x7_1 + 2)) + (a2.size : Int))) then (if (wrap64 ((wrap64 (x7_1 + 2)) + (a2.size : Int))) ≤ (a0.size : Int) then ((boltingref02_Lower.f (a0.extract ((wrap64 (x7_1 + 2)) : Int).toNat ((wrap64 ((wrap64 (x7_1 + 2)) + (a2.size : Int))) : Int).toNat)).bind fun t159 => (if t159.toList = a2.toList then (if 0 ≤ (wrap64 ((wrap64 (x7_1 + 2)) + (a2.size : Int))) then ((boltingref06_stops.f (bt a0 (wrap64 ((wrap64 (x7_1 + 2)) + (a2.size : Int))))).bind fun t160 => (if t160 = true then (some x7_1) else (boltingref06_inside.l0 k1 a0 a2 (wrap64 (x7_1 + 1))))) else (none)) else (boltingref06_inside.l0 k1 a0 a2 (wrap64 (x7_1 + 1))))) else (none)) else (none)) else (none)) = some r := by rw [if_pos rfl] at H; exact H
            clear H
            have H := H1
            clear H1
            obtain ⟨ji8, hji8⟩ : ∃ j_ : Int, (wrap64 (x7_1 + 2)) = j_ := ⟨_, rfl⟩
            replace H : (if 0 ≤ (ji8) then (if (ji8) ≤ (wrap64 ((ji8) + (a2.size : Int))) then (if (wrap64 ((ji8) + (a2.size : Int))) ≤ (a0.size : Int) then ((boltingref02_Lower.f (a0.extract ((ji8) : Int).toNat ((wrap64 ((ji8) + (a2.size : Int))) : Int).toNat)).bind fun t159 => (if t159.toList = a2.toList then (if 0 ≤ (wrap64 ((ji8) + (a2.size : Int))) then ((boltingref06_stops.f (bt a0 (wrap64 ((ji8) + (a2.size : Int))))).bind fun t160 => (if t160 = true then (some x7_1) else (boltingref06_inside.l0 k1 a0 a2 (wrap64 (x7_1 + 1))))) else (none)) else (boltingref06_inside.l0 k1 a0 a2 (wrap64 (x7_1 + 1))))) else (none)) else (none)) else (none)) = some r := by first | (rw [hji8] at H; exact H) | (simp only [hji8] at H ⊢; exact H)
            (try rw [hji8] at c5b0)
            (try rw [hji8] at A6)
            have hji8w : (IntKind.i64.wrap (x7_1 + 2)) = ji8 := (i64_w _).trans hji8
            (try rw [hji8] at c5b0)
            (try rw [hji8] at A6)
            by_cases c9 : 0 ≤ (ji8)
            · rw [if_pos c9] at H
              have c9b0 := eq_true c9
              have c9b1 : decide (0 ≤ (ji8)) = true := decide_eq_true c9
              clear c9
              by_cases c10 : (ji8) ≤ (wrap64 ((ji8) + (a2.size : Int)))
              · rw [if_pos c10] at H
                have c10b0 := eq_true c10
                have c10b1 : decide ((ji8) ≤ (wrap64 ((ji8) + (a2.size : Int)))) = true := decide_eq_true c10
                by_cases c11 : (wrap64 ((ji8) + (a2.size : Int))) ≤ (a0.size : Int)
                · rw [if_pos c11] at H
                  have c11b0 := eq_true c11
                  have c11b1 : decide ((wrap64 ((ji8) + (a2.size : Int))) ≤ (a0.size : Int)) = true := decide_eq_true c11
                  replace H := Option.bind_eq_some_iff.mp H
                  obtain ⟨t159, A120, H⟩ := H
                  replace H : (if t159.toList = a2.toList then (if 0 ≤ (wrap64 ((ji8) + (a2.size : Int))) then ((boltingref06_stops.f (bt a0 (wrap64 ((ji8) + (a2.size : Int))))).bind fun t160 => (if t160 = true then (some x7_1) else (boltingref06_inside.l0 k1 a0 a2 (wrap64 (x7_1 + 1))))) else (none)) else (boltingref06_inside.l0 k1 a0 a2 (wrap64 (x7_1 + 1)))) = some r := H
                  have A12 := Aside0.mk A120
                  clear A120
                  by_cases c13 : t159.toList = a2.toList
                  · rw [if_pos c13] at H
                    have c13b0 : (t159.toList == a2.toList) = true := beq_iff_eq.mpr c13
                    have c13b1 : (t159.toList != a2.toList) = false := bne_eq_false_iff_eq.mpr c13
                    clear c13
                    obtain ⟨ji14, hji14⟩ : ∃ j_ : Int, (wrap64 ((ji8) + (a2.size : Int))) = j_ := ⟨_, rfl⟩
                    replace H : (if 0 ≤ (ji14) then ((boltingref06_stops.f (bt a0 (ji14))).bind fun t160 => (if t160 = true then (some x7_1) else (boltingref06_inside.l0 k1 a0 a2 (wrap64 (x7_1 + 1))))) else (none)) = some r := by first | (rw [hji14] at H; exact H) | (simp only [hji14] at H ⊢; exact H)
                    (try rw [hji14] at c10b0)
                    (try rw [hji14] at c10b1)
                    (try rw [hji14] at c10)
                    (try rw [hji14] at c11b0)
                    (try rw [hji14] at c11b1)
                    (try rw [hji14] at c11)
                    (try rw [hji14] at A6)
                    (try rw [hji14] at A12)
                    have hji14w : (IntKind.i64.wrap ((ji8) + (a2.size : Int))) = ji14 := (i64_w _).trans hji14
                    (try rw [hji14] at c5b0)
                    (try rw [hji14] at A6)
                    (try rw [hji14] at c10b0)
                    (try rw [hji14] at c10b1)
                    (try rw [hji14] at c10)
                    (try rw [hji14] at c11b0)
                    (try rw [hji14] at c11b1)
                    (try rw [hji14] at c11)
                    (try rw [hji14] at A12)
                    by_cases c15 : 0 ≤ (ji14)
                    · rw [if_pos c15] at H
                      have c15b0 : decide (0 ≤ (ji14)) = true := decide_eq_true c15
                      clear c15
                      replace H := Option.bind_eq_some_iff.mp H
                      obtain ⟨t160, A170, H⟩ := H
                      replace H : (if t160 = true then (some x7_1) else (boltingref06_inside.l0 k1 a0 a2 (wrap64 (x7_1 + 1)))) = some r := H
                      have A17 := Aside0.mk A170
                      clear A170
                      by_cases c18 : t160 = true
                      · subst c18
                        have H1 : (some x7_1) = some r := by rw [if_pos rfl] at H; exact H
                        clear H
                        have H := H1
                        clear H1
                        obtain rfl := Option.some.inj H
                        go_wp2_with (first | (go_at_call 40; (with_reducible refine (boltingref06_at.calls a0 x7_1 (⟨#[60, 47]⟩ : ByteArray) true _ A6.out).mono ?_); rintro e w' ⟨rfl, ⟨nd, rfl⟩⟩) | (go_at_call 84; (with_reducible refine (boltingref02_Lower.calls (a0.extract ((ji8) : Int).toNat ((ji14) : Int).toNat) t159 _ A12.out).mono ?_); rintro e w19 ⟨rfl, hb⟩; have n0_ := Aside0.mk (below_step (by repeat (first | (with_reducible first | exact HB.out | apply below_alloc | apply pw_below_drewN | apply below_drew1) | exact HB.out)) hb); clear HB; have HB := n0_; clear n0_; (try clear hb); (try clear hb2); (try clear hk); (try clear hi); have p16 : 0 ≤ ((ji14) : Int) := (by first | exact of_decide_eq_true (by first | (with_reducible assumption) | assumption) | assumption | omega); have q16 : (ji14) < (a0.size : Int) := (by first | exact of_decide_eq_true (by first | (with_reducible assumption) | assumption) | assumption | omega); have hx16 := bt_at a0 (ji14); replace p16 := eq_true p16; replace q16 := eq_true q16) | (go_at_call 83; (with_reducible refine (boltingref06_stops.calls (bt a0 (ji14)) true _ A17.out).mono ?_); rintro e w' ⟨rfl, ⟨nd, rfl⟩⟩))
                        go_ret
                        exact ⟨by first | rfl | (simp [errW_none, errW_some] <;> rfl) | (simp only [← hji8, ← hji14]; first | rfl | (simp [errW_none, errW_some] <;> rfl)) | (simp [*, errW_none, errW_some] <;> rfl), by repeat (first | (with_reducible first | exact HB.out | apply below_alloc | apply pw_below_drewN | apply below_drew1) | exact HB.out)⟩
                      · replace c18 := Bool.eq_false_iff.mpr c18
                        subst c18
                        have H1 : (boltingref06_inside.l0 k1 a0 a2 (wrap64 (x7_1 + 1))) = some r := by rw [if_neg (show ¬ (false = true) by decide)] at H; first | exact H | (simp only [eq_self] at H ⊢; exact H) | (simp only [eq_self, if_true] at H ⊢; exact H)
                        clear H
                        have H := H1
                        clear H1
                        have H' := Aside0.mk H
                        clear H
                        go_wp2_with (first | (go_at_call 40; (with_reducible refine (boltingref06_at.calls a0 x7_1 (⟨#[60, 47]⟩ : ByteArray) true _ A6.out).mono ?_); rintro e w' ⟨rfl, ⟨nd, rfl⟩⟩) | (go_at_call 84; (with_reducible refine (boltingref02_Lower.calls (a0.extract ((ji8) : Int).toNat ((ji14) : Int).toNat) t159 _ A12.out).mono ?_); rintro e w20 ⟨rfl, hb⟩; have n0_ := Aside0.mk (below_step (by repeat (first | (with_reducible first | exact HB.out | apply below_alloc | apply pw_below_drewN | apply below_drew1) | exact HB.out)) hb); clear HB; have HB := n0_; clear n0_; (try clear hb); (try clear hb2); (try clear hk); (try clear hi); have p16 : 0 ≤ ((ji14) : Int) := (by first | exact of_decide_eq_true (by first | (with_reducible assumption) | assumption) | assumption | omega); have q16 : (ji14) < (a0.size : Int) := (by first | exact of_decide_eq_true (by first | (with_reducible assumption) | assumption) | assumption | omega); have hx16 := bt_at a0 (ji14); replace p16 := eq_true p16; replace q16 := eq_true q16) | (go_at_call 83; (with_reducible refine (boltingref06_stops.calls (bt a0 (ji14)) false _ A17.out).mono ?_); rintro e w' ⟨rfl, ⟨nd, rfl⟩⟩))
                        go_roundg k1
                        case measure => have := HK1.out; omega
                        case rel => exact ⟨(wrap64 (x7_1 + 1)), (by first | rfl | (simp; done) | (simp [*]; done)), H', ⟨by have := HK1.out; omega⟩, ⟨by repeat (first | (with_reducible first | exact HB.out | apply below_alloc | apply pw_below_drewN | apply below_drew1) | exact HB.out)⟩⟩
                    · rw [if_neg c15] at H
                      exact absurd H (by simp)
                  · rw [if_neg c13] at H
                    have c13b0 : (t159.toList == a2.toList) = false := beq_eq_false_iff_ne.mpr c13
                    have c13b1 : (t159.toList != a2.toList) = true := bne_iff_ne.mpr c13
                    have H' := Aside0.mk H
                    clear H
                    go_wp2_with (first | (go_at_call 40; (with_reducible refine (boltingref06_at.calls a0 x7_1 (⟨#[60, 47]⟩ : ByteArray) true _ A6.out).mono ?_); rintro e w' ⟨rfl, ⟨nd, rfl⟩⟩) | (go_at_call 84; (with_reducible refine (boltingref02_Lower.calls (a0.extract ((ji8) : Int).toNat ((wrap64 ((ji8) + (a2.size : Int))) : Int).toNat) t159 _ A12.out).mono ?_); rintro e w21 ⟨rfl, hb⟩; have n0_ := Aside0.mk (below_step (by repeat (first | (with_reducible first | exact HB.out | apply below_alloc | apply pw_below_drewN | apply below_drew1) | exact HB.out)) hb); clear HB; have HB := n0_; clear n0_; (try clear hb); (try clear hb2); (try clear hk); (try clear hi)))
                    go_roundg k1
                    case measure => have := HK1.out; omega
                    case rel => exact ⟨(wrap64 (x7_1 + 1)), (by first | rfl | (simp; done) | (simp [*]; done)), H', ⟨by have := HK1.out; omega⟩, ⟨by repeat (first | (with_reducible first | exact HB.out | apply below_alloc | apply pw_below_drewN | apply below_drew1) | exact HB.out)⟩⟩
                · rw [if_neg c11] at H
                  exact absurd H (by simp)
              · rw [if_neg c10] at H
                exact absurd H (by simp)
            · rw [if_neg c9] at H
              exact absurd H (by simp)
          · replace c7 := Bool.eq_false_iff.mpr c7
            subst c7
            have H1 : (boltingref06_inside.l0 k1 a0 a2 (wrap64 (x7_1 + 1))) = some r := by rw [if_neg (show ¬ (false = true) by decide)] at H; first | exact H | (simp only [eq_self] at H ⊢; exact H) | (simp only [eq_self, if_true] at H ⊢; exact H)
            clear H
            have H := H1
            clear H1
            have H' := Aside0.mk H
            clear H
            go_wp2_with (first | (go_at_call 40; (with_reducible refine (boltingref06_at.calls a0 x7_1 (⟨#[60, 47]⟩ : ByteArray) false _ A6.out).mono ?_); rintro e w' ⟨rfl, ⟨nd, rfl⟩⟩))
            go_roundg k1
            case measure => have := HK1.out; omega
            case rel => exact ⟨(wrap64 (x7_1 + 1)), (by first | rfl | (simp; done) | (simp [*]; done)), H', ⟨by have := HK1.out; omega⟩, ⟨by repeat (first | (with_reducible first | exact HB.out | apply below_alloc | apply pw_below_drewN | apply below_drew1) | exact HB.out)⟩⟩
        · rw [if_neg c5] at H
          have c5b0 : decide ((wrap64 ((wrap64 (x7_1 + 2)) + (a2.size : Int))) < (a0.size : Int)) = false := decide_eq_false c5
          clear c5
          have H' := Aside0.mk H
          clear H
          go_wp2
          go_roundg k1
          case measure => have := HK1.out; omega
          case rel => exact ⟨(wrap64 (x7_1 + 1)), (by first | rfl | (simp; done) | (simp [*]; done)), H', ⟨by have := HK1.out; omega⟩, ⟨by repeat (first | (with_reducible first | exact HB.out | apply below_alloc | apply pw_below_drewN | apply below_drew1) | exact HB.out)⟩⟩
      · rw [if_neg c4] at H
        have c4b0 : decide (x7_1 < (a0.size : Int)) = false := decide_eq_false c4
        clear c4
        obtain rfl := Option.some.inj H
        go_wp2
        go_ret
        exact ⟨by first | rfl | (simp [errW_none, errW_some] <;> rfl) | (simp [*, errW_none, errW_some] <;> rfl), by repeat (first | (with_reducible first | exact HB.out | apply below_alloc | apply pw_below_drewN | apply below_drew1) | exact HB.out)⟩

end Go.Proofs.YtdnbaliibiginaaGreatDoorH.TI
