/- Lemmas and walks, part 30: QPW8x35. -/
import Derived.Test.YtdnbaliibiginaaDoorY4
import Derived.Test.YtdnbaliibiginaaDoorY29
import Derived.Test.YtdnbaliibiginaaDoorY18
import Derived.Test.YtdnbaliibiginaaDoorY19
import Derived.Test.YtdnbaliibiginaaDoorY17
set_option linter.unusedVariables false
set_option linter.unusedSimpArgs false

/- Words and walks used below. -/
namespace Go.Proofs.YtdnbaliibiginaaDoorH.W8
open Go.RowKit Go.Proofs.YtdnbaliibiginaaDoorW.PrintWords Go.Proofs.YtdnbaliibiginaaDoorW.PrintLast Go.Proofs.YtdnbaliibiginaaDoorW.PrintMore
attribute [local go_sem] max2_int min2_int max_two min_two max_three min_three max_four min_four   -- for this text's walks alone
mutual
def write_element.j0 : Nat → Bool → Int → Int → ByteArray → ByteArray → List (S45) → Option (Bool)
 | 0, _, _, _, _, _, _ => none
 | k + 1, x28, x266000, x266001, x266002, x266003, x266004 => if x28 = true then (some false) else (write_element.l0 k x266004 (x266004.length : Int) 0)
def write_element.l0 : Nat → List (S45) → Int → Int → Option (Bool)
 | 0, _, _, _ => none
 | k + 1, x30, x31, x32 => if x32 < x31 then (if 0 ≤ x32 then (if x32 < (x30.length : Int) then ((names_Attr.f k ((rd_T45 x30 x32).f0)).bind fun t272 => (if t272 = true then ((write_clean.f ((rd_T45 x30 x32).f0)).bind fun t273 => (if t273 = true then ((write_clean.f ((rd_T45 x30 x32).f1)).bind fun t274 => (if t274 = true then (write_element.l0 k x30 x31 (wrap64 (x32 + 1))) else (some false))) else (some false))) else (some false))) else (none)) else (none)) else (some true)
end
def write_element.f (k : Nat) (a0_0 : Int) (a0_1 : Int) (a0_2 : ByteArray) (a0_3 : ByteArray) (l0_4 : List (S45)) (l1 : List ByteArray) : Option (Bool) := (names_Right.f k a0_2).bind fun t266 => (if t266 = true then ((names_Gone.f k a0_2).bind fun t267 => (if t267 = true then (write_element.j0 k true a0_0 a0_1 a0_2 a0_3 l0_4) else ((write_clean.f a0_2).bind fun t268 => (if t268 = true then ((build_Nested.f k a0_2 l1).bind fun t269 => (write_element.j0 k (!t269) a0_0 a0_1 a0_2 a0_3 l0_4)) else (write_element.j0 k true a0_0 a0_1 a0_2 a0_3 l0_4))))) else (write_element.j0 k true a0_0 a0_1 a0_2 a0_3 l0_4))
set_option maxHeartbeats 8000000 in
set_option maxRecDepth 100000 in
theorem write_element.calls (k : Nat) (a0_0 : Int) (a0_1 : Int) (a0_2 : ByteArray) (a0_3 : ByteArray) (A0_4 : Option Addr) (c0_4 : Nat) (l0_4 : List (S45)) (A1 : Option Addr) (c1 : Nat) (l1 : List ByteArray) (r : Bool) (w : World) (hr0_4 : Kd.C k45 w A0_4 l0_4.length l0_4) (hc0_4 : l0_4.length ≤ c0_4) (hr1 : Kd.C Kd.string w A1 l1.length l1) (hc1 : l1.length ≤ c1) (h : write_element.f k a0_0 a0_1 a0_2 a0_3 l0_4 l1 = some r) (hS_ : Go.Proofs.YtdnbaliibiginaaDoor.Std8 w) :
  Calls Tryd.prog 37 #[.agg #[.int .i64 a0_0, .int .i64 a0_1, .string a0_2, .string a0_3, .slice A0_4 l0_4.length c0_4], .slice A1 l1.length c1] w fun e w' => e = .returned (.bool r) ∧ Below w.heap.size w w' := by
 have HS_ := Aside0.mk hS_
 clear hS_
 have hu35 := Tryd.underlying35
 have hu45 := Tryd.underlying45
 have HR0_4 := Aside0.mk hr0_4
 have HC0_4 := Aside0.mk hc0_4
 clear hr0_4 hc0_4
 have HR1 := Aside0.mk hr1
 have HC1 := Aside0.mk hc1
 clear hr1 hc1
 have HB := Aside0.mk (Below.refl w.heap.size w)
 have H : ((names_Right.f k a0_2).bind fun t266 => (if t266 = true then ((names_Gone.f k a0_2).bind fun t267 => (if t267 = true then (write_element.j0 k true a0_0 a0_1 a0_2 a0_3 l0_4) else ((write_clean.f a0_2).bind fun t268 => (if t268 = true then ((build_Nested.f k a0_2 l1).bind fun t269 => (write_element.j0 k (!t269) a0_0 a0_1 a0_2 a0_3 l0_4)) else (write_element.j0 k true a0_0 a0_1 a0_2 a0_3 l0_4))))) else (write_element.j0 k true a0_0 a0_1 a0_2 a0_3 l0_4))) = some r := h
 clear h
 have HC3 := Aside0.mk H
 clear H
 go_enter Tryd.func37, Tryd.ntmps37
 go_upto_region 1 with (first | ((with_reducible refine gate_dst (N := 2) rfl ?_); refine box_event ?hg (N := 2) ?hd (cs := #[.int .i64 a0_0, .int .i64 a0_1, .string a0_2, .string a0_3, .slice A0_4 l0_4.length c0_4]) (t := 35) ?hr ?_; (case hd => rfl); (case hg => rfl); (case hr => first | (go_simp; done) | (go_simp; rfl)); intro gb265 hg w4 hbox hb; have n0_ := Aside0.mk (below_step bz hb); have n1_ := Aside0.mk (hbox); have n2_ := Aside0.mk ((by rw [hg]; exact (below_size bz) : w.heap.size ≤ gb265)); have n3_ := Aside0.mk ((by rw [hg]; exact (below_size bz) : w.heap.size ≤ gb265)); clear HB; have HB := n0_; have BK265 := n1_; have GW265 := n2_; have GE265 := n3_; clear n0_ n1_ n2_ n3_; clear hb hbox hg))
 (try simp only [Act.put, List.setIfInBounds_toArray, List.set_cons_zero, List.set_cons_succ])
 go_cut [28] (fun v28 wc => ∃ (kq : Nat) (x28_2 : Bool), v28 = .bool x28_2 ∧ Aside0 (write_element.j0 kq x28_2 a0_0 a0_1 a0_2 a0_3 l0_4 = some r) ∧ Aside0 (kq ≤ k) ∧ Aside0 (wc.heap[gb265]? = some (.cells #[.int .i64 a0_0, .int .i64 a0_1, .string a0_2, .string a0_3, (.slice A0_4 l0_4.length c0_4)] 35 (0, 0))) ∧ Aside0 (Below w.heap.size w wc))
 case first =>
  have H := HC3.out
  clear HC3
  replace H := Option.bind_eq_some_iff.mp H
  obtain ⟨t266, A50, H⟩ := H
  replace H : (if t266 = true then ((names_Gone.f k a0_2).bind fun t267 => (if t267 = true then (write_element.j0 k true a0_0 a0_1 a0_2 a0_3 l0_4) else ((write_clean.f a0_2).bind fun t268 => (if t268 = true then ((build_Nested.f k a0_2 l1).bind fun t269 => (write_element.j0 k (!t269) a0_0 a0_1 a0_2 a0_3 l0_4)) else (write_element.j0 k true a0_0 a0_1 a0_2 a0_3 l0_4))))) else (write_element.j0 k true a0_0 a0_1 a0_2 a0_3 l0_4)) = some r := H
  have A5 := Aside0.mk A50
  clear A50
  by_cases c6 : t266 = true
  ·subst c6
   have H1 : ((names_Gone.f k a0_2).bind fun t267 => (if t267 = true then (write_element.j0 k true a0_0 a0_1 a0_2 a0_3 l0_4) else ((write_clean.f a0_2).bind fun t268 => (if t268 = true then ((build_Nested.f k a0_2 l1).bind fun t269 => (write_element.j0 k (!t269) a0_0 a0_1 a0_2 a0_3 l0_4)) else (write_element.j0 k true a0_0 a0_1 a0_2 a0_3 l0_4))))) = some r := by rw [if_pos rfl] at H; exact H
   clear H
   have H := H1
   clear H1
   replace H := Option.bind_eq_some_iff.mp H
   obtain ⟨t267, A70, H⟩ := H
   replace H : (if t267 = true then (write_element.j0 k true a0_0 a0_1 a0_2 a0_3 l0_4) else ((write_clean.f a0_2).bind fun t268 => (if t268 = true then ((build_Nested.f k a0_2 l1).bind fun t269 => (write_element.j0 k (!t269) a0_0 a0_1 a0_2 a0_3 l0_4)) else (write_element.j0 k true a0_0 a0_1 a0_2 a0_3 l0_4)))) = some r := H
   have A7 := Aside0.mk A70
   clear A70
   by_cases c8 : t267 = true
   ·subst c8
    have H1 : (write_element.j0 k true a0_0 a0_1 a0_2 a0_3 l0_4) = some r := by rw [if_pos rfl] at H; exact H
    clear H
    have H := H1
    clear H1
    have H' := Aside0.mk H
    clear H
    have hcz9_0 : w4.cell? ⟨gb265, 0, none⟩ = some (.int .i64 a0_0) := (blk_cell BK265.out 0).trans rfl
    have hcz9_1 : w4.cell? ⟨gb265, 1, none⟩ = some (.int .i64 a0_1) := (blk_cell BK265.out 1).trans rfl
    have hcz9_2 : w4.cell? ⟨gb265, 2, none⟩ = some (.string a0_2) := (blk_cell BK265.out 2).trans rfl
    have hcz9_3 : w4.cell? ⟨gb265, 3, none⟩ = some (.string a0_3) := (blk_cell BK265.out 3).trans rfl
    have hcz9_4 : w4.cell? ⟨gb265, 4, none⟩ = some (.slice A0_4 l0_4.length c0_4) := (blk_cell BK265.out 4).trans rfl
    have hfz9_0 := blk_frozen BK265.out 0
    have hfz9_1 := blk_frozen BK265.out 1
    have hfz9_2 := blk_frozen BK265.out 2
    have hfz9_3 := blk_frozen BK265.out 3
    have hfz9_4 := blk_frozen BK265.out 4
    go_wp2_with (first | ((with_reducible refine gate_callee (f := 63) rfl ?_); refine goesL_ (some 9) rfl rfl Tryd.func63 (by kernel_rfl) rfl #[.string a0_2] rfl (by (try simp only [List.map_toArray, List.map_cons, List.map_nil]); first | done | rfl | (simp only [List.length_drop, List.length_take]; rfl)) ?_; (with_reducible refine (names_Right.calls k a0_2 true _ A5.out).mono ?_); rintro e w' ⟨rfl, ⟨nd, rfl⟩⟩; refine ⟨_, rfl, ?_⟩) | (go_at_call 64; (with_reducible refine (names_Gone.calls k a0_2 true _ A7.out).mono ?_); rintro e w10 ⟨rfl, hb⟩; have n0_ := Aside0.mk (blk_below (g := gb265) (o := .cells #[.int .i64 a0_0, .int .i64 a0_1, .string a0_2, .string a0_3, .slice A0_4 l0_4.length c0_4] 35 (0, 0)) (kz BK265.out) hb); have n1_ := Aside0.mk (below_step (bs GE265.out) hb); clear BK265; clear HB; have BK265 := n0_; have HB := n1_; clear n0_ n1_; (try clear hb); (try clear hb2); (try clear hk); (try clear hi)))
    go_meet
    case rel => exact ⟨_, (true), (by first | rfl | (simp; done) | (simp [*]; done) | (simp; generalize ByteArray.toList _ = l_; cases l_ <;> rfl)), H', ⟨by first | omega | exact Nat.le_refl _⟩, ⟨by (with_reducible repeat (first | refine blk_drewN ?_ _ | refine blk_drew ?_ | refine blk_alloc ?_ _)); exact BK265.out⟩, ⟨bs GE265.out⟩⟩
   ·replace c8 := Bool.eq_false_iff.mpr c8
    subst c8
    have H1 : ((write_clean.f a0_2).bind fun t268 => (if t268 = true then ((build_Nested.f k a0_2 l1).bind fun t269 => (write_element.j0 k (!t269) a0_0 a0_1 a0_2 a0_3 l0_4)) else (write_element.j0 k true a0_0 a0_1 a0_2 a0_3 l0_4))) = some r := by rw [if_neg (show ¬ (false = true) by decide)] at H; first | exact H | (simp only [eq_self] at H ⊢; exact H) | (simp only [eq_self, if_true] at H ⊢; exact H)
    clear H
    have H := H1
    clear H1
    replace H := Option.bind_eq_some_iff.mp H
    obtain ⟨t268, A110, H⟩ := H
    replace H : (if t268 = true then ((build_Nested.f k a0_2 l1).bind fun t269 => (write_element.j0 k (!t269) a0_0 a0_1 a0_2 a0_3 l0_4)) else (write_element.j0 k true a0_0 a0_1 a0_2 a0_3 l0_4)) = some r := H
    have A11 := Aside0.mk A110
    clear A110
    by_cases c12 : t268 = true
    ·subst c12
     have H1 : ((build_Nested.f k a0_2 l1).bind fun t269 => (write_element.j0 k (!t269) a0_0 a0_1 a0_2 a0_3 l0_4)) = some r := by rw [if_pos rfl] at H; exact H
     clear H
     have H := H1
     clear H1
     replace H := Option.bind_eq_some_iff.mp H
     obtain ⟨t269, A130, H⟩ := H
     replace H : (write_element.j0 k (!t269) a0_0 a0_1 a0_2 a0_3 l0_4) = some r := H
     have A13 := Aside0.mk A130
     clear A130
     have H' := Aside0.mk H
     clear H
     have hcz14_0 : w4.cell? ⟨gb265, 0, none⟩ = some (.int .i64 a0_0) := (blk_cell BK265.out 0).trans rfl
     have hcz14_1 : w4.cell? ⟨gb265, 1, none⟩ = some (.int .i64 a0_1) := (blk_cell BK265.out 1).trans rfl
     have hcz14_2 : w4.cell? ⟨gb265, 2, none⟩ = some (.string a0_2) := (blk_cell BK265.out 2).trans rfl
     have hcz14_3 : w4.cell? ⟨gb265, 3, none⟩ = some (.string a0_3) := (blk_cell BK265.out 3).trans rfl
     have hcz14_4 : w4.cell? ⟨gb265, 4, none⟩ = some (.slice A0_4 l0_4.length c0_4) := (blk_cell BK265.out 4).trans rfl
     have hfz14_0 := blk_frozen BK265.out 0
     have hfz14_1 := blk_frozen BK265.out 1
     have hfz14_2 := blk_frozen BK265.out 2
     have hfz14_3 := blk_frozen BK265.out 3
     have hfz14_4 := blk_frozen BK265.out 4
     go_wp2_with (first | ((with_reducible refine gate_callee (f := 63) rfl ?_); refine goesL_ (some 9) rfl rfl Tryd.func63 (by kernel_rfl) rfl #[.string a0_2] rfl (by (try simp only [List.map_toArray, List.map_cons, List.map_nil]); first | done | rfl | (simp only [List.length_drop, List.length_take]; rfl)) ?_; (with_reducible refine (names_Right.calls k a0_2 true _ A5.out).mono ?_); rintro e w' ⟨rfl, ⟨nd, rfl⟩⟩; refine ⟨_, rfl, ?_⟩) | (go_at_call 64; (with_reducible refine (names_Gone.calls k a0_2 false _ A7.out).mono ?_); rintro e w15 ⟨rfl, hb⟩; have n0_ := Aside0.mk (blk_below (g := gb265) (o := .cells #[.int .i64 a0_0, .int .i64 a0_1, .string a0_2, .string a0_3, .slice A0_4 l0_4.length c0_4] 35 (0, 0)) (kz BK265.out) hb); have n1_ := Aside0.mk (below_step (bs GE265.out) hb); clear BK265; clear HB; have BK265 := n0_; have HB := n1_; clear n0_ n1_; (try clear hb); (try clear hb2); (try clear hk); (try clear hi); have hcz16_0 : w15.cell? ⟨gb265, 0, none⟩ = some (.int .i64 a0_0) := (blk_cell BK265.out 0).trans rfl; have hcz16_1 : w15.cell? ⟨gb265, 1, none⟩ = some (.int .i64 a0_1) := (blk_cell BK265.out 1).trans rfl; have hcz16_2 : w15.cell? ⟨gb265, 2, none⟩ = some (.string a0_2) := (blk_cell BK265.out 2).trans rfl; have hcz16_3 : w15.cell? ⟨gb265, 3, none⟩ = some (.string a0_3) := (blk_cell BK265.out 3).trans rfl; have hcz16_4 : w15.cell? ⟨gb265, 4, none⟩ = some (.slice A0_4 l0_4.length c0_4) := (blk_cell BK265.out 4).trans rfl; have hfz16_0 := blk_frozen BK265.out 0; have hfz16_1 := blk_frozen BK265.out 1; have hfz16_2 := blk_frozen BK265.out 2; have hfz16_3 := blk_frozen BK265.out 3; have hfz16_4 := blk_frozen BK265.out 4) | (go_at_call 35; (with_reducible refine (write_clean.calls a0_2 true _ A11.out (Go.Proofs.YtdnbaliibiginaaDoor.Std8.below HS_.out (bs GE265.out))).mono ?_); rintro e w17 ⟨rfl, hb⟩; have n0_ := Aside0.mk (blk_below (g := gb265) (o := .cells #[.int .i64 a0_0, .int .i64 a0_1, .string a0_2, .string a0_3, .slice A0_4 l0_4.length c0_4] 35 (0, 0)) (kz BK265.out) hb); have n1_ := Aside0.mk (below_step (bs GE265.out) hb); clear BK265; clear HB; have BK265 := n0_; have HB := n1_; clear n0_ n1_; (try clear hb); (try clear hb2); (try clear hk); (try clear hi); have hcz18_0 : w17.cell? ⟨gb265, 0, none⟩ = some (.int .i64 a0_0) := (blk_cell BK265.out 0).trans rfl; have hcz18_1 : w17.cell? ⟨gb265, 1, none⟩ = some (.int .i64 a0_1) := (blk_cell BK265.out 1).trans rfl; have hcz18_2 : w17.cell? ⟨gb265, 2, none⟩ = some (.string a0_2) := (blk_cell BK265.out 2).trans rfl; have hcz18_3 : w17.cell? ⟨gb265, 3, none⟩ = some (.string a0_3) := (blk_cell BK265.out 3).trans rfl; have hcz18_4 : w17.cell? ⟨gb265, 4, none⟩ = some (.slice A0_4 l0_4.length c0_4) := (blk_cell BK265.out 4).trans rfl; have hfz18_0 := blk_frozen BK265.out 0; have hfz18_1 := blk_frozen BK265.out 1; have hfz18_2 := blk_frozen BK265.out 2; have hfz18_3 := blk_frozen BK265.out 3; have hfz18_4 := blk_frozen BK265.out 4) | (go_at_call 65; (with_reducible refine (build_Nested.calls k a0_2 _ _ l1 t269 _ ?side1 ?side2 A13.out).mono ?_); (case side1 => exact cz (Kd.C_below HR1.out HB.out)); (case side2 => exact HC1.out); rintro e w19 ⟨rfl, hb⟩; have n0_ := Aside0.mk (blk_below (g := gb265) (o := .cells #[.int .i64 a0_0, .int .i64 a0_1, .string a0_2, .string a0_3, .slice A0_4 l0_4.length c0_4] 35 (0, 0)) (kz BK265.out) hb); have n1_ := Aside0.mk (below_step (bs GE265.out) hb); clear BK265; clear HB; have BK265 := n0_; have HB := n1_; clear n0_ n1_; (try clear hb); (try clear hb2); (try clear hk); (try clear hi)))
     go_meet
     case rel => exact ⟨_, (!t269), (by first | rfl | (simp; done) | (simp [*]; done) | (simp; generalize ByteArray.toList _ = l_; cases l_ <;> rfl)), H', ⟨by first | omega | exact Nat.le_refl _⟩, ⟨by (with_reducible repeat (first | refine blk_drewN ?_ _ | refine blk_drew ?_ | refine blk_alloc ?_ _)); exact BK265.out⟩, ⟨bs GE265.out⟩⟩
    ·replace c12 := Bool.eq_false_iff.mpr c12
     subst c12
     have H1 : (write_element.j0 k true a0_0 a0_1 a0_2 a0_3 l0_4) = some r := by rw [if_neg (show ¬ (false = true) by decide)] at H; first | exact H | (simp only [eq_self] at H ⊢; exact H) | (simp only [eq_self, if_true] at H ⊢; exact H)
     clear H
     have H := H1
     clear H1
     have H' := Aside0.mk H
     clear H
     have hcz20_0 : w4.cell? ⟨gb265, 0, none⟩ = some (.int .i64 a0_0) := (blk_cell BK265.out 0).trans rfl
     have hcz20_1 : w4.cell? ⟨gb265, 1, none⟩ = some (.int .i64 a0_1) := (blk_cell BK265.out 1).trans rfl
     have hcz20_2 : w4.cell? ⟨gb265, 2, none⟩ = some (.string a0_2) := (blk_cell BK265.out 2).trans rfl
     have hcz20_3 : w4.cell? ⟨gb265, 3, none⟩ = some (.string a0_3) := (blk_cell BK265.out 3).trans rfl
     have hcz20_4 : w4.cell? ⟨gb265, 4, none⟩ = some (.slice A0_4 l0_4.length c0_4) := (blk_cell BK265.out 4).trans rfl
     have hfz20_0 := blk_frozen BK265.out 0
     have hfz20_1 := blk_frozen BK265.out 1
     have hfz20_2 := blk_frozen BK265.out 2
     have hfz20_3 := blk_frozen BK265.out 3
     have hfz20_4 := blk_frozen BK265.out 4
     go_wp2_with (first | ((with_reducible refine gate_callee (f := 63) rfl ?_); refine goesL_ (some 9) rfl rfl Tryd.func63 (by kernel_rfl) rfl #[.string a0_2] rfl (by (try simp only [List.map_toArray, List.map_cons, List.map_nil]); first | done | rfl | (simp only [List.length_drop, List.length_take]; rfl)) ?_; (with_reducible refine (names_Right.calls k a0_2 true _ A5.out).mono ?_); rintro e w' ⟨rfl, ⟨nd, rfl⟩⟩; refine ⟨_, rfl, ?_⟩) | (go_at_call 64; (with_reducible refine (names_Gone.calls k a0_2 false _ A7.out).mono ?_); rintro e w21 ⟨rfl, hb⟩; have n0_ := Aside0.mk (blk_below (g := gb265) (o := .cells #[.int .i64 a0_0, .int .i64 a0_1, .string a0_2, .string a0_3, .slice A0_4 l0_4.length c0_4] 35 (0, 0)) (kz BK265.out) hb); have n1_ := Aside0.mk (below_step (bs GE265.out) hb); clear BK265; clear HB; have BK265 := n0_; have HB := n1_; clear n0_ n1_; (try clear hb); (try clear hb2); (try clear hk); (try clear hi); have hcz22_0 : w21.cell? ⟨gb265, 0, none⟩ = some (.int .i64 a0_0) := (blk_cell BK265.out 0).trans rfl; have hcz22_1 : w21.cell? ⟨gb265, 1, none⟩ = some (.int .i64 a0_1) := (blk_cell BK265.out 1).trans rfl; have hcz22_2 : w21.cell? ⟨gb265, 2, none⟩ = some (.string a0_2) := (blk_cell BK265.out 2).trans rfl; have hcz22_3 : w21.cell? ⟨gb265, 3, none⟩ = some (.string a0_3) := (blk_cell BK265.out 3).trans rfl; have hcz22_4 : w21.cell? ⟨gb265, 4, none⟩ = some (.slice A0_4 l0_4.length c0_4) := (blk_cell BK265.out 4).trans rfl; have hfz22_0 := blk_frozen BK265.out 0; have hfz22_1 := blk_frozen BK265.out 1; have hfz22_2 := blk_frozen BK265.out 2; have hfz22_3 := blk_frozen BK265.out 3; have hfz22_4 := blk_frozen BK265.out 4) | (go_at_call 35; (with_reducible refine (write_clean.calls a0_2 false _ A11.out (Go.Proofs.YtdnbaliibiginaaDoor.Std8.below HS_.out (bs GE265.out))).mono ?_); rintro e w23 ⟨rfl, hb⟩; have n0_ := Aside0.mk (blk_below (g := gb265) (o := .cells #[.int .i64 a0_0, .int .i64 a0_1, .string a0_2, .string a0_3, .slice A0_4 l0_4.length c0_4] 35 (0, 0)) (kz BK265.out) hb); have n1_ := Aside0.mk (below_step (bs GE265.out) hb); clear BK265; clear HB; have BK265 := n0_; have HB := n1_; clear n0_ n1_; (try clear hb); (try clear hb2); (try clear hk); (try clear hi)))
     go_meet
     case rel => exact ⟨_, (true), (by first | rfl | (simp; done) | (simp [*]; done) | (simp; generalize ByteArray.toList _ = l_; cases l_ <;> rfl)), H', ⟨by first | omega | exact Nat.le_refl _⟩, ⟨by (with_reducible repeat (first | refine blk_drewN ?_ _ | refine blk_drew ?_ | refine blk_alloc ?_ _)); exact BK265.out⟩, ⟨bs GE265.out⟩⟩
  ·replace c6 := Bool.eq_false_iff.mpr c6
   subst c6
   have H1 : (write_element.j0 k true a0_0 a0_1 a0_2 a0_3 l0_4) = some r := by rw [if_neg (show ¬ (false = true) by decide)] at H; first | exact H | (simp only [eq_self] at H ⊢; exact H) | (simp only [eq_self, if_true] at H ⊢; exact H)
   clear H
   have H := H1
   clear H1
   have H' := Aside0.mk H
   clear H
   have hcz24_0 : w4.cell? ⟨gb265, 0, none⟩ = some (.int .i64 a0_0) := (blk_cell BK265.out 0).trans rfl
   have hcz24_1 : w4.cell? ⟨gb265, 1, none⟩ = some (.int .i64 a0_1) := (blk_cell BK265.out 1).trans rfl
   have hcz24_2 : w4.cell? ⟨gb265, 2, none⟩ = some (.string a0_2) := (blk_cell BK265.out 2).trans rfl
   have hcz24_3 : w4.cell? ⟨gb265, 3, none⟩ = some (.string a0_3) := (blk_cell BK265.out 3).trans rfl
   have hcz24_4 : w4.cell? ⟨gb265, 4, none⟩ = some (.slice A0_4 l0_4.length c0_4) := (blk_cell BK265.out 4).trans rfl
   have hfz24_0 := blk_frozen BK265.out 0
   have hfz24_1 := blk_frozen BK265.out 1
   have hfz24_2 := blk_frozen BK265.out 2
   have hfz24_3 := blk_frozen BK265.out 3
   have hfz24_4 := blk_frozen BK265.out 4
   go_wp2_with (first | ((with_reducible refine gate_callee (f := 63) rfl ?_); refine goesL_ (some 9) rfl rfl Tryd.func63 (by kernel_rfl) rfl #[.string a0_2] rfl (by (try simp only [List.map_toArray, List.map_cons, List.map_nil]); first | done | rfl | (simp only [List.length_drop, List.length_take]; rfl)) ?_; (with_reducible refine (names_Right.calls k a0_2 false _ A5.out).mono ?_); rintro e w' ⟨rfl, ⟨nd, rfl⟩⟩; refine ⟨_, rfl, ?_⟩))
   go_meet
   case rel => exact ⟨_, (true), (by first | rfl | (simp; done) | (simp [*]; done) | (simp; generalize ByteArray.toList _ = l_; cases l_ <;> rfl)), H', ⟨by first | omega | exact Nat.le_refl _⟩, ⟨by (with_reducible repeat (first | refine blk_drewN ?_ _ | refine blk_drew ?_ | refine blk_alloc ?_ _)); exact BK265.out⟩, ⟨bs GE265.out⟩⟩
 case rest =>
  clear HC3
  try clear c1
  try clear p2
  try clear c3
  try clear c6
  try clear c8
  try clear c12
  try clear hcz14_0
  try clear hcz14_1
  try clear hcz14_2
  try clear hcz14_3
  try clear hcz14_4
  try clear hcz16_0
  try clear hcz16_1
  try clear hcz16_2
  try clear hcz16_3
  try clear hcz16_4
  try clear hcz18_0
  try clear hcz18_1
  try clear hcz18_2
  try clear hcz18_3
  try clear hcz18_4
  try clear hcz20_0
  try clear hcz20_1
  try clear hcz20_2
  try clear hcz20_3
  try clear hcz20_4
  try clear hcz22_0
  try clear hcz22_1
  try clear hcz22_2
  try clear hcz22_3
  try clear hcz22_4
  try clear hcz24_0
  try clear hcz24_1
  try clear hcz24_2
  try clear hcz24_3
  try clear hcz24_4
  try clear hcz9_0
  try clear hcz9_1
  try clear hcz9_2
  try clear hcz9_3
  try clear hcz9_4
  try clear hfz14_0
  try clear hfz14_1
  try clear hfz14_2
  try clear hfz14_3
  try clear hfz14_4
  try clear hfz16_0
  try clear hfz16_1
  try clear hfz16_2
  try clear hfz16_3
  try clear hfz16_4
  try clear hfz18_0
  try clear hfz18_1
  try clear hfz18_2
  try clear hfz18_3
  try clear hfz18_4
  try clear hfz20_0
  try clear hfz20_1
  try clear hfz20_2
  try clear hfz20_3
  try clear hfz20_4
  try clear hfz22_0
  try clear hfz22_1
  try clear hfz22_2
  try clear hfz22_3
  try clear hfz22_4
  try clear hfz24_0
  try clear hfz24_1
  try clear hfz24_2
  try clear hfz24_3
  try clear hfz24_4
  try clear hfz9_0
  try clear hfz9_1
  try clear hfz9_2
  try clear hfz9_3
  try clear hfz9_4
  obtain ⟨kq, x28_2, rfl, HA, HJ2, BK265, HB⟩ := hcut
  cases kq with
  | zero => exact absurd HA.out (by simp [write_element.j0])
  | succ kj2 =>
   have H := HA.out
   clear HA
   simp only [write_element.j0] at H
   by_cases c25 : x28_2 = true
   ·subst c25
    have H1 : (some false) = some r := by rw [if_pos rfl] at H; exact H
    clear H
    have H := H1
    clear H1
    obtain rfl := Option.some.inj H
    go_wp2
    go_ret
    exact ⟨by first | rfl | (simp [errW_none, errW_some] <;> rfl) | (simp [*, errW_none, errW_some] <;> rfl), bs GE265.out⟩
   ·replace c25 := Bool.eq_false_iff.mpr c25
    subst c25
    have H1 : (write_element.l0 kj2 l0_4 (l0_4.length : Int) 0) = some r := by rw [if_neg (show ¬ (false = true) by decide)] at H; first | exact H | (simp only [eq_self] at H ⊢; exact H) | (simp only [eq_self, if_true] at H ⊢; exact H)
    clear H
    have H := H1
    clear H1
    have H' := Aside0.mk H
    clear H
    have hcz26_0 : wc.cell? ⟨gb265, 0, none⟩ = some (.int .i64 a0_0) := (blk_cell BK265.out 0).trans rfl
    have hcz26_1 : wc.cell? ⟨gb265, 1, none⟩ = some (.int .i64 a0_1) := (blk_cell BK265.out 1).trans rfl
    have hcz26_2 : wc.cell? ⟨gb265, 2, none⟩ = some (.string a0_2) := (blk_cell BK265.out 2).trans rfl
    have hcz26_3 : wc.cell? ⟨gb265, 3, none⟩ = some (.string a0_3) := (blk_cell BK265.out 3).trans rfl
    have hcz26_4 : wc.cell? ⟨gb265, 4, none⟩ = some (.slice A0_4 l0_4.length c0_4) := (blk_cell BK265.out 4).trans rfl
    have hfz26_0 := blk_frozen BK265.out 0
    have hfz26_1 := blk_frozen BK265.out 1
    have hfz26_2 := blk_frozen BK265.out 2
    have hfz26_3 := blk_frozen BK265.out 3
    have hfz26_4 := blk_frozen BK265.out 4
    go_wp2
    go_loopg [32] kj2 (fun kq v32 w' => ∃ (x32_2 : Int), v32 = .int .i64 x32_2 ∧ Aside0 (write_element.l0 kq l0_4 (l0_4.length : Int) x32_2 = some r) ∧ Aside0 (kq ≤ kj2) ∧ Aside0 (w'.heap[gb265]? = some (.cells #[.int .i64 a0_0, .int .i64 a0_1, .string a0_2, .string a0_3, (.slice A0_4 l0_4.length c0_4)] 35 (0, 0))) ∧ Aside0 (Below w.heap.size w w'))
    case atStart => exact ⟨(0), (by first | rfl | (simp; done) | (simp [*]; done) | (simp; generalize ByteArray.toList _ = l_; cases l_ <;> rfl)), H', ⟨Nat.le_refl _⟩, ⟨by (with_reducible repeat (first | refine blk_drewN ?_ _ | refine blk_drew ?_ | refine blk_alloc ?_ _)); exact BK265.out⟩, ⟨bs GE265.out⟩⟩
    case round =>
     clear H'
     try clear c1
     try clear c2
     try clear p2
     try clear c3
     try clear c6
     try clear c8
     try clear c12
     try clear c25
     try clear hcz14_0
     try clear hcz14_1
     try clear hcz14_2
     try clear hcz14_3
     try clear hcz14_4
     try clear hcz16_0
     try clear hcz16_1
     try clear hcz16_2
     try clear hcz16_3
     try clear hcz16_4
     try clear hcz18_0
     try clear hcz18_1
     try clear hcz18_2
     try clear hcz18_3
     try clear hcz18_4
     try clear hcz20_0
     try clear hcz20_1
     try clear hcz20_2
     try clear hcz20_3
     try clear hcz20_4
     try clear hcz22_0
     try clear hcz22_1
     try clear hcz22_2
     try clear hcz22_3
     try clear hcz22_4
     try clear hcz24_0
     try clear hcz24_1
     try clear hcz24_2
     try clear hcz24_3
     try clear hcz24_4
     try clear hcz26_0
     try clear hcz26_1
     try clear hcz26_2
     try clear hcz26_3
     try clear hcz26_4
     try clear hcz9_0
     try clear hcz9_1
     try clear hcz9_2
     try clear hcz9_3
     try clear hcz9_4
     try clear hfz14_0
     try clear hfz14_1
     try clear hfz14_2
     try clear hfz14_3
     try clear hfz14_4
     try clear hfz16_0
     try clear hfz16_1
     try clear hfz16_2
     try clear hfz16_3
     try clear hfz16_4
     try clear hfz18_0
     try clear hfz18_1
     try clear hfz18_2
     try clear hfz18_3
     try clear hfz18_4
     try clear hfz20_0
     try clear hfz20_1
     try clear hfz20_2
     try clear hfz20_3
     try clear hfz20_4
     try clear hfz22_0
     try clear hfz22_1
     try clear hfz22_2
     try clear hfz22_3
     try clear hfz22_4
     try clear hfz24_0
     try clear hfz24_1
     try clear hfz24_2
     try clear hfz24_3
     try clear hfz24_4
     try clear hfz26_0
     try clear hfz26_1
     try clear hfz26_2
     try clear hfz26_3
     try clear hfz26_4
     try clear hfz9_0
     try clear hfz9_1
     try clear hfz9_2
     try clear hfz9_3
     try clear hfz9_4
     try clear p2
     obtain ⟨x32_2, rfl, HA, HK2, BK265, HB⟩ := hrel
     cases gk with
     | zero => exact absurd HA.out (by simp [write_element.l0])
     | succ k2 =>
      have H := HA.out
      clear HA
      simp only [write_element.l0] at H
      by_cases c27 : x32_2 < (l0_4.length : Int)
      ·rw [if_pos c27] at H
       have c27b0 : decide (x32_2 < (l0_4.length : Int)) = true := decide_eq_true c27
       clear c27
       by_cases c28 : 0 ≤ x32_2
       ·rw [if_pos c28] at H
        have c28b0 : decide (0 ≤ x32_2) = true := decide_eq_true c28
        clear c28
        by_cases c29 : x32_2 < (l0_4.length : Int)
        ·rw [if_pos c29] at H
         have c29b0 : decide (x32_2 < (l0_4.length : Int)) = true := decide_eq_true c29
         clear c29
         replace H := Option.bind_eq_some_iff.mp H
         obtain ⟨t272, A300, H⟩ := H
         replace H : (if t272 = true then ((write_clean.f ((rd_T45 l0_4 x32_2).f0)).bind fun t273 => (if t273 = true then ((write_clean.f ((rd_T45 l0_4 x32_2).f1)).bind fun t274 => (if t274 = true then (write_element.l0 k2 l0_4 (l0_4.length : Int) (wrap64 (x32_2 + 1))) else (some false))) else (some false))) else (some false)) = some r := H
         have A30 := Aside0.mk A300
         clear A300
         by_cases c31 : t272 = true
         ·subst c31
          have H1 : ((write_clean.f ((rd_T45 l0_4 x32_2).f0)).bind fun t273 => (if t273 = true then ((write_clean.f ((rd_T45 l0_4 x32_2).f1)).bind fun t274 => (if t274 = true then (write_element.l0 k2 l0_4 (l0_4.length : Int) (wrap64 (x32_2 + 1))) else (some false))) else (some false))) = some r := by rw [if_pos rfl] at H; exact H
          clear H
          have H := H1
          clear H1
          replace H := Option.bind_eq_some_iff.mp H
          obtain ⟨t273, A320, H⟩ := H
          replace H : (if t273 = true then ((write_clean.f ((rd_T45 l0_4 x32_2).f1)).bind fun t274 => (if t274 = true then (write_element.l0 k2 l0_4 (l0_4.length : Int) (wrap64 (x32_2 + 1))) else (some false))) else (some false)) = some r := H
          have A32 := Aside0.mk A320
          clear A320
          by_cases c33 : t273 = true
          ·subst c33
           have H1 : ((write_clean.f ((rd_T45 l0_4 x32_2).f1)).bind fun t274 => (if t274 = true then (write_element.l0 k2 l0_4 (l0_4.length : Int) (wrap64 (x32_2 + 1))) else (some false))) = some r := by rw [if_pos rfl] at H; exact H
           clear H
           have H := H1
           clear H1
           replace H := Option.bind_eq_some_iff.mp H
           obtain ⟨t274, A340, H⟩ := H
           replace H : (if t274 = true then (write_element.l0 k2 l0_4 (l0_4.length : Int) (wrap64 (x32_2 + 1))) else (some false)) = some r := H
           have A34 := Aside0.mk A340
           clear A340
           by_cases c35 : t274 = true
           ·subst c35
            have H1 : (write_element.l0 k2 l0_4 (l0_4.length : Int) (wrap64 (x32_2 + 1))) = some r := by rw [if_pos rfl] at H; exact H
            clear H
            have H := H1
            clear H1
            have H' := Aside0.mk H
            clear H
            have p270 : 0 ≤ (x32_2 : Int) := (by first | exact of_decide_eq_true (by first | (with_reducible assumption) | assumption) | assumption | omega)
            have q270 : x32_2 < (l0_4.length : Int) := (by first | exact of_decide_eq_true (by first | (with_reducible assumption) | assumption) | assumption | omega)
            obtain ⟨ad270, e270, hx270_0, hx270_1⟩ := at_T45 HR0_4.out x32_2 p270 q270
            cases e270
            replace hx270_0 := (HB.out.cell (World.block_lt_of_cell? w _ hx270_0)).trans hx270_0
            replace hx270_1 := (HB.out.cell (World.block_lt_of_cell? w _ hx270_1)).trans hx270_1
            replace p270 := eq_true p270
            replace q270 := eq_true q270
            go_wp2_with (first | ((with_reducible refine gate_dst (N := 6) rfl ?_); refine box_event ?hg (N := 6) ?hd (cs := #[.string (⟨#[]⟩ : ByteArray), .string (⟨#[]⟩ : ByteArray)]) (t := 45) ?hr ?_; (case hd => rfl); (case hg => rfl); (case hr => first | (go_simp; done) | (go_simp; rfl)); intro gb271 hg w36 hbox hb; have n0_ := Aside0.mk (blk_below (g := gb265) (o := .cells #[.int .i64 a0_0, .int .i64 a0_1, .string a0_2, .string a0_3, .slice (some ad270) l0_4.length c0_4] 35 (0, 0)) (kz BK265.out) hb); have n1_ := Aside0.mk (below_step (bs GE265.out) hb); have n2_ := Aside0.mk (hbox); have n3_ := Aside0.mk ((by rw [hg]; exact (below_size (bs GE265.out)) : w.heap.size ≤ gb271)); have n4_ := Aside0.mk ((by rw [hg]; exact (below_size (bs GE265.out)) : w.heap.size ≤ gb271)); have n5_ := Aside0.mk ((by rw [hg]; exact Nat.ne_of_lt (blk_lt (g := gb265) (o := .cells #[.int .i64 a0_0, .int .i64 a0_1, .string a0_2, .string a0_3, .slice (some ad270) l0_4.length c0_4] 35 (0, 0)) (kz BK265.out)) : gb265 ≠ gb271)); have n6_ := Aside0.mk ((by rw [hg]; exact Nat.ne_of_gt (blk_lt (g := gb265) (o := .cells #[.int .i64 a0_0, .int .i64 a0_1, .string a0_2, .string a0_3, .slice (some ad270) l0_4.length c0_4] 35 (0, 0)) (kz BK265.out)) : gb271 ≠ gb265)); clear BK265; clear HB; have BK265 := n0_; have HB := n1_; have BK271 := n2_; have GW271 := n3_; have GE271 := n4_; have NB265_271 := n5_; have NB271_265 := n6_; clear n0_ n1_ n2_ n3_ n4_ n5_ n6_; clear hb hbox hg; have hnb37 := NB271_265.out; have hnc37 := NB265_271.out; have hcz38_0 : w36.cell? ⟨gb271, 0, none⟩ = some (.string (⟨#[]⟩ : ByteArray)) := (blk_cell BK271.out 0).trans rfl; have hcz38_1 : w36.cell? ⟨gb271, 1, none⟩ = some (.string (⟨#[]⟩ : ByteArray)) := (blk_cell BK271.out 1).trans rfl; have hfz38_0 := blk_frozen BK271.out 0; have hfz38_1 := blk_frozen BK271.out 1) | ((with_reducible refine gate_callee (f := 66) rfl ?_); refine goesL_ (some 38) rfl rfl Tryd.func66 (by kernel_rfl) rfl #[.string ((rd_T45 l0_4 x32_2).f0)] rfl (by (try simp only [List.map_toArray, List.map_cons, List.map_nil]); first | done | rfl | (simp only [List.length_drop, List.length_take]; rfl)) ?_; (with_reducible refine (names_Attr.calls k2 ((rd_T45 l0_4 x32_2).f0) true _ A30.out).mono ?_); rintro e w' ⟨rfl, ⟨nd, rfl⟩⟩; refine ⟨_, rfl, ?_⟩) | (go_at_call 35; (with_reducible refine (write_clean.calls ((rd_T45 l0_4 x32_2).f0) true _ A32.out (Go.Proofs.YtdnbaliibiginaaDoor.Std8.below HS_.out (by repeat (first | (with_reducible first | exact HB.out | apply below_alloc | apply pw_below_drewN | apply below_drew1 | refine below_set ?_ GE265.out | refine below_set ?_ GE271.out) | exact HB.out)))).mono ?_); rintro e w39 ⟨rfl, hb⟩; have n0_ := Aside0.mk (blk_below (g := gb265) (o := .cells #[.int .i64 a0_0, .int .i64 a0_1, .string a0_2, .string a0_3, .slice (some ad270) l0_4.length c0_4] 35 (0, 0)) (by (with_reducible repeat (first | refine blk_drewN ?_ _ | refine blk_drew ?_ | refine blk_alloc ?_ _)); refine blk_far ?_ NB265_271.out _; (with_reducible repeat (first | refine blk_drewN ?_ _ | refine blk_drew ?_ | refine blk_alloc ?_ _)); refine blk_far ?_ NB265_271.out _; (with_reducible repeat (first | refine blk_drewN ?_ _ | refine blk_drew ?_ | refine blk_alloc ?_ _)); exact BK265.out) hb); have n1_ := Aside0.mk (blk_below (g := gb271) (o := .cells #[.string ((rd_T45 l0_4 x32_2).f0), .string ((rd_T45 l0_4 x32_2).f1)] 45 (0, 0)) (by (with_reducible repeat (first | refine blk_drewN ?_ _ | refine blk_drew ?_ | refine blk_alloc ?_ _)); refine blk_put (cs := #[.string ((rd_T45 l0_4 x32_2).f0), .string (⟨#[]⟩ : ByteArray)]) ?_ 1 _ rfl; (with_reducible repeat (first | refine blk_drewN ?_ _ | refine blk_drew ?_ | refine blk_alloc ?_ _)); refine blk_put (cs := #[.string (⟨#[]⟩ : ByteArray), .string (⟨#[]⟩ : ByteArray)]) ?_ 0 _ rfl; (with_reducible repeat (first | refine blk_drewN ?_ _ | refine blk_drew ?_ | refine blk_alloc ?_ _)); exact BK271.out) hb); have n2_ := Aside0.mk (below_step (by repeat (first | (with_reducible first | exact HB.out | apply below_alloc | apply pw_below_drewN | apply below_drew1 | refine below_set ?_ GE265.out | refine below_set ?_ GE271.out) | exact HB.out)) hb); clear BK265; clear BK271; clear HB; have BK265 := n0_; have BK271 := n1_; have HB := n2_; clear n0_ n1_ n2_; (try clear hb); (try clear hb2); (try clear hk); (try clear hi); have hcz40_0 : w39.cell? ⟨gb271, 0, none⟩ = some (.string ((rd_T45 l0_4 x32_2).f0)) := (blk_cell BK271.out 0).trans rfl; have hcz40_1 : w39.cell? ⟨gb271, 1, none⟩ = some (.string ((rd_T45 l0_4 x32_2).f1)) := (blk_cell BK271.out 1).trans rfl; have hfz40_0 := blk_frozen BK271.out 0; have hfz40_1 := blk_frozen BK271.out 1) | (go_at_call 35; (with_reducible refine (write_clean.calls ((rd_T45 l0_4 x32_2).f1) true _ A34.out (Go.Proofs.YtdnbaliibiginaaDoor.Std8.below HS_.out (by repeat (first | (with_reducible first | exact HB.out | apply below_alloc | apply pw_below_drewN | apply below_drew1 | refine below_set ?_ GE265.out | refine below_set ?_ GE271.out) | exact HB.out)))).mono ?_); rintro e w41 ⟨rfl, hb⟩; have n0_ := Aside0.mk (blk_below (g := gb265) (o := .cells #[.int .i64 a0_0, .int .i64 a0_1, .string a0_2, .string a0_3, .slice (some ad270) l0_4.length c0_4] 35 (0, 0)) (kz BK265.out) hb); have n1_ := Aside0.mk (blk_below (g := gb271) (o := .cells #[.string ((rd_T45 l0_4 x32_2).f0), .string ((rd_T45 l0_4 x32_2).f1)] 45 (0, 0)) (kz BK271.out) hb); have n2_ := Aside0.mk (below_step (by repeat (first | (with_reducible first | exact HB.out | apply below_alloc | apply pw_below_drewN | apply below_drew1 | refine below_set ?_ GE265.out | refine below_set ?_ GE271.out) | exact HB.out)) hb); clear BK265; clear BK271; clear HB; have BK265 := n0_; have BK271 := n1_; have HB := n2_; clear n0_ n1_ n2_; (try clear hb); (try clear hb2); (try clear hk); (try clear hi)))
            go_roundg k2
            case measure => have := HJ2.out; have := HK2.out; omega
            case rel => exact ⟨(wrap64 (x32_2 + 1)), (by first | rfl | (simp; done) | (simp [*]; done) | (simp; generalize ByteArray.toList _ = l_; cases l_ <;> rfl)), H', ⟨by have := HJ2.out; have := HK2.out; omega⟩, ⟨by (with_reducible repeat (first | refine blk_drewN ?_ _ | refine blk_drew ?_ | refine blk_alloc ?_ _)); exact BK265.out⟩, ⟨by repeat (first | (with_reducible first | exact HB.out | apply below_alloc | apply pw_below_drewN | apply below_drew1 | refine below_set ?_ GE265.out | refine below_set ?_ GE271.out) | exact HB.out)⟩⟩
           ·replace c35 := Bool.eq_false_iff.mpr c35
            subst c35
            have H1 : (some false) = some r := by rw [if_neg (show ¬ (false = true) by decide)] at H; first | exact H | (simp only [eq_self] at H ⊢; exact H) | (simp only [eq_self, if_true] at H ⊢; exact H)
            clear H
            have H := H1
            clear H1
            obtain rfl := Option.some.inj H
            have p270 : 0 ≤ (x32_2 : Int) := (by first | exact of_decide_eq_true (by first | (with_reducible assumption) | assumption) | assumption | omega)
            have q270 : x32_2 < (l0_4.length : Int) := (by first | exact of_decide_eq_true (by first | (with_reducible assumption) | assumption) | assumption | omega)
            obtain ⟨ad270, e270, hx270_0, hx270_1⟩ := at_T45 HR0_4.out x32_2 p270 q270
            cases e270
            replace hx270_0 := (HB.out.cell (World.block_lt_of_cell? w _ hx270_0)).trans hx270_0
            replace hx270_1 := (HB.out.cell (World.block_lt_of_cell? w _ hx270_1)).trans hx270_1
            replace p270 := eq_true p270
            replace q270 := eq_true q270
            go_wp2_with (first | ((with_reducible refine gate_dst (N := 6) rfl ?_); refine box_event ?hg (N := 6) ?hd (cs := #[.string (⟨#[]⟩ : ByteArray), .string (⟨#[]⟩ : ByteArray)]) (t := 45) ?hr ?_; (case hd => rfl); (case hg => rfl); (case hr => first | (go_simp; done) | (go_simp; rfl)); intro gb271 hg w42 hbox hb; have n0_ := Aside0.mk (blk_below (g := gb265) (o := .cells #[.int .i64 a0_0, .int .i64 a0_1, .string a0_2, .string a0_3, .slice (some ad270) l0_4.length c0_4] 35 (0, 0)) (kz BK265.out) hb); have n1_ := Aside0.mk (below_step (bs GE265.out) hb); have n2_ := Aside0.mk (hbox); have n3_ := Aside0.mk ((by rw [hg]; exact (below_size (bs GE265.out)) : w.heap.size ≤ gb271)); have n4_ := Aside0.mk ((by rw [hg]; exact (below_size (bs GE265.out)) : w.heap.size ≤ gb271)); have n5_ := Aside0.mk ((by rw [hg]; exact Nat.ne_of_lt (blk_lt (g := gb265) (o := .cells #[.int .i64 a0_0, .int .i64 a0_1, .string a0_2, .string a0_3, .slice (some ad270) l0_4.length c0_4] 35 (0, 0)) (kz BK265.out)) : gb265 ≠ gb271)); have n6_ := Aside0.mk ((by rw [hg]; exact Nat.ne_of_gt (blk_lt (g := gb265) (o := .cells #[.int .i64 a0_0, .int .i64 a0_1, .string a0_2, .string a0_3, .slice (some ad270) l0_4.length c0_4] 35 (0, 0)) (kz BK265.out)) : gb271 ≠ gb265)); clear BK265; clear HB; have BK265 := n0_; have HB := n1_; have BK271 := n2_; have GW271 := n3_; have GE271 := n4_; have NB265_271 := n5_; have NB271_265 := n6_; clear n0_ n1_ n2_ n3_ n4_ n5_ n6_; clear hb hbox hg; have hnb43 := NB271_265.out; have hnc43 := NB265_271.out; have hcz44_0 : w42.cell? ⟨gb271, 0, none⟩ = some (.string (⟨#[]⟩ : ByteArray)) := (blk_cell BK271.out 0).trans rfl; have hcz44_1 : w42.cell? ⟨gb271, 1, none⟩ = some (.string (⟨#[]⟩ : ByteArray)) := (blk_cell BK271.out 1).trans rfl; have hfz44_0 := blk_frozen BK271.out 0; have hfz44_1 := blk_frozen BK271.out 1) | ((with_reducible refine gate_callee (f := 66) rfl ?_); refine goesL_ (some 38) rfl rfl Tryd.func66 (by kernel_rfl) rfl #[.string ((rd_T45 l0_4 x32_2).f0)] rfl (by (try simp only [List.map_toArray, List.map_cons, List.map_nil]); first | done | rfl | (simp only [List.length_drop, List.length_take]; rfl)) ?_; (with_reducible refine (names_Attr.calls k2 ((rd_T45 l0_4 x32_2).f0) true _ A30.out).mono ?_); rintro e w' ⟨rfl, ⟨nd, rfl⟩⟩; refine ⟨_, rfl, ?_⟩) | (go_at_call 35; (with_reducible refine (write_clean.calls ((rd_T45 l0_4 x32_2).f0) true _ A32.out (Go.Proofs.YtdnbaliibiginaaDoor.Std8.below HS_.out (by repeat (first | (with_reducible first | exact HB.out | apply below_alloc | apply pw_below_drewN | apply below_drew1 | refine below_set ?_ GE265.out | refine below_set ?_ GE271.out) | exact HB.out)))).mono ?_); rintro e w45 ⟨rfl, hb⟩; have n0_ := Aside0.mk (blk_below (g := gb265) (o := .cells #[.int .i64 a0_0, .int .i64 a0_1, .string a0_2, .string a0_3, .slice (some ad270) l0_4.length c0_4] 35 (0, 0)) (by (with_reducible repeat (first | refine blk_drewN ?_ _ | refine blk_drew ?_ | refine blk_alloc ?_ _)); refine blk_far ?_ NB265_271.out _; (with_reducible repeat (first | refine blk_drewN ?_ _ | refine blk_drew ?_ | refine blk_alloc ?_ _)); refine blk_far ?_ NB265_271.out _; (with_reducible repeat (first | refine blk_drewN ?_ _ | refine blk_drew ?_ | refine blk_alloc ?_ _)); exact BK265.out) hb); have n1_ := Aside0.mk (blk_below (g := gb271) (o := .cells #[.string ((rd_T45 l0_4 x32_2).f0), .string ((rd_T45 l0_4 x32_2).f1)] 45 (0, 0)) (by (with_reducible repeat (first | refine blk_drewN ?_ _ | refine blk_drew ?_ | refine blk_alloc ?_ _)); refine blk_put (cs := #[.string ((rd_T45 l0_4 x32_2).f0), .string (⟨#[]⟩ : ByteArray)]) ?_ 1 _ rfl; (with_reducible repeat (first | refine blk_drewN ?_ _ | refine blk_drew ?_ | refine blk_alloc ?_ _)); refine blk_put (cs := #[.string (⟨#[]⟩ : ByteArray), .string (⟨#[]⟩ : ByteArray)]) ?_ 0 _ rfl; (with_reducible repeat (first | refine blk_drewN ?_ _ | refine blk_drew ?_ | refine blk_alloc ?_ _)); exact BK271.out) hb); have n2_ := Aside0.mk (below_step (by repeat (first | (with_reducible first | exact HB.out | apply below_alloc | apply pw_below_drewN | apply below_drew1 | refine below_set ?_ GE265.out | refine below_set ?_ GE271.out) | exact HB.out)) hb); clear BK265; clear BK271; clear HB; have BK265 := n0_; have BK271 := n1_; have HB := n2_; clear n0_ n1_ n2_; (try clear hb); (try clear hb2); (try clear hk); (try clear hi); have hcz46_0 : w45.cell? ⟨gb271, 0, none⟩ = some (.string ((rd_T45 l0_4 x32_2).f0)) := (blk_cell BK271.out 0).trans rfl; have hcz46_1 : w45.cell? ⟨gb271, 1, none⟩ = some (.string ((rd_T45 l0_4 x32_2).f1)) := (blk_cell BK271.out 1).trans rfl; have hfz46_0 := blk_frozen BK271.out 0; have hfz46_1 := blk_frozen BK271.out 1) | (go_at_call 35; (with_reducible refine (write_clean.calls ((rd_T45 l0_4 x32_2).f1) false _ A34.out (Go.Proofs.YtdnbaliibiginaaDoor.Std8.below HS_.out (by repeat (first | (with_reducible first | exact HB.out | apply below_alloc | apply pw_below_drewN | apply below_drew1 | refine below_set ?_ GE265.out | refine below_set ?_ GE271.out) | exact HB.out)))).mono ?_); rintro e w47 ⟨rfl, hb⟩; have n0_ := Aside0.mk (blk_below (g := gb265) (o := .cells #[.int .i64 a0_0, .int .i64 a0_1, .string a0_2, .string a0_3, .slice (some ad270) l0_4.length c0_4] 35 (0, 0)) (kz BK265.out) hb); have n1_ := Aside0.mk (blk_below (g := gb271) (o := .cells #[.string ((rd_T45 l0_4 x32_2).f0), .string ((rd_T45 l0_4 x32_2).f1)] 45 (0, 0)) (kz BK271.out) hb); have n2_ := Aside0.mk (below_step (by repeat (first | (with_reducible first | exact HB.out | apply below_alloc | apply pw_below_drewN | apply below_drew1 | refine below_set ?_ GE265.out | refine below_set ?_ GE271.out) | exact HB.out)) hb); clear BK265; clear BK271; clear HB; have BK265 := n0_; have BK271 := n1_; have HB := n2_; clear n0_ n1_ n2_; (try clear hb); (try clear hb2); (try clear hk); (try clear hi)))
            go_ret
            exact ⟨by first | rfl | (simp [errW_none, errW_some] <;> rfl) | (simp [*, errW_none, errW_some] <;> rfl), by repeat (first | (with_reducible first | exact HB.out | apply below_alloc | apply pw_below_drewN | apply below_drew1 | refine below_set ?_ GE265.out | refine below_set ?_ GE271.out) | exact HB.out)⟩
          ·replace c33 := Bool.eq_false_iff.mpr c33
           subst c33
           have H1 : (some false) = some r := by rw [if_neg (show ¬ (false = true) by decide)] at H; first | exact H | (simp only [eq_self] at H ⊢; exact H) | (simp only [eq_self, if_true] at H ⊢; exact H)
           clear H
           have H := H1
           clear H1
           obtain rfl := Option.some.inj H
           have p270 : 0 ≤ (x32_2 : Int) := (by first | exact of_decide_eq_true (by first | (with_reducible assumption) | assumption) | assumption | omega)
           have q270 : x32_2 < (l0_4.length : Int) := (by first | exact of_decide_eq_true (by first | (with_reducible assumption) | assumption) | assumption | omega)
           obtain ⟨ad270, e270, hx270_0, hx270_1⟩ := at_T45 HR0_4.out x32_2 p270 q270
           cases e270
           replace hx270_0 := (HB.out.cell (World.block_lt_of_cell? w _ hx270_0)).trans hx270_0
           replace hx270_1 := (HB.out.cell (World.block_lt_of_cell? w _ hx270_1)).trans hx270_1
           replace p270 := eq_true p270
           replace q270 := eq_true q270
           go_wp2_with (first | ((with_reducible refine gate_dst (N := 6) rfl ?_); refine box_event ?hg (N := 6) ?hd (cs := #[.string (⟨#[]⟩ : ByteArray), .string (⟨#[]⟩ : ByteArray)]) (t := 45) ?hr ?_; (case hd => rfl); (case hg => rfl); (case hr => first | (go_simp; done) | (go_simp; rfl)); intro gb271 hg w48 hbox hb; have n0_ := Aside0.mk (blk_below (g := gb265) (o := .cells #[.int .i64 a0_0, .int .i64 a0_1, .string a0_2, .string a0_3, .slice (some ad270) l0_4.length c0_4] 35 (0, 0)) (kz BK265.out) hb); have n1_ := Aside0.mk (below_step (bs GE265.out) hb); have n2_ := Aside0.mk (hbox); have n3_ := Aside0.mk ((by rw [hg]; exact (below_size (bs GE265.out)) : w.heap.size ≤ gb271)); have n4_ := Aside0.mk ((by rw [hg]; exact (below_size (bs GE265.out)) : w.heap.size ≤ gb271)); have n5_ := Aside0.mk ((by rw [hg]; exact Nat.ne_of_lt (blk_lt (g := gb265) (o := .cells #[.int .i64 a0_0, .int .i64 a0_1, .string a0_2, .string a0_3, .slice (some ad270) l0_4.length c0_4] 35 (0, 0)) (kz BK265.out)) : gb265 ≠ gb271)); have n6_ := Aside0.mk ((by rw [hg]; exact Nat.ne_of_gt (blk_lt (g := gb265) (o := .cells #[.int .i64 a0_0, .int .i64 a0_1, .string a0_2, .string a0_3, .slice (some ad270) l0_4.length c0_4] 35 (0, 0)) (kz BK265.out)) : gb271 ≠ gb265)); clear BK265; clear HB; have BK265 := n0_; have HB := n1_; have BK271 := n2_; have GW271 := n3_; have GE271 := n4_; have NB265_271 := n5_; have NB271_265 := n6_; clear n0_ n1_ n2_ n3_ n4_ n5_ n6_; clear hb hbox hg; have hnb49 := NB271_265.out; have hnc49 := NB265_271.out; have hcz50_0 : w48.cell? ⟨gb271, 0, none⟩ = some (.string (⟨#[]⟩ : ByteArray)) := (blk_cell BK271.out 0).trans rfl; have hcz50_1 : w48.cell? ⟨gb271, 1, none⟩ = some (.string (⟨#[]⟩ : ByteArray)) := (blk_cell BK271.out 1).trans rfl; have hfz50_0 := blk_frozen BK271.out 0; have hfz50_1 := blk_frozen BK271.out 1) | ((with_reducible refine gate_callee (f := 66) rfl ?_); refine goesL_ (some 38) rfl rfl Tryd.func66 (by kernel_rfl) rfl #[.string ((rd_T45 l0_4 x32_2).f0)] rfl (by (try simp only [List.map_toArray, List.map_cons, List.map_nil]); first | done | rfl | (simp only [List.length_drop, List.length_take]; rfl)) ?_; (with_reducible refine (names_Attr.calls k2 ((rd_T45 l0_4 x32_2).f0) true _ A30.out).mono ?_); rintro e w' ⟨rfl, ⟨nd, rfl⟩⟩; refine ⟨_, rfl, ?_⟩) | (go_at_call 35; (with_reducible refine (write_clean.calls ((rd_T45 l0_4 x32_2).f0) false _ A32.out (Go.Proofs.YtdnbaliibiginaaDoor.Std8.below HS_.out (by repeat (first | (with_reducible first | exact HB.out | apply below_alloc | apply pw_below_drewN | apply below_drew1 | refine below_set ?_ GE265.out | refine below_set ?_ GE271.out) | exact HB.out)))).mono ?_); rintro e w51 ⟨rfl, hb⟩; have n0_ := Aside0.mk (blk_below (g := gb265) (o := .cells #[.int .i64 a0_0, .int .i64 a0_1, .string a0_2, .string a0_3, .slice (some ad270) l0_4.length c0_4] 35 (0, 0)) (by (with_reducible repeat (first | refine blk_drewN ?_ _ | refine blk_drew ?_ | refine blk_alloc ?_ _)); refine blk_far ?_ NB265_271.out _; (with_reducible repeat (first | refine blk_drewN ?_ _ | refine blk_drew ?_ | refine blk_alloc ?_ _)); refine blk_far ?_ NB265_271.out _; (with_reducible repeat (first | refine blk_drewN ?_ _ | refine blk_drew ?_ | refine blk_alloc ?_ _)); exact BK265.out) hb); have n1_ := Aside0.mk (blk_below (g := gb271) (o := .cells #[.string ((rd_T45 l0_4 x32_2).f0), .string ((rd_T45 l0_4 x32_2).f1)] 45 (0, 0)) (by (with_reducible repeat (first | refine blk_drewN ?_ _ | refine blk_drew ?_ | refine blk_alloc ?_ _)); refine blk_put (cs := #[.string ((rd_T45 l0_4 x32_2).f0), .string (⟨#[]⟩ : ByteArray)]) ?_ 1 _ rfl; (with_reducible repeat (first | refine blk_drewN ?_ _ | refine blk_drew ?_ | refine blk_alloc ?_ _)); refine blk_put (cs := #[.string (⟨#[]⟩ : ByteArray), .string (⟨#[]⟩ : ByteArray)]) ?_ 0 _ rfl; (with_reducible repeat (first | refine blk_drewN ?_ _ | refine blk_drew ?_ | refine blk_alloc ?_ _)); exact BK271.out) hb); have n2_ := Aside0.mk (below_step (by repeat (first | (with_reducible first | exact HB.out | apply below_alloc | apply pw_below_drewN | apply below_drew1 | refine below_set ?_ GE265.out | refine below_set ?_ GE271.out) | exact HB.out)) hb); clear BK265; clear BK271; clear HB; have BK265 := n0_; have BK271 := n1_; have HB := n2_; clear n0_ n1_ n2_; (try clear hb); (try clear hb2); (try clear hk); (try clear hi)))
           go_ret
           exact ⟨by first | rfl | (simp [errW_none, errW_some] <;> rfl) | (simp [*, errW_none, errW_some] <;> rfl), by repeat (first | (with_reducible first | exact HB.out | apply below_alloc | apply pw_below_drewN | apply below_drew1 | refine below_set ?_ GE265.out | refine below_set ?_ GE271.out) | exact HB.out)⟩
         ·replace c31 := Bool.eq_false_iff.mpr c31
          subst c31
          have H1 : (some false) = some r := by rw [if_neg (show ¬ (false = true) by decide)] at H; first | exact H | (simp only [eq_self] at H ⊢; exact H) | (simp only [eq_self, if_true] at H ⊢; exact H)
          clear H
          have H := H1
          clear H1
          obtain rfl := Option.some.inj H
          have p270 : 0 ≤ (x32_2 : Int) := (by first | exact of_decide_eq_true (by first | (with_reducible assumption) | assumption) | assumption | omega)
          have q270 : x32_2 < (l0_4.length : Int) := (by first | exact of_decide_eq_true (by first | (with_reducible assumption) | assumption) | assumption | omega)
          obtain ⟨ad270, e270, hx270_0, hx270_1⟩ := at_T45 HR0_4.out x32_2 p270 q270
          cases e270
          replace hx270_0 := (HB.out.cell (World.block_lt_of_cell? w _ hx270_0)).trans hx270_0
          replace hx270_1 := (HB.out.cell (World.block_lt_of_cell? w _ hx270_1)).trans hx270_1
          replace p270 := eq_true p270
          replace q270 := eq_true q270
          go_wp2_with (first | ((with_reducible refine gate_dst (N := 6) rfl ?_); refine box_event ?hg (N := 6) ?hd (cs := #[.string (⟨#[]⟩ : ByteArray), .string (⟨#[]⟩ : ByteArray)]) (t := 45) ?hr ?_; (case hd => rfl); (case hg => rfl); (case hr => first | (go_simp; done) | (go_simp; rfl)); intro gb271 hg w52 hbox hb; have n0_ := Aside0.mk (blk_below (g := gb265) (o := .cells #[.int .i64 a0_0, .int .i64 a0_1, .string a0_2, .string a0_3, .slice (some ad270) l0_4.length c0_4] 35 (0, 0)) (kz BK265.out) hb); have n1_ := Aside0.mk (below_step (bs GE265.out) hb); have n2_ := Aside0.mk (hbox); have n3_ := Aside0.mk ((by rw [hg]; exact (below_size (bs GE265.out)) : w.heap.size ≤ gb271)); have n4_ := Aside0.mk ((by rw [hg]; exact (below_size (bs GE265.out)) : w.heap.size ≤ gb271)); have n5_ := Aside0.mk ((by rw [hg]; exact Nat.ne_of_lt (blk_lt (g := gb265) (o := .cells #[.int .i64 a0_0, .int .i64 a0_1, .string a0_2, .string a0_3, .slice (some ad270) l0_4.length c0_4] 35 (0, 0)) (kz BK265.out)) : gb265 ≠ gb271)); have n6_ := Aside0.mk ((by rw [hg]; exact Nat.ne_of_gt (blk_lt (g := gb265) (o := .cells #[.int .i64 a0_0, .int .i64 a0_1, .string a0_2, .string a0_3, .slice (some ad270) l0_4.length c0_4] 35 (0, 0)) (kz BK265.out)) : gb271 ≠ gb265)); clear BK265; clear HB; have BK265 := n0_; have HB := n1_; have BK271 := n2_; have GW271 := n3_; have GE271 := n4_; have NB265_271 := n5_; have NB271_265 := n6_; clear n0_ n1_ n2_ n3_ n4_ n5_ n6_; clear hb hbox hg; have hnb53 := NB271_265.out; have hnc53 := NB265_271.out; have hcz54_0 : w52.cell? ⟨gb271, 0, none⟩ = some (.string (⟨#[]⟩ : ByteArray)) := (blk_cell BK271.out 0).trans rfl; have hcz54_1 : w52.cell? ⟨gb271, 1, none⟩ = some (.string (⟨#[]⟩ : ByteArray)) := (blk_cell BK271.out 1).trans rfl; have hfz54_0 := blk_frozen BK271.out 0; have hfz54_1 := blk_frozen BK271.out 1) | ((with_reducible refine gate_callee (f := 66) rfl ?_); refine goesL_ (some 38) rfl rfl Tryd.func66 (by kernel_rfl) rfl #[.string ((rd_T45 l0_4 x32_2).f0)] rfl (by (try simp only [List.map_toArray, List.map_cons, List.map_nil]); first | done | rfl | (simp only [List.length_drop, List.length_take]; rfl)) ?_; (with_reducible refine (names_Attr.calls k2 ((rd_T45 l0_4 x32_2).f0) false _ A30.out).mono ?_); rintro e w' ⟨rfl, ⟨nd, rfl⟩⟩; refine ⟨_, rfl, ?_⟩))
          go_ret
          exact ⟨by first | rfl | (simp [errW_none, errW_some] <;> rfl) | (simp [*, errW_none, errW_some] <;> rfl), by repeat (first | (with_reducible first | exact HB.out | apply below_alloc | apply pw_below_drewN | apply below_drew1 | refine below_set ?_ GE265.out | refine below_set ?_ GE271.out) | exact HB.out)⟩
        ·rw [if_neg c29] at H
         exact absurd H (by simp)
       ·rw [if_neg c28] at H
        exact absurd H (by simp)
      ·rw [if_neg c27] at H
       have c27b0 : decide (x32_2 < (l0_4.length : Int)) = false := decide_eq_false c27
       clear c27
       obtain rfl := Option.some.inj H
       go_wp2
       go_ret
       exact ⟨by first | rfl | (simp [errW_none, errW_some] <;> rfl) | (simp [*, errW_none, errW_some] <;> rfl), bs GE265.out⟩
end Go.Proofs.YtdnbaliibiginaaDoorH.W8
