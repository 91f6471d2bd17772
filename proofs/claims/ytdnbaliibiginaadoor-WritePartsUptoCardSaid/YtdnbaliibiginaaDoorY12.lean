/- Lemmas and walks, part 12: QE8R, QHasP, QBackP, QMoreP. -/
import Derived.Deep.RegionHeld3
import Derived.Test.YtdnbaliibiginaaDoorY7
import Derived.Test.YtdnbaliibiginaaDoorY11
import Derived.Test.YtdnbaliibiginaaDoorY5
import Derived.Test.YtdnbaliibiginaaDoorY6
set_option linter.unusedVariables false
set_option linter.unusedSimpArgs false

/- Contract of the document's Kids: the nodes that a node has, told apart by their depths. Nothing that lay in memory turns. -/
namespace Go.Proofs.YtdnbaliibiginaaDoorH.W8
open Go.RowKit Go.Proofs Go.Proofs.YtdnbaliibiginaaDoor Go.Proofs.YtdnbaliibiginaaDoorW.PrintWords Go.Proofs.YtdnbaliibiginaaDoorW.PrintLast Go.Proofs.YtdnbaliibiginaaDoorW.PrintMore
open Go.Proofs.YtdnbaliibiginaaDoorW.PrintLast (i64_w i32_w)
def depthAt (xs : List Rw) (k : Nat) : Int := (rd_T35 xs k).f0
def boltingref04_Kids.f (l0 : List Rw) (a1 : Int) : Option (List Int) :=
 if l0.length ≤ 1000000000000 then
  if a1 < -1 ∨ (l0.length : Int) ≤ a1 then some []
  else if a1 = -1 then some (((List.range l0.length).filter fun k : Nat => decide (depthAt l0 k = 0)).map (fun k : Nat => (k : Int)))
  else (boltingref04_End.f (l0.length + 1) l0 a1).bind fun e => some (((List.range l0.length).filter fun k : Nat => decide (a1 < (k : Int)) && (decide ((k : Int) < e) && decide (depthAt l0 k = wrap64 (depthAt l0 a1.toNat + 1)))).map (fun k : Nat => (k : Int)))
 else none
def boltingref04_Kids.T8 : Bool × List (List Nat × List Nat) := (true, [([], []), ([0], [0]), ([1], [1]), ([2, 1], [1, 2]), ([3, 1, 1], [1, 3]), ([4], [4]), ([4], [4]), ([5, 6, 4], [4, 5, 6]), ([4, 7, 1], [1, 4, 7]), ([8, 4, 1], [1, 8]), ([9], [9]), ([9], [9]), ([9], [9]), ([11, 12, 9, 9], [9, 11, 12]), ([10, 13, 9], [9, 10, 13]), ([9, 14, 1], [1, 9, 14]), ([15, 13, 1], [1, 15]), ([16], [16]), ([16], [16]), ([17, 18, 16], [16, 17, 18]), ([19, 16], [16, 19]), ([20, 16], [16, 20]), ([16], [16]), ([16], [16]), ([22, 23, 16], [16, 22, 23]), ([24, 16], [16, 24]), ([25, 16], [16, 25]), ([26, 16], [16, 26]), ([21, 27, 16], [16, 21, 27]), ([16, 28, 1], [1, 16, 28]), ([1, 29], [1, 29])])
def boltingref04_Kids.B8 : List Nat := [0, 1, 3, 7, 15, 31, 31, 127, 255, 511, 1023, 1023, 1023, 7167, 16383, 32767, 65535, 131071, 131071, 524287, 1048575, 2097151, 131071, 131071, 12713983, 29491199, 63045631, 130154495, 268435455, 536870911, 1073741823]
theorem boltingref04_Kids.tab8 : rtab .any (opsOf Tryd.f14 8) = boltingref04_Kids.T8 := by kernel_rfl
theorem boltingref04_Kids.bits8 : waitsOk boltingref04_Kids.T8.2 boltingref04_Kids.B8 = true := by kernel_rfl
theorem int_empty (w : World) : (Kd.int .i64).R 3 (w.alloc (.cells #[] 3)) w.heap.size (fun _ => True) (.slice (some ⟨w.heap.size, 0, none⟩) 0 0) [] :=
 ⟨fun _ _ => trivial, [], ⟨rfl, .inr ⟨w.heap.size, 0, #[], rfl, Nat.le_refl _, new_cells w #[] 3, Nat.le_refl _, by unfold maxLen; omega, rfl, rfl⟩⟩, Reps.none _ _⟩
theorem drew_al (w : World) (o : Obj) : (w.alloc o).drew = w.drew.alloc o := rfl
theorem infoInt : (Tryd.prog.info? 3).map (fun i => (i.zero, i.size, i.bytes)) = some (some (.int .i64 0), 1, 8) := by kernel_rfl
theorem range_snoc (p : Nat → Bool) (n : Nat) : ((List.range (n + 1)).filter p).map (fun k : Nat => (k : Int)) = ((List.range n).filter p).map (fun k : Nat => (k : Int)) ++ (if p n then [(n : Int)] else []) := by
 rw [List.range_succ, List.filter_append, List.map_append]
 cases h : p n <;> simp [h]
set_option maxHeartbeats 1600000 in
set_option maxRecDepth 100000 in
theorem kidsA (A : Option Addr) (c : Nat) (xs : List Rw) (hcap : xs.length ≤ c) (hz : xs.length ≤ 1000000000000) (w : World) (hr : k35.C w A xs.length xs) :
  Calls Tryd.prog 14 #[.slice A xs.length c, .int .i64 (-1)] w fun e w' => ∃ v0_ : Value, e = .returned (v0_) ∧ (Kd.int .i64).R 3 w' w.heap.size (fun _ => True) v0_ (((List.range xs.length).filter fun k : Nat => decide (depthAt xs k = 0)).map (fun k : Nat => (k : Int))) ∧ Below w.heap.size w w' := by
 have hO0 := int_empty w
 have hB0 := (Below.refl w.heap.size w).alloc (Nat.le_refl _) (.cells #[] 3)
 go_enter Tryd.func14, Tryd.ntmps14
 go_wp2
 go_loopw [5, 6] (fun vo vi wr => ∃ (k : Nat), vi = .int .i64 k ∧ k ≤ xs.length ∧ (Kd.int .i64).R 3 wr w.heap.size (fun _ => True) vo (((List.range k).filter fun k : Nat => decide (depthAt xs k = 0)).map (fun k : Nat => (k : Int))) ∧ Below w.heap.size w wr) (fun _ vi _ => xs.length - (intOf vi).toNat)
 case atStart => exact ⟨0, rfl, Nat.zero_le _, hO0, hB0⟩
 case round =>
  obtain ⟨k, rfl, hk, hO, hB⟩ := hrel
  have hbz := hB.size
  by_cases hlt : k < xs.length
  ·obtain ⟨g, o, A4, c4, rfl, z0, -, -, -, -, -, -⟩ := row_at (Kd.C_below hr hB) k hlt
   have hd : depthAt xs k = xs[k].f0 := by simp [depthAt, rd_T35, hlt]
   have hsn := Lib.hid (range_snoc (fun k : Nat => decide (depthAt xs k = 0)) k)
   have hll : ((List.range k).filter fun k : Nat => decide (depthAt xs k = 0)).length ≤ k := by
    have := List.length_filter_le (fun k : Nat => decide (depthAt xs k = 0)) (List.range k)
    rwa [List.length_range] at this
   rw [← hd] at z0
   by_cases h0 : depthAt xs k = 0
   ·have hsn2 := hsn.out
    rw [if_pos (by simpa using h0)] at hsn2
    rw [h0] at z0
    have hO2 := Lib.hid hsn2
    clear hsn hsn2 hd h0
    generalize hG : (((List.range k).filter fun k : Nat => decide (depthAt xs k = 0)).map (fun k : Nat => (k : Int))) = acc at *
    have hal : acc.length ≤ k := by rw [← hG, List.length_map]; exact hll
    clear hG
    obtain ⟨A2, c2, rfl⟩ := Kd.R_slice hO
    go_wp2
    first
     | go_region
     | fail
    go_wp2_with (at_builtin; (try rw [drew_al]); refine Kd.R_append (Kd.int .i64) (w0 := w) w.heap.size rfl (.tmp 65) (.tmp 67) 29 3 (.int .i64 0) 8 rfl Tryd.underlying29 infoInt rfl (by decide) (by omega) (.slice A2 acc.length c2) acc (k : Int) [.int .i64 k] (fun _ => True) (fun _ => False) rfl ?aX ?aP ?aK ?aF ?aO ?aB ?aS ?aL ?_; (case aX => first | with_reducible rfl | rfl); (case aP => exact rfl); (case aK => exact fun _ hk => hk.elim); (case aF => exact fun _ _ => trivial); (case aO => with_reducible exact Kd.R_drew hO); (case aB => with_reducible exact below_drew hB); (case aS => exact hbz); (case aL => omega); intro v1 w2 hO3 hb2 hg2 hat2; obtain ⟨A3, c3, rfl⟩ := Kd.R_slice hO3)
    rw [List.length_append, List.length_singleton] at hO3
    exact ⟨⟨k + 1, rfl, by omega, by rw [hO2.out]; exact hO3, hb2⟩, by simp [intOf]; omega⟩
   ·have hsn2 := hsn.out
    rw [if_neg (by simpa using h0), List.append_nil] at hsn2
    have hO2 := Lib.hid hsn2
    have hbe : (depthAt xs k == 0) = false := beq_eq_false_iff_ne.2 h0
    clear hsn hsn2 hd
    generalize hG : (((List.range k).filter fun k : Nat => decide (depthAt xs k = 0)).map (fun k : Nat => (k : Int))) = acc at *
    clear hG
    generalize depthAt xs k = dk at *
    obtain ⟨A2, c2, rfl⟩ := Kd.R_slice hO
    go_wp2
    first
     | go_region
     | fail
    go_wp2
    exact ⟨⟨k + 1, rfl, by omega, by rw [hO2.out]; exact Kd.R_drew hO, below_drew hB⟩, by simp [intOf]; omega⟩
  ·have hkl : k = xs.length := by omega
   subst hkl
   go_wp2
   go_ret
   exact ⟨_, rfl, hO, hB⟩
set_option maxHeartbeats 1600000 in
set_option maxRecDepth 100000 in
theorem kidsB (A : Option Addr) (c : Nat) (xs : List Rw) (hcap : xs.length ≤ c) (hz : xs.length ≤ 1000000000000) (m : Nat) (hm : m < xs.length) (e : Int) (he : boltingref04_End.f (xs.length + 1) xs m = some e) (w : World) (hr : k35.C w A xs.length xs) :
  Calls Tryd.prog 14 #[.slice A xs.length c, .int .i64 m] w fun e_ w' => ∃ v0_ : Value, e_ = .returned (v0_) ∧ (Kd.int .i64).R 3 w' w.heap.size (fun _ => True) v0_ (((List.range xs.length).filter fun k : Nat => decide ((m : Int) < (k : Int)) && (decide ((k : Int) < e) && decide (depthAt xs k = wrap64 (depthAt xs m + 1)))).map (fun k : Nat => (k : Int))) ∧ Below w.heap.size w w' := by
 have hO0 := int_empty w
 have hB0 := (Below.refl w.heap.size w).alloc (Nat.le_refl _) (.cells #[] 3)
 have hend := Lib.hid (fun (W : World) (hW : Below w.heap.size w W) => boltingref04_End.calls (xs.length + 1) A c xs m e W (Kd.C_below hr hW) hcap he)
 have hmi : ((m : Int) == -1) = false := beq_eq_false_iff_ne.2 (by omega)
 clear he
 go_enter Tryd.func14, Tryd.ntmps14
 go_wp2
 go_loopw [5, 6] (fun vo vi wr => ∃ (k : Nat), vi = .int .i64 k ∧ k ≤ xs.length ∧ (Kd.int .i64).R 3 wr w.heap.size (fun _ => True) vo (((List.range k).filter fun k : Nat => decide ((m : Int) < (k : Int)) && (decide ((k : Int) < e) && decide (depthAt xs k = wrap64 (depthAt xs m + 1)))).map (fun k : Nat => (k : Int))) ∧ Below w.heap.size w wr) (fun _ vi _ => xs.length - (intOf vi).toNat)
 case atStart => exact ⟨0, rfl, Nat.zero_le _, hO0, hB0⟩
 case round =>
  obtain ⟨k, rfl, hk, hO, hB⟩ := hrel
  have hbz := hB.size
  by_cases hlt : k < xs.length
  ·obtain ⟨g, o, A4, c4, rfl, z0, -, -, -, -, -, -⟩ := row_at (Kd.C_below hr hB) k hlt
   obtain ⟨g', o', B4, d4, e', y0, -, -, -, -, -, -⟩ := row_at (Kd.C_below hr hB) m hm
   simp only [Option.some.injEq, Addr.mk.injEq, and_true] at e'
   obtain ⟨rfl, rfl⟩ := e'
   have hd : depthAt xs k = xs[k].f0 := by simp [depthAt, rd_T35, hlt]
   have hd2 : depthAt xs m = xs[m].f0 := by simp [depthAt, rd_T35, hm]
   have hsn := Lib.hid (range_snoc (fun k : Nat => decide ((m : Int) < (k : Int)) && (decide ((k : Int) < e) && decide (depthAt xs k = wrap64 (depthAt xs m + 1)))) k)
   have hll : ((List.range k).filter fun k : Nat => decide ((m : Int) < (k : Int)) && (decide ((k : Int) < e) && decide (depthAt xs k = wrap64 (depthAt xs m + 1)))).length ≤ k := by
    have := List.length_filter_le (fun k : Nat => decide ((m : Int) < (k : Int)) && (decide ((k : Int) < e) && decide (depthAt xs k = wrap64 (depthAt xs m + 1)))) (List.range k)
    rwa [List.length_range] at this
   rw [← hd] at z0
   rw [← hd2] at y0
   clear hd hd2
   generalize hG : (((List.range k).filter fun k : Nat => decide ((m : Int) < (k : Int)) && (decide ((k : Int) < e) && decide (depthAt xs k = wrap64 (depthAt xs m + 1)))).map (fun k : Nat => (k : Int))) = acc at *
   have hal : acc.length ≤ k := by rw [← hG, List.length_map]; exact hll
   have hsn2 := hsn.out
   clear hG hll hsn
   obtain ⟨A2, c2, rfl⟩ := Kd.R_slice hO
   by_cases h1 : (m : Int) < (k : Int)
   ·by_cases h2 : (k : Int) < e
    ·by_cases h3 : depthAt xs k = wrap64 (depthAt xs m + 1)
     ·rw [if_pos (by simp [h1, h2, h3])] at hsn2
      have hO2 := Lib.hid hsn2
      clear hsn2
      generalize depthAt xs m = dm at *
      generalize depthAt xs k = dk at *
      subst h3
      have hw1 : IntKind.i64.wrap (dm + 1) = wrap64 (dm + 1) := i64_w _
      go_wp2
      first
       | go_region_held3 (fun W' => W'.cell? ⟨g, o + k * 5, none⟩ = some (.int .i64 (wrap64 (dm + 1))) ∧ W'.cell? ⟨g, o + m * 5, none⟩ = some (.int .i64 dm)) (exact ⟨z0, y0⟩) ((go_at_call 16; ((with_reducible refine (hend.out _ (below_drew hB)).mono ?_); rintro e_ W5 ⟨rfl, hd5⟩; obtain ⟨m1, rfl⟩ := hd5.out)))
       | fail
      go_wp2_with (at_builtin; (try rw [drew_al]); refine Kd.R_append (Kd.int .i64) (w0 := w) w.heap.size rfl (.tmp 65) (.tmp 67) 29 3 (.int .i64 0) 8 rfl Tryd.underlying29 infoInt rfl (by decide) (by omega) (.slice A2 acc.length c2) acc (k : Int) [.int .i64 k] (fun _ => True) (fun _ => False) rfl ?aX ?aP ?aK ?aF ?aO ?aB ?aS ?aL ?_; (case aX => first | with_reducible rfl | rfl); (case aP => exact rfl); (case aK => exact fun _ hk => hk.elim); (case aF => exact fun _ _ => trivial); (case aO => first | with_reducible exact Kd.R_drewN hO _ | with_reducible exact Kd.R_drew hO); (case aB => first | with_reducible exact pw_below_drewN hB _ | with_reducible exact below_drew hB); (case aS => exact hbz); (case aL => omega); intro v1 w2 hO3 hb2 hg2 hat2; obtain ⟨A3, c3, rfl⟩ := Kd.R_slice hO3)
      rw [List.length_append, List.length_singleton] at hO3
      exact ⟨⟨k + 1, rfl, by omega, by rw [hO2.out]; exact hO3, hb2⟩, by simp [intOf]; omega⟩
     ·rw [if_neg (by simp [h1, h2, h3]), List.append_nil] at hsn2
      have hO2 := Lib.hid hsn2
      clear hsn2
      have hbe : (depthAt xs k == wrap64 (depthAt xs m + 1)) = false := beq_eq_false_iff_ne.2 h3
      generalize depthAt xs m = dm at *
      generalize depthAt xs k = dk at *
      have hw1 : IntKind.i64.wrap (dm + 1) = wrap64 (dm + 1) := i64_w _
      go_wp2
      first
       | go_region_held3 (fun W' => W'.cell? ⟨g, o + k * 5, none⟩ = some (.int .i64 dk) ∧ W'.cell? ⟨g, o + m * 5, none⟩ = some (.int .i64 dm)) (exact ⟨z0, y0⟩) ((go_at_call 16; ((with_reducible refine (hend.out _ (below_drew hB)).mono ?_); rintro e_ W5 ⟨rfl, hd5⟩; obtain ⟨m1, rfl⟩ := hd5.out)))
       | fail
      go_wp2
      first
       | exact ⟨⟨k + 1, rfl, by omega, by rw [hO2.out]; exact Kd.R_drewN hO _, pw_below_drewN hB _⟩, by simp [intOf]; omega⟩
       | exact ⟨⟨k + 1, rfl, by omega, by rw [hO2.out]; exact Kd.R_drew hO, below_drew hB⟩, by simp [intOf]; omega⟩
    ·rw [if_neg (by simp [h1, h2]), List.append_nil] at hsn2
     have hO2 := Lib.hid hsn2
     clear hsn2
     have hge : decide ((k : Int) < e) = false := decide_eq_false h2
     generalize depthAt xs m = dm at *
     generalize depthAt xs k = dk at *
     go_wp2
     -- ROUND A
     refine start_ (n := 31) (S := fun w' => True) (ds := []) (fl 31 0) (by kernel_rfl) rfl rfl trivial (fun hHeld => ?_); refine with_tabW boltingref04_Kids.tab8 boltingref04_Kids.bits8 (fun HT_ HW_ => ?_)
     refine pure_ (i := 0) (N := some 34) (v := ?_) (a' := ?_) (fl 31 1) rfl rfl (any_of HT_.out (by kernel_rfl)) (fun _ _ _ h => h) (Or.inl ⟨by rfl, ?_⟩) ?_ ?_
     rotate_left
     ·intro w'
      go_simp
      with_reducible rfl
     rotate_left
     ·simp only [Act.put, List.setIfInBounds_toArray, List.set_cons_zero, List.set_cons_succ, i64_w, i32_w]
      rfl
     refine pure_ (i := 1) (N := some 35) (v := ?_) (a' := ?_) (fl 31 2) rfl rfl (any_of HT_.out (by kernel_rfl)) (fun _ _ _ h => h) (Or.inl ⟨by rfl, ?_⟩) ?_ ?_
     rotate_left
     ·intro w'
      go_simp
      with_reducible rfl
     rotate_left
     ·simp only [Act.put, List.setIfInBounds_toArray, List.set_cons_zero, List.set_cons_succ, i64_w, i32_w]
      rfl
     refine pure_ (i := 2) (N := some 36) (v := ?_) (a' := ?_) (fl 31 3) rfl rfl (any_of HT_.out (by kernel_rfl)) (fun _ _ _ h => h) (Or.inl ⟨by rfl, ?_⟩) ?_ ?_
     rotate_left
     ·intro w'
      go_simp
      with_reducible rfl
     rotate_left
     ·simp only [Act.put, List.setIfInBounds_toArray, List.set_cons_zero, List.set_cons_succ, i64_w, i32_w]
      rfl
     refine pure_ (i := 3) (N := some 37) (v := ?_) (a' := ?_) (fl 31 4) rfl rfl (any_of HT_.out (by kernel_rfl)) (fun _ _ _ h => h) (Or.inl ⟨by rfl, ?_⟩) ?_ ?_
     rotate_left
     ·intro w'
      go_simp
      with_reducible rfl
     rotate_left
     ·simp only [Act.put, List.setIfInBounds_toArray, List.set_cons_zero, List.set_cons_succ, i64_w, i32_w]
      rfl
     refine pure_ (i := 4) (N := some 38) (v := ?_) (a' := ?_) (fl 31 5) rfl rfl (any_of HT_.out (by kernel_rfl)) (fun _ _ _ h => h) (Or.inl ⟨by rfl, ?_⟩) ?_ ?_
     rotate_left
     ·intro w'
      go_simp
      with_reducible rfl
     rotate_left
     ·simp only [Act.put, List.setIfInBounds_toArray, List.set_cons_zero, List.set_cons_succ, i64_w, i32_w]
      rfl
     refine pure_ (i := 5) (N := some 39) (v := ?_) (a' := ?_) (fl 31 6) rfl rfl (any_of HT_.out (by kernel_rfl)) (fun _ _ _ h => h) (Or.inl ⟨by rfl, ?_⟩) ?_ ?_
     rotate_left
     ·intro w'
      go_simp
      with_reducible rfl
     rotate_left
     ·simp only [Act.put, List.setIfInBounds_toArray, List.set_cons_zero, List.set_cons_succ, i64_w, i32_w]
      rfl
     refine pure_ (i := 6) (N := some 40) (v := ?_) (a' := ?_) (fl 31 7) rfl rfl (any_of HT_.out (by kernel_rfl)) (fun _ _ _ h => h) (Or.inl ⟨by rfl, ?_⟩) ?_ ?_
     rotate_left
     ·intro w'
      go_simp
      with_reducible rfl
     rotate_left
     ·simp only [Act.put, List.setIfInBounds_toArray, List.set_cons_zero, List.set_cons_succ, i64_w, i32_w]
      rfl
     refine pure_ (i := 7) (N := some 41) (v := ?_) (a' := ?_) (fl 31 8) rfl rfl (any_of HT_.out (by kernel_rfl)) (fun _ _ _ h => h) (Or.inl ⟨by rfl, ?_⟩) ?_ ?_
     rotate_left
     ·intro w'
      go_simp
      with_reducible rfl
     rotate_left
     ·simp only [Act.put, List.setIfInBounds_toArray, List.set_cons_zero, List.set_cons_succ, i64_w, i32_w]
      rfl
     refine pure_ (i := 8) (N := some 42) (v := ?_) (a' := ?_) (fl 31 9) rfl rfl (any_of HT_.out (by kernel_rfl)) (fun _ _ _ h => h) (Or.inl ⟨by rfl, ?_⟩) ?_ ?_
     rotate_left
     ·intro w'
      go_simp
      with_reducible rfl
     rotate_left
     ·simp only [Act.put, List.setIfInBounds_toArray, List.set_cons_zero, List.set_cons_succ, i64_w, i32_w]
      rfl
     refine pure_ (i := 9) (N := some 43) (v := ?_) (a' := ?_) (fl 31 10) rfl rfl (any_of HT_.out (by kernel_rfl)) (fun _ _ _ h => h) (Or.inl ⟨by rfl, ?_⟩) ?_ ?_
     rotate_left
     ·intro w'
      go_simp
      with_reducible rfl
     rotate_left
     ·simp only [Act.put, List.setIfInBounds_toArray, List.set_cons_zero, List.set_cons_succ, i64_w, i32_w]
      rfl
     refine pure_ (i := 10) (N := some 44) (v := ?_) (a' := ?_) (fl 31 11) rfl rfl (any_of HT_.out (by kernel_rfl)) (fun _ _ _ h => h) (Or.inl ⟨by rfl, ?_⟩) ?_ ?_
     rotate_left
     ·intro w'
      go_simp
      with_reducible rfl
     rotate_left
     ·simp only [Act.put, List.setIfInBounds_toArray, List.set_cons_zero, List.set_cons_succ, i64_w, i32_w]
      rfl
     refine pure_ (i := 11) (N := some 45) (v := ?_) (a' := ?_) (fl 31 12) rfl rfl (any_of HT_.out (by kernel_rfl)) (fun _ _ _ h => h) (Or.inl ⟨by rfl, ?_⟩) ?_ ?_
     rotate_left
     ·intro w'
      go_simp
      with_reducible rfl
     rotate_left
     ·simp only [Act.put, List.setIfInBounds_toArray, List.set_cons_zero, List.set_cons_succ, i64_w, i32_w]
      rfl
     refine pure_ (i := 12) (N := some 46) (v := ?_) (a' := ?_) (fl 31 13) rfl rfl (any_of HT_.out (by kernel_rfl)) (fun _ _ _ h => h) (Or.inl ⟨by rfl, ?_⟩) ?_ ?_
     rotate_left
     ·intro w'
      go_simp
      with_reducible rfl
     rotate_left
     ·simp only [Act.put, List.setIfInBounds_toArray, List.set_cons_zero, List.set_cons_succ, i64_w, i32_w]
      rfl
     refine one_ (i := 13) (N := some 47) (fl 31 14) rfl rfl (one_of HT_.out (by kernel_rfl)) (by decide) (fun K hK => ?_)
     refine goes_ Tryd.func16 (by kernel_rfl) rfl #[.slice (some ⟨g, o, none⟩) xs.length c, .int .i64 m] (by rfl) rfl rfl (by (try simp only [List.map_toArray, List.map_cons, List.map_nil]); first | done | rfl) ?_
     with_reducible refine (hend.out _ (below_drew hB)).mono ?_
     rintro e_ w5 ⟨rfl, hd5⟩
     obtain ⟨m1, rfl⟩ := hd5.out
     refine ⟨_, rfl, ?_⟩
     refine hK.out _ _ trivial (fun hHeld => ?_)
     clear hK K
     refine norm_ (a' := ?_) ?_ ?_
     rotate_left
     ·show Act.put _ (some 47) _ = _
      simp only [Act.put, List.setIfInBounds_toArray, List.set_cons_zero, List.set_cons_succ, i64_w, i32_w]
      rfl
     refine pure_ (i := 14) (N := some 48) (v := ?_) (a' := ?_) (fl 31 15) rfl rfl (any_of HT_.out (by kernel_rfl)) (fun _ _ _ h => h) (Or.inl ⟨by rfl, ?_⟩) ?_ ?_
     rotate_left
     ·intro w'
      go_simp
      with_reducible rfl
     rotate_left
     ·simp only [Act.put, List.setIfInBounds_toArray, List.set_cons_zero, List.set_cons_succ, i64_w, i32_w]
      rfl
     refine pure_ (i := 15) (N := some 49) (v := ?_) (a' := ?_) (fl 31 16) rfl rfl (any_of HT_.out (by kernel_rfl)) (fun _ _ _ h => h) (Or.inl ⟨by rfl, ?_⟩) ?_ ?_
     rotate_left
     ·intro w'
      go_simp
      with_reducible rfl
     rotate_left
     ·simp only [Act.put, List.setIfInBounds_toArray, List.set_cons_zero, List.set_cons_succ, i64_w, i32_w]
      rfl
     refine pure_ (i := 16) (N := some 50) (v := ?_) (a' := ?_) (fl 31 17) rfl rfl (any_of HT_.out (by kernel_rfl)) (fun _ _ _ h => h) (Or.inl ⟨by rfl, ?_⟩) ?_ ?_
     rotate_left
     ·intro w'
      go_simp
      with_reducible rfl
     rotate_left
     ·simp only [Act.put, List.setIfInBounds_toArray, List.set_cons_zero, List.set_cons_succ, i64_w, i32_w]
      rfl
     refine pure_ (i := 17) (N := some 51) (v := undef) (a' := ?_) (fl 31 18) rfl rfl (any_of HT_.out (by kernel_rfl)) (fun _ _ _ h => h) (Or.inr ⟨by rfl, rfl⟩) ?_ ?_
     rotate_left
     ·simp only [Act.put, List.setIfInBounds_toArray, List.set_cons_zero, List.set_cons_succ, i64_w, i32_w]
      rfl
     refine pure_ (i := 18) (N := some 52) (v := undef) (a' := ?_) (fl 31 19) rfl rfl (any_of HT_.out (by kernel_rfl)) (fun _ _ _ h => h) (Or.inr ⟨by rfl, rfl⟩) ?_ ?_
     rotate_left
     ·simp only [Act.put, List.setIfInBounds_toArray, List.set_cons_zero, List.set_cons_succ, i64_w, i32_w]
      rfl
     refine pure_ (i := 19) (N := some 53) (v := undef) (a' := ?_) (fl 31 20) rfl rfl (any_of HT_.out (by kernel_rfl)) (fun _ _ _ h => h) (Or.inr ⟨by rfl, rfl⟩) ?_ ?_
     rotate_left
     ·simp only [Act.put, List.setIfInBounds_toArray, List.set_cons_zero, List.set_cons_succ, i64_w, i32_w]
      rfl
     refine pure_ (i := 20) (N := some 54) (v := undef) (a' := ?_) (fl 31 21) rfl rfl (any_of HT_.out (by kernel_rfl)) (fun _ _ _ h => h) (Or.inr ⟨by rfl, rfl⟩) ?_ ?_
     rotate_left
     ·simp only [Act.put, List.setIfInBounds_toArray, List.set_cons_zero, List.set_cons_succ, i64_w, i32_w]
      rfl
     refine pure_ (i := 21) (N := some 55) (v := undef) (a' := ?_) (fl 31 22) rfl rfl (any_of HT_.out (by kernel_rfl)) (fun _ _ _ h => h) (Or.inr ⟨by rfl, rfl⟩) ?_ ?_
     rotate_left
     ·simp only [Act.put, List.setIfInBounds_toArray, List.set_cons_zero, List.set_cons_succ, i64_w, i32_w]
      rfl
     refine pure_ (i := 22) (N := some 56) (v := undef) (a' := ?_) (fl 31 23) rfl rfl (any_of HT_.out (by kernel_rfl)) (fun _ _ _ h => h) (Or.inr ⟨by rfl, rfl⟩) ?_ ?_
     rotate_left
     ·simp only [Act.put, List.setIfInBounds_toArray, List.set_cons_zero, List.set_cons_succ, i64_w, i32_w]
      rfl
     refine pure_ (i := 23) (N := some 57) (v := undef) (a' := ?_) (fl 31 24) rfl rfl (any_of HT_.out (by kernel_rfl)) (fun _ _ _ h => h) (Or.inr ⟨by rfl, rfl⟩) ?_ ?_
     rotate_left
     ·simp only [Act.put, List.setIfInBounds_toArray, List.set_cons_zero, List.set_cons_succ, i64_w, i32_w]
      rfl
     refine pure_ (i := 24) (N := some 58) (v := undef) (a' := ?_) (fl 31 25) rfl rfl (any_of HT_.out (by kernel_rfl)) (fun _ _ _ h => h) (Or.inr ⟨by rfl, rfl⟩) ?_ ?_
     rotate_left
     ·simp only [Act.put, List.setIfInBounds_toArray, List.set_cons_zero, List.set_cons_succ, i64_w, i32_w]
      rfl
     refine pure_ (i := 25) (N := some 59) (v := undef) (a' := ?_) (fl 31 26) rfl rfl (any_of HT_.out (by kernel_rfl)) (fun _ _ _ h => h) (Or.inr ⟨by rfl, rfl⟩) ?_ ?_
     rotate_left
     ·simp only [Act.put, List.setIfInBounds_toArray, List.set_cons_zero, List.set_cons_succ, i64_w, i32_w]
      rfl
     refine pure_ (i := 26) (N := some 60) (v := undef) (a' := ?_) (fl 31 27) rfl rfl (any_of HT_.out (by kernel_rfl)) (fun _ _ _ h => h) (Or.inr ⟨by rfl, rfl⟩) ?_ ?_
     rotate_left
     ·simp only [Act.put, List.setIfInBounds_toArray, List.set_cons_zero, List.set_cons_succ, i64_w, i32_w]
      rfl
     refine pure_ (i := 27) (N := some 61) (v := undef) (a' := ?_) (fl 31 28) rfl rfl (any_of HT_.out (by kernel_rfl)) (fun _ _ _ h => h) (Or.inr ⟨by rfl, rfl⟩) ?_ ?_
     rotate_left
     ·simp only [Act.put, List.setIfInBounds_toArray, List.set_cons_zero, List.set_cons_succ, i64_w, i32_w]
      rfl
     refine pure_ (i := 28) (N := some 62) (v := undef) (a' := ?_) (fl 31 29) rfl rfl (any_of HT_.out (by kernel_rfl)) (fun _ _ _ h => h) (Or.inr ⟨by rfl, rfl⟩) ?_ ?_
     rotate_left
     ·simp only [Act.put, List.setIfInBounds_toArray, List.set_cons_zero, List.set_cons_succ, i64_w, i32_w]
      rfl
     refine pure_ (i := 29) (N := some 63) (v := ?_) (a' := ?_) (fl 31 30) rfl rfl (any_of HT_.out (by kernel_rfl)) (fun _ _ _ h => h) (Or.inl ⟨by rfl, ?_⟩) ?_ ?_
     rotate_left
     ·intro w'
      go_simp
      with_reducible rfl
     rotate_left
     ·simp only [Act.put, List.setIfInBounds_toArray, List.set_cons_zero, List.set_cons_succ, i64_w, i32_w]
      rfl
     refine pure_ (i := 30) (N := some 64) (v := ?_) (a' := ?_) (fl 31 31) rfl rfl (any_of HT_.out (by kernel_rfl)) (fun _ _ _ h => h) (Or.inl ⟨by rfl, ?_⟩) ?_ ?_
     rotate_left
     ·intro w'
      go_simp
      with_reducible rfl
     rotate_left
     ·simp only [Act.put, List.setIfInBounds_toArray, List.set_cons_zero, List.set_cons_succ, i64_w, i32_w]
      rfl
     refine done_ (done_of HT_.out (by kernel_rfl)) ?_
     -- END A
     go_wp2
     first
      | exact ⟨⟨k + 1, rfl, by omega, by rw [hO2.out]; exact Kd.R_drewN hO _, pw_below_drewN hB _⟩, by simp [intOf]; omega⟩
      | exact ⟨⟨k + 1, rfl, by omega, by rw [hO2.out]; exact Kd.R_drew hO, below_drew hB⟩, by simp [intOf]; omega⟩
      | exact ⟨⟨k + 1, rfl, by omega, by rw [hO2.out]; exact Kd.R_drewN (Kd.R_drew hO) _, pw_below_drewN (below_drew hB) _⟩, by simp [intOf]; omega⟩
   ·rw [if_neg (by simp [h1]), List.append_nil] at hsn2
    have hO2 := Lib.hid hsn2
    clear hsn2
    have hge : decide ((m : Int) < (k : Int)) = false := decide_eq_false h1
    have hge2 : decide (m < k) = false := decide_eq_false (by omega)
    generalize depthAt xs m = dm at *
    generalize depthAt xs k = dk at *
    go_wp2
    -- ROUND B
    refine start_ (n := 31) (S := fun w' => True) (ds := []) (fl 31 0) (by kernel_rfl) rfl rfl trivial (fun hHeld => ?_); refine with_tabW boltingref04_Kids.tab8 boltingref04_Kids.bits8 (fun HT_ HW_ => ?_)
    refine pure_ (i := 0) (N := some 34) (v := ?_) (a' := ?_) (fl 31 1) rfl rfl (any_of HT_.out (by kernel_rfl)) (fun _ _ _ h => h) (Or.inl ⟨by rfl, ?_⟩) ?_ ?_
    rotate_left
    ·intro w'
     go_simp
     with_reducible rfl
    rotate_left
    ·simp only [Act.put, List.setIfInBounds_toArray, List.set_cons_zero, List.set_cons_succ, i64_w, i32_w]
     rfl
    refine pure_ (i := 1) (N := some 35) (v := ?_) (a' := ?_) (fl 31 2) rfl rfl (any_of HT_.out (by kernel_rfl)) (fun _ _ _ h => h) (Or.inl ⟨by rfl, ?_⟩) ?_ ?_
    rotate_left
    ·intro w'
     go_simp
     with_reducible rfl
    rotate_left
    ·simp only [Act.put, List.setIfInBounds_toArray, List.set_cons_zero, List.set_cons_succ, i64_w, i32_w]
     rfl
    refine pure_ (i := 2) (N := some 36) (v := ?_) (a' := ?_) (fl 31 3) rfl rfl (any_of HT_.out (by kernel_rfl)) (fun _ _ _ h => h) (Or.inl ⟨by rfl, ?_⟩) ?_ ?_
    rotate_left
    ·intro w'
     go_simp
     with_reducible rfl
    rotate_left
    ·simp only [Act.put, List.setIfInBounds_toArray, List.set_cons_zero, List.set_cons_succ, i64_w, i32_w]
     rfl
    refine pure_ (i := 3) (N := some 37) (v := ?_) (a' := ?_) (fl 31 4) rfl rfl (any_of HT_.out (by kernel_rfl)) (fun _ _ _ h => h) (Or.inl ⟨by rfl, ?_⟩) ?_ ?_
    rotate_left
    ·intro w'
     go_simp
     with_reducible rfl
    rotate_left
    ·simp only [Act.put, List.setIfInBounds_toArray, List.set_cons_zero, List.set_cons_succ, i64_w, i32_w]
     rfl
    refine pure_ (i := 4) (N := some 38) (v := ?_) (a' := ?_) (fl 31 5) rfl rfl (any_of HT_.out (by kernel_rfl)) (fun _ _ _ h => h) (Or.inl ⟨by rfl, ?_⟩) ?_ ?_
    rotate_left
    ·intro w'
     go_simp
     with_reducible rfl
    rotate_left
    ·simp only [Act.put, List.setIfInBounds_toArray, List.set_cons_zero, List.set_cons_succ, i64_w, i32_w]
     rfl
    refine pure_ (i := 5) (N := some 39) (v := ?_) (a' := ?_) (fl 31 6) rfl rfl (any_of HT_.out (by kernel_rfl)) (fun _ _ _ h => h) (Or.inl ⟨by rfl, ?_⟩) ?_ ?_
    rotate_left
    ·intro w'
     go_simp
     with_reducible rfl
    rotate_left
    ·simp only [Act.put, List.setIfInBounds_toArray, List.set_cons_zero, List.set_cons_succ, i64_w, i32_w]
     rfl
    refine pure_ (i := 6) (N := some 40) (v := ?_) (a' := ?_) (fl 31 7) rfl rfl (any_of HT_.out (by kernel_rfl)) (fun _ _ _ h => h) (Or.inl ⟨by rfl, ?_⟩) ?_ ?_
    rotate_left
    ·intro w'
     go_simp
     with_reducible rfl
    rotate_left
    ·simp only [Act.put, List.setIfInBounds_toArray, List.set_cons_zero, List.set_cons_succ, i64_w, i32_w]
     rfl
    refine pure_ (i := 7) (N := some 41) (v := ?_) (a' := ?_) (fl 31 8) rfl rfl (any_of HT_.out (by kernel_rfl)) (fun _ _ _ h => h) (Or.inl ⟨by rfl, ?_⟩) ?_ ?_
    rotate_left
    ·intro w'
     go_simp
     with_reducible rfl
    rotate_left
    ·simp only [Act.put, List.setIfInBounds_toArray, List.set_cons_zero, List.set_cons_succ, i64_w, i32_w]
     rfl
    refine pure_ (i := 8) (N := some 42) (v := ?_) (a' := ?_) (fl 31 9) rfl rfl (any_of HT_.out (by kernel_rfl)) (fun _ _ _ h => h) (Or.inl ⟨by rfl, ?_⟩) ?_ ?_
    rotate_left
    ·intro w'
     go_simp
     with_reducible rfl
    rotate_left
    ·simp only [Act.put, List.setIfInBounds_toArray, List.set_cons_zero, List.set_cons_succ, i64_w, i32_w]
     rfl
    refine pure_ (i := 9) (N := some 43) (v := ?_) (a' := ?_) (fl 31 10) rfl rfl (any_of HT_.out (by kernel_rfl)) (fun _ _ _ h => h) (Or.inl ⟨by rfl, ?_⟩) ?_ ?_
    rotate_left
    ·intro w'
     go_simp
     with_reducible rfl
    rotate_left
    ·simp only [Act.put, List.setIfInBounds_toArray, List.set_cons_zero, List.set_cons_succ, i64_w, i32_w]
     rfl
    refine pure_ (i := 10) (N := some 44) (v := undef) (a' := ?_) (fl 31 11) rfl rfl (any_of HT_.out (by kernel_rfl)) (fun _ _ _ h => h) (Or.inr ⟨by rfl, rfl⟩) ?_ ?_
    rotate_left
    ·simp only [Act.put, List.setIfInBounds_toArray, List.set_cons_zero, List.set_cons_succ, i64_w, i32_w]
     rfl
    refine pure_ (i := 11) (N := some 45) (v := undef) (a' := ?_) (fl 31 12) rfl rfl (any_of HT_.out (by kernel_rfl)) (fun _ _ _ h => h) (Or.inr ⟨by rfl, rfl⟩) ?_ ?_
    rotate_left
    ·simp only [Act.put, List.setIfInBounds_toArray, List.set_cons_zero, List.set_cons_succ, i64_w, i32_w]
     rfl
    refine pure_ (i := 12) (N := some 46) (v := undef) (a' := ?_) (fl 31 13) rfl rfl (any_of HT_.out (by kernel_rfl)) (fun _ _ _ h => h) (Or.inr ⟨by rfl, rfl⟩) ?_ ?_
    rotate_left
    ·simp only [Act.put, List.setIfInBounds_toArray, List.set_cons_zero, List.set_cons_succ, i64_w, i32_w]
     rfl
    refine pure_ (i := 13) (N := some 47) (v := undef) (a' := ?_) (fl 31 14) rfl rfl (any_of HT_.out (by kernel_rfl)) (fun _ _ _ h => h) (Or.inr ⟨by rfl, rfl⟩) ?_ ?_
    rotate_left
    ·simp only [Act.put, List.setIfInBounds_toArray, List.set_cons_zero, List.set_cons_succ, i64_w, i32_w]
     rfl
    refine pure_ (i := 14) (N := some 48) (v := undef) (a' := ?_) (fl 31 15) rfl rfl (any_of HT_.out (by kernel_rfl)) (fun _ _ _ h => h) (Or.inr ⟨by rfl, rfl⟩) ?_ ?_
    rotate_left
    ·simp only [Act.put, List.setIfInBounds_toArray, List.set_cons_zero, List.set_cons_succ, i64_w, i32_w]
     rfl
    refine pure_ (i := 15) (N := some 49) (v := ?_) (a' := ?_) (fl 31 16) rfl rfl (any_of HT_.out (by kernel_rfl)) (fun _ _ _ h => h) (Or.inl ⟨by rfl, ?_⟩) ?_ ?_
    rotate_left
    ·intro w'
     go_simp
     with_reducible rfl
    rotate_left
    ·simp only [Act.put, List.setIfInBounds_toArray, List.set_cons_zero, List.set_cons_succ, i64_w, i32_w]
     rfl
    refine pure_ (i := 16) (N := some 50) (v := ?_) (a' := ?_) (fl 31 17) rfl rfl (any_of HT_.out (by kernel_rfl)) (fun _ _ _ h => h) (Or.inl ⟨by rfl, ?_⟩) ?_ ?_
    rotate_left
    ·intro w'
     go_simp
     with_reducible rfl
    rotate_left
    ·simp only [Act.put, List.setIfInBounds_toArray, List.set_cons_zero, List.set_cons_succ, i64_w, i32_w]
     rfl
    refine pure_ (i := 17) (N := some 51) (v := undef) (a' := ?_) (fl 31 18) rfl rfl (any_of HT_.out (by kernel_rfl)) (fun _ _ _ h => h) (Or.inr ⟨by rfl, rfl⟩) ?_ ?_
    rotate_left
    ·simp only [Act.put, List.setIfInBounds_toArray, List.set_cons_zero, List.set_cons_succ, i64_w, i32_w]
     rfl
    refine pure_ (i := 18) (N := some 52) (v := undef) (a' := ?_) (fl 31 19) rfl rfl (any_of HT_.out (by kernel_rfl)) (fun _ _ _ h => h) (Or.inr ⟨by rfl, rfl⟩) ?_ ?_
    rotate_left
    ·simp only [Act.put, List.setIfInBounds_toArray, List.set_cons_zero, List.set_cons_succ, i64_w, i32_w]
     rfl
    refine pure_ (i := 19) (N := some 53) (v := undef) (a' := ?_) (fl 31 20) rfl rfl (any_of HT_.out (by kernel_rfl)) (fun _ _ _ h => h) (Or.inr ⟨by rfl, rfl⟩) ?_ ?_
    rotate_left
    ·simp only [Act.put, List.setIfInBounds_toArray, List.set_cons_zero, List.set_cons_succ, i64_w, i32_w]
     rfl
    refine pure_ (i := 20) (N := some 54) (v := undef) (a' := ?_) (fl 31 21) rfl rfl (any_of HT_.out (by kernel_rfl)) (fun _ _ _ h => h) (Or.inr ⟨by rfl, rfl⟩) ?_ ?_
    rotate_left
    ·simp only [Act.put, List.setIfInBounds_toArray, List.set_cons_zero, List.set_cons_succ, i64_w, i32_w]
     rfl
    refine pure_ (i := 21) (N := some 55) (v := undef) (a' := ?_) (fl 31 22) rfl rfl (any_of HT_.out (by kernel_rfl)) (fun _ _ _ h => h) (Or.inr ⟨by rfl, rfl⟩) ?_ ?_
    rotate_left
    ·simp only [Act.put, List.setIfInBounds_toArray, List.set_cons_zero, List.set_cons_succ, i64_w, i32_w]
     rfl
    refine pure_ (i := 22) (N := some 56) (v := undef) (a' := ?_) (fl 31 23) rfl rfl (any_of HT_.out (by kernel_rfl)) (fun _ _ _ h => h) (Or.inr ⟨by rfl, rfl⟩) ?_ ?_
    rotate_left
    ·simp only [Act.put, List.setIfInBounds_toArray, List.set_cons_zero, List.set_cons_succ, i64_w, i32_w]
     rfl
    refine pure_ (i := 23) (N := some 57) (v := undef) (a' := ?_) (fl 31 24) rfl rfl (any_of HT_.out (by kernel_rfl)) (fun _ _ _ h => h) (Or.inr ⟨by rfl, rfl⟩) ?_ ?_
    rotate_left
    ·simp only [Act.put, List.setIfInBounds_toArray, List.set_cons_zero, List.set_cons_succ, i64_w, i32_w]
     rfl
    refine pure_ (i := 24) (N := some 58) (v := undef) (a' := ?_) (fl 31 25) rfl rfl (any_of HT_.out (by kernel_rfl)) (fun _ _ _ h => h) (Or.inr ⟨by rfl, rfl⟩) ?_ ?_
    rotate_left
    ·simp only [Act.put, List.setIfInBounds_toArray, List.set_cons_zero, List.set_cons_succ, i64_w, i32_w]
     rfl
    refine pure_ (i := 25) (N := some 59) (v := undef) (a' := ?_) (fl 31 26) rfl rfl (any_of HT_.out (by kernel_rfl)) (fun _ _ _ h => h) (Or.inr ⟨by rfl, rfl⟩) ?_ ?_
    rotate_left
    ·simp only [Act.put, List.setIfInBounds_toArray, List.set_cons_zero, List.set_cons_succ, i64_w, i32_w]
     rfl
    refine pure_ (i := 26) (N := some 60) (v := undef) (a' := ?_) (fl 31 27) rfl rfl (any_of HT_.out (by kernel_rfl)) (fun _ _ _ h => h) (Or.inr ⟨by rfl, rfl⟩) ?_ ?_
    rotate_left
    ·simp only [Act.put, List.setIfInBounds_toArray, List.set_cons_zero, List.set_cons_succ, i64_w, i32_w]
     rfl
    refine pure_ (i := 27) (N := some 61) (v := undef) (a' := ?_) (fl 31 28) rfl rfl (any_of HT_.out (by kernel_rfl)) (fun _ _ _ h => h) (Or.inr ⟨by rfl, rfl⟩) ?_ ?_
    rotate_left
    ·simp only [Act.put, List.setIfInBounds_toArray, List.set_cons_zero, List.set_cons_succ, i64_w, i32_w]
     rfl
    refine pure_ (i := 28) (N := some 62) (v := undef) (a' := ?_) (fl 31 29) rfl rfl (any_of HT_.out (by kernel_rfl)) (fun _ _ _ h => h) (Or.inr ⟨by rfl, rfl⟩) ?_ ?_
    rotate_left
    ·simp only [Act.put, List.setIfInBounds_toArray, List.set_cons_zero, List.set_cons_succ, i64_w, i32_w]
     rfl
    refine pure_ (i := 29) (N := some 63) (v := ?_) (a' := ?_) (fl 31 30) rfl rfl (any_of HT_.out (by kernel_rfl)) (fun _ _ _ h => h) (Or.inl ⟨by rfl, ?_⟩) ?_ ?_
    rotate_left
    ·intro w'
     go_simp
     with_reducible rfl
    rotate_left
    ·simp only [Act.put, List.setIfInBounds_toArray, List.set_cons_zero, List.set_cons_succ, i64_w, i32_w]
     rfl
    refine pure_ (i := 30) (N := some 64) (v := ?_) (a' := ?_) (fl 31 31) rfl rfl (any_of HT_.out (by kernel_rfl)) (fun _ _ _ h => h) (Or.inl ⟨by rfl, ?_⟩) ?_ ?_
    rotate_left
    ·intro w'
     go_simp
     with_reducible rfl
    rotate_left
    ·simp only [Act.put, List.setIfInBounds_toArray, List.set_cons_zero, List.set_cons_succ, i64_w, i32_w]
     rfl
    refine done_ (done_of HT_.out (by kernel_rfl)) ?_
    -- END B
    go_wp2
    first
     | exact ⟨⟨k + 1, rfl, by omega, by rw [hO2.out]; exact Kd.R_drewN hO _, pw_below_drewN hB _⟩, by simp [intOf]; omega⟩
     | exact ⟨⟨k + 1, rfl, by omega, by rw [hO2.out]; exact Kd.R_drew hO, below_drew hB⟩, by simp [intOf]; omega⟩
     | exact ⟨⟨k + 1, rfl, by omega, by rw [hO2.out]; exact Kd.R_drewN (Kd.R_drew hO) _, pw_below_drewN (below_drew hB) _⟩, by simp [intOf]; omega⟩
  ·have hkl : k = xs.length := by omega
   subst hkl
   go_wp2
   go_ret
   exact ⟨_, rfl, hO, hB⟩
set_option maxHeartbeats 1600000 in
set_option maxRecDepth 100000 in
theorem kidsC (A : Option Addr) (c : Nat) (n : Nat) (a1 : Int) (ha : a1 < -1 ∨ (n : Int) ≤ a1) (w : World) :
  Calls Tryd.prog 14 #[.slice A n c, .int .i64 a1] w fun e_ w' => ∃ v0_ : Value, e_ = .returned (v0_) ∧ (Kd.int .i64).R 3 w' w.heap.size (fun _ => True) v0_ [] ∧ Below w.heap.size w w' := by
 have hO0 := int_empty w
 have hB0 := (Below.refl w.heap.size w).alloc (Nat.le_refl _) (.cells #[] 3)
 by_cases h1 : a1 < -1
 ·go_enter Tryd.func14, Tryd.ntmps14
  go_wp2
  go_ret
  exact ⟨_, rfl, hO0, hB0⟩
 ·have h2 : (n : Int) ≤ a1 := by omega
  have h3 : decide (a1 < -1) = false := decide_eq_false h1
  go_enter Tryd.func14, Tryd.ntmps14
  go_wp2
  go_ret
  exact ⟨_, rfl, hO0, hB0⟩
theorem boltingref04_Kids.calls (A0 : Option Addr) (c0 : Nat) (l0 : List Rw) (a1 : Int) (r : List Int) (w : World) (hr0 : k35.C w A0 l0.length l0) (hc0 : l0.length ≤ c0) (h : boltingref04_Kids.f l0 a1 = some r) :
  Calls Tryd.prog 14 #[.slice A0 l0.length c0, .int .i64 a1] w fun e w' => ∃ v0_ : Value, e = .returned (v0_) ∧ (Kd.int .i64).R 3 w' w.heap.size (fun _ => True) v0_ r ∧ Below w.heap.size w w' := by
 unfold boltingref04_Kids.f at h
 by_cases hz : l0.length ≤ 1000000000000
 ·rw [if_pos hz] at h
  by_cases h1 : a1 < -1 ∨ (l0.length : Int) ≤ a1
  ·rw [if_pos h1] at h
   obtain rfl := Option.some.inj h
   exact kidsC A0 c0 l0.length a1 h1 w
  ·rw [if_neg h1] at h
   by_cases h2 : a1 = -1
   ·subst h2
    rw [if_pos rfl] at h
    obtain rfl := Option.some.inj h
    exact kidsA A0 c0 l0 hc0 hz w hr0
   ·rw [if_neg h2] at h
    obtain ⟨m, rfl⟩ : ∃ m : Nat, a1 = m := ⟨a1.toNat, by omega⟩
    obtain ⟨e, he, h⟩ := Option.bind_eq_some_iff.1 h
    obtain rfl := Option.some.inj h
    exact kidsB A0 c0 l0 hc0 hz m (by omega) e he w hr0
 ·rw [if_neg hz] at h
  cases h
end Go.Proofs.YtdnbaliibiginaaDoorH.W8

/- Plain: whether a byte stands in a text. No program in sight. -/
namespace Go.Proofs.YtdnbaliibiginaaDoor
open Go.Proofs
def hasL (l : List UInt8) (c : Nat) : Bool := l.any fun x => x.toNat == c
end Go.Proofs.YtdnbaliibiginaaDoor

/- Plain laws of what is written out: it is decoded to the text that was; nothing of it opens or closes a tag, or a value. No program in sight. -/
namespace Go.Proofs.YtdnbaliibiginaaDoor
open Go.RowKit Go.Proofs
theorem esc_len (q : Bool) (c : UInt8) : (escL q c).length ≤ 6 := by
 unfold escL
 repeat' split
 all_goals simp
theorem wr_len (q : Bool) : ∀ l, (wrL q l).length ≤ 6 * l.length
 | [] => by simp [wrL]
 | [c] => by rw [wrL]; have := esc_len q c; simp; omega
 | c :: d :: l => by
  rw [wrL]
  split
  ·have := wr_len q l
   simp; omega
  ·have := wr_len q (d :: l)
   have := esc_len q c
   simp at *; omega
end Go.Proofs.YtdnbaliibiginaaDoor

/- Plain laws of decoding and writing out: lengths; a text without & or without ; is decoded as it stands; what is written out twice; a text behind another one. No program in sight. -/
namespace Go.Proofs.YtdnbaliibiginaaDoor
open Go.RowKit Go.Proofs
theorem esc_len1 (q : Bool) (c : UInt8) : 1 ≤ (escL q c).length := by
 unfold escL
 repeat' split
 all_goals simp
theorem wr_ge (q : Bool) : ∀ l, l.length ≤ (wrL q l).length
 | [] => by simp
 | [c] => by rw [wrL]; exact esc_len1 q c
 | c :: d :: l => by
  rw [wrL]
  split
  ·have := wr_ge q l
   simp; omega
  ·have := wr_ge q (d :: l)
   have := esc_len1 q c
   simp at *; omega
end Go.Proofs.YtdnbaliibiginaaDoor
