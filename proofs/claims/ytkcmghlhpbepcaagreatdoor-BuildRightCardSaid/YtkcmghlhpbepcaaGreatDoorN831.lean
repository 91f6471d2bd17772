/- Lemmas and walks, part 31: QLBuildRight, QWit07. -/
import Derived.Test.YtkcmghlhpbepcaaGreatDoorN821
import Derived.Test.YtkcmghlhpbepcaaGreatDoorN828
import Derived.Test.YtkcmghlhpbepcaaGreatDoorN830
import Derived.Test.YtkcmghlhpbepcaaGreatDoorRows
import Derived.Test.YtkcmghlhpbepcaaGreatDoorN85
import Derived.WalkKit
import Derived.ProofKit
import Derived.OpenShut
import Derived.SizedLaws
import Derived.Deep.DeepHandedRow
import Derived.Deep.DeepWitnessRowRef
import Derived.Stop.LaidErr
import Derived.Lib.LaidIn
import Derived.Lib.LaidU8T
import Derived.Shelf.Vars
set_option linter.unusedVariables false
set_option linter.unusedSimpArgs false

/- Whatever bytes: the trees are right, and normal; each element may stand within those around it; a void one has nothing in it: BuildRight is true. -/
namespace Go.Proofs.YtkcmghlhpbepcaaGreatDoor
open Go.RowKit Go.Proofs Go.Proofs.YtkcmghlhpbepcaaGreatDoorH Go.Proofs.YtkcmghlhpbepcaaGreatDoorH.W7 Go.Proofs.YtkcmghlhpbepcaaGreatDoorW.PrintWords
theorem right_facts (s nm : ByteArray) (hs : s.size ≤ 500) : ∃ o e, build_In.f s nm = some (o, e) ∧ ((e = 2 ∧ o = []) ∨ (e = 0 ∧ o.length ≤ 4096 ∧ (∀ x ∈ o, 0 ≤ x.f0 ∧ x.f0 < 60) ∧ (∀ i : Nat, (hi : i < o.length) → Stands (stk (o.take i)) o[i]) ∧ rows_Check.f 2000000000 o = some 0 ∧ rows_Normal.f o = some o)) := by
 rw [in_val s nm (by omega)]
 have hz : s.data.toList.length = s.size := Array.length_toList
 obtain ⟨hsz, hat⟩ := toks_small s.data.toList nm.data.toList (by omega)
 cases hT : treeP (toksF s.data.toList nm.data.toList) [] [] with
 | none => exact ⟨[], 2, rfl, .inl ⟨rfl, rfl⟩⟩
 | some o =>
   obtain ⟨op, hB⟩ := tree_built2 _ (by omega) 40000 (fun x hx => by have := hat x hx; exact ⟨by omega, by decide⟩) o hT
   obtain ⟨st, hL⟩ := tree_laws _ o hT
   have hat2 := hB.2
   have hst := laws_at hL
   refine ⟨o, 0, rfl, .inr ⟨rfl, hB.1.len, hB.1.depth, hst, ?_, ?_⟩⟩
   ·refine check_true o hB.1.len hst 1700000000 (fun x hx => ?_) (fun x hx => (hB.1.depth x hx).2) _ (by have := hB.1.len; omega)
    have h1 := hat2 x hx
    have h2 : x.f4.length * (x.f4.length + 2) ≤ 40000 * 40002 := Nat.mul_le_mul h1 (by omega)
    omega
   ·exact normal_id o (by have := hB.1.len; omega) (fun x hx => by have := hB.1.depth x hx; omega) hB.1.attrs hB.1.normal
set_option maxHeartbeats 3200000 in
set_option maxRecDepth 100000 in
theorem buildRight_w (s0 : ByteArray) (hs0 : s0.size ≤ maxLen) (nm : ByteArray) (hnm : nm.size ≤ maxLen) {W : World} (hS : Std W) :
 Calls Tryz.prog 11 #[.string s0, .string nm] W fun e w' => e = .returned (.bool true) ∧ Below W.heap.size W w' := by
 obtain ⟨n, hmin⟩ : ∃ n : Nat, min (s0.size : Int) 500 = (n : Int) := ⟨(min (s0.size : Int) 500).toNat, by omega⟩
 have hn1 : n ≤ s0.size ∧ n ≤ 500 := by omega
 have hmn : (if 500 < (s0.size : Int) then 500 else (s0.size : Int)) = (n : Int) := by split <;> omega
 have q0 : (0 : Int) ≤ (n : Int) := by omega
 have q1 : (n : Int) ≤ (s0.size : Int) := by omega
 obtain ⟨o, e0, hin, hor⟩ := right_facts (s0.extract 0 n) nm (by rw [ByteArray.size_extract]; omega)
 have c1 := Lib.hid (build_In.calls (s0.extract 0 n) nm o e0 W hin hS)
 clear hin
 rcases hor with ⟨rfl, rfl⟩ | ⟨rfl, hlen, hdep, hst, hck, hno⟩
 ·go_enter Tryz.func11, Tryz.ntmps11
  go_wp2_with (first
   | (go_at_call 24; ((with_reducible refine c1.out.mono ?_); rintro e w1 ⟨v1, rfl, hR, hb⟩; obtain ⟨A1, k1, rfl⟩ := Kd.R_slice hR))
   | (go_at_call 23; ((with_reducible refine (fixed7_c _ (hS.below hb)).mono ?_); rintro e w2 ⟨rfl, hb3⟩)))
  go_ret
  exact ⟨rfl, hb.trans (hb3.mono hb.size)⟩
 ·go_enter Tryz.func11, Tryz.ntmps11
  go_wp2_with (first
   | (go_at_call 24; ((with_reducible refine c1.out.mono ?_); rintro e w1 ⟨v1, rfl, hR, hb1⟩; obtain ⟨A1, k1, rfl⟩ := Kd.R_slice hR; have hk1 := (Kd.R_reads' hR).2.1; have hC1 := (Kd.R_reads' hR).2.2; clear hR))
   | (go_at_call 39; ((with_reducible refine (rows_Check.calls 2000000000 A1 k1 o 0 _ hC1 hk1 hck).mono ?_); rintro e w2 ⟨rfl, hb2⟩; have hC2 := Kd.C_below hC1 hb2))
   | (go_at_call 41; ((with_reducible refine (rows_Normal.calls A1 k1 o o _ hC2 hk1 hno).mono ?_); rintro e w3 ⟨v3, rfl, hR3, hb3⟩; obtain ⟨A3, k3, rfl⟩ := Kd.R_slice hR3; have hk3 := (Kd.R_reads' hR3).2.1; have hC3 := (Kd.R_reads' hR3).2.2; have hC1c := Kd.C_below hC2 hb3; clear hR3))
   | (go_at_call 40; ((with_reducible refine (rows_Same.calls A3 k3 o A1 k1 o true _ hC3 hk3 hC1c hk1 (by unfold rows_Same.f; rw [decide_eq_true rfl])).mono ?_); rintro e w4 ⟨rfl, hb4⟩))
   | ((with_reducible refine gate_dst (N := 38) rfl ?_); refine Kd.R_lit Kd.string _ 9 ?hg (N := 38) ?hd (xs := ([] : List ByteArray)) (inner := []) (ok := fun _ => True) (okp := fun _ => True) ?hr ?hp (fun _ hk => hk) trivial (Below.refl _ _) (Nat.le_refl _) (by simp) ?_; (case hd => rfl); (case hg => rfl); (case hr => first | (go_simp; done) | (go_simp; rfl)); (case hp => exact (Reps.none _ _)); intro v5 w5 hO5 hb5 hg_ hnew_; clear hg_ hnew_))
  obtain ⟨A5, k5, rfl⟩ := Kd.R_slice hO5
  have HB4 : Below w1.heap.size w1 w4 := hb2.trans ((hb3.mono hb2.size).trans (hb4.mono (Nat.le_trans hb2.size hb3.size)))
  have HB5 : Below w1.heap.size w1 w5 := HB4.trans (hb5.mono HB4.size)
  have hO5' := Kd.R_lower hO5 HB4.size
  clear hC2 hC3 hC1c hO5 hb2 hb3 hb4 hb5 hck hno c1
  go_loopw [7, 8] (fun vo vi wr => ∃ (i : Nat), vi = .int .i64 i ∧ i ≤ o.length ∧ Kd.string.R 9 wr w1.heap.size (fun _ => True) vo (stk (o.take i)) ∧ Below w1.heap.size w1 wr) (fun _ vi _ => o.length - (intOf vi).toNat)
  case atStart => exact ⟨0, rfl, Nat.zero_le _, hO5', HB5⟩
  case round =>
   obtain ⟨i, rfl, hi, hO, hbr⟩ := hrel
   obtain ⟨Ao, ko, rfl⟩ := Kd.R_slice hO
   by_cases hlt : i < o.length
   ·have q7 : ((i : Int) < (o.length : Int)) = True := eq_true (by omega)
    have hs := hst i hlt
    have hsu := stk_succ o i hlt
    have hdi := hdep _ (List.getElem_mem hlt)
    obtain ⟨g, oo, A4, k4, rfl, z0, z1, z2, z3, z4, -, -⟩ := row_at (Kd.C_below hC1 hbr) i hlt
    generalize o[i] = x at *
    obtain ⟨xd, xk, xn, xt, xa⟩ := x
    simp only at z0 z1 z2 z3 z4 hdi
    obtain ⟨d, rfl⟩ : ∃ d : Nat, xd = (d : Int) := ⟨xd.toNat, by omega⟩
    generalize hstq : stk (o.take i) = st at *
    have hd1 : d ≤ st.length := by have := hs.hi; simp only at this; omega
    have hol := (Kd.R_reads' hO).2.1
    have htl : (st.take d).length = d := by rw [List.length_take]; omega
    obtain ⟨i0, hi0, _, hsz0, _⟩ := info_parts info9
    obtain ⟨hcut, hA, hC⟩ := print_take_of (P := Tryz.prog) Value.string (⟨#[]⟩ : ByteArray) 41 9 .i64 Tryz.underlying41 hi0 hsz0 Ao ko st d (by omega) (by omega) hol
    have hRd := Kd.C_of_reads (h1 := fun _ => rfl) (hA _ (Kd.reads_of_C (Kd.R_reads' hO).2.2))
    rw [Int.toNat_natCast, htl] at hcut hRd hC
    have hnX := new_cells wr #[.int .i64 d, .int .i64 xk, .string xn, .string xt, .slice A4 xa.length k4] 34
    obtain ⟨⟨b0, b1, b2, b3, b4⟩, b5⟩ := five_facts hnX
    have hBX := hbr.alloc hbr.size (.cells #[.int .i64 d, .int .i64 xk, .string xn, .string xt, .slice A4 xa.length k4] 34)
    have hRdX := Kd.C_alloc hRd (.cells #[.int .i64 d, .int .i64 xk, .string xn, .string xt, .slice A4 xa.length k4] 34)
    have hszX : (wr.alloc (.cells #[.int .i64 d, .int .i64 xk, .string xn, .string xt, .slice A4 xa.length k4] 34)).heap.size = wr.heap.size + 1 := World.size_alloc _ _
    have q8 : decide ((st.length : Int) < (d : Int)) = false := decide_eq_false (by omega)
    have q8' : decide (st.length < d) = false := decide_eq_false (by omega)
    have haf : (stk (o.take (i + 1))) = if xk = 0 then st.take d ++ [xn] else st.take d := hsu
    have hvd := hs.void
    have hnest := hs.nest
    simp only [Int.toNat_natCast] at hvd hnest
    clear hA hi0 hsz0 hs hsu
    have hcases : (d = 0 ∧ decide ((0 : Int) < (d : Int)) = false ∧ decide (0 < d) = false) ∨ ∃ m, d = m + 1 := by
     rcases Nat.eq_zero_or_pos d with h | h
     ·exact .inl ⟨h, decide_eq_false (by omega), decide_eq_false (by omega)⟩
     ·exact .inr ⟨d - 1, by omega⟩
    rcases hcases with ⟨-, q9, q9'⟩ | ⟨m, hm⟩
    ·by_cases hk0 : xk = 0
     ·subst hk0
      obtain ⟨hn1_, hg1_⟩ := hnest rfl
      rw [if_pos rfl] at haf
      have q10 : ((0 : Int) != 0) = false := rfl
      have hNest := Lib.hid (fun (Y : World) (A' : Option Addr) (k' : Nat) (h1 : Kd.string.C Y A' d (st.take d)) (h2 : d ≤ k') => (show Calls Tryz.prog 27 #[.string xn, .slice A' d k'] Y fun e w' => e = .returned (.bool true) ∧ Below Y.heap.size Y w' from by
       have h_ := build_Nested.calls 1000 xn A' k' (st.take d) true Y (by rw [htl]; exact h1) (by rw [htl]; exact h2) (by rw [nested_val _ _ _ (by omega), hn1_])
       rwa [htl] at h_))
      go_wp2_with (first
       | ((with_reducible refine gate_dst (N := 54) rfl ?_); refine Kd.R_lit Kd.string _ 9 ?hg (N := 54) ?hd (xs := ([] : List ByteArray)) (inner := []) (ok := fun _ => True) (okp := fun _ => True) ?hr ?hp (fun _ hk => hk) trivial (Below.refl _ _) (Nat.le_refl _) (by simp) ?_; (case hd => rfl); (case hg => rfl); (case hr => first | (go_simp; done) | (go_simp; rfl)); (case hp => exact (Reps.none _ _)); intro v6 w6 hO6 hb6 hg_ hnew_; clear hg_ hnew_; obtain ⟨A6, k6, rfl⟩ := Kd.R_slice hO6; have hO6z : Kd.string.R 9 w6 w1.heap.size (fun _ => True) (.slice A6 0 k6) [] := Kd.R_lower hO6 hBX.size; have HB6 := hBX.trans (hb6.mono hBX.size); have hn6 := heap_below hnX hb6; have hRd6 := Kd.C_below hRdX hb6; have hne6 := Kd.R_base hO6; obtain ⟨⟨c0, c1, c2, c3, c4⟩, c5⟩ := five_facts hn6)
       | ((with_reducible refine gate_builtin (b := .append) (xs := #[.tmp 54, .tmp 58]) rfl ?_); at_builtin; refine Kd.R_append_rows Kd.string (w0 := w1) w1.heap.size rfl (.tmp 54) (.tmp 58) 41 9 (.string ⟨#[]⟩) 16 rfl Tryz.underlying41 info9 rfl (by decide) (by omega) (.slice A6 0 k6) [] (st.take d) _ _ _ (fun _ => True) (fun _ => False) rfl rfl ?aO ?aR (fun _ _ h => h) (fun _ h => h.elim) ?aF ?aB ?aS ?aL ?_; (case aR => exact hRd6); (case aB => exact HB6); (case aF => exact (fun _ _ => trivial)); (case aO => exact hO6z); (case aS => exact HB6.size); (case aL => simp; omega); intro v7 w7 hO7 hb7 hg7 hat7; rw [List.nil_append] at hO7; obtain ⟨A7, k7, rfl⟩ := Kd.R_slice hO7; rw [htl] at hO7 ⊢; have hn7 := blk_grown hn6 hg7 (fun e_ => by have := hne6 _ e_.symm; rw [hszX] at this; omega); obtain ⟨⟨d0, d1, d2, d3, d4⟩, d5⟩ := five_facts hn7)
       | (go_at_call 27; ((with_reducible refine (hNest.out _ A7 k7 ?sC ?sL).mono ?_); (case sC => have h_ := (Kd.R_reads' hO7).2.2; rw [htl] at h_; exact h_); (case sL => exact (Kd.R_reads' hO7).2.1); rintro e w8 ⟨rfl, hb8⟩; have hn8 := heap_below hn7 hb8; obtain ⟨⟨e0, e1, e2, e3, e4⟩, e5⟩ := five_facts hn8; have hO8 := Kd.R_below hO7 hb8; have HB8 := hb7.trans (hb8.mono hb7.size)))
       | (go_at_call 34; ((with_reducible refine (names_Gone.calls 1000 xn false _ ?sV).mono ?_); (case sV => rw [goneT_f _ _ (by omega), ← goneL_eq, hg1_]); rintro e w10 ⟨rfl, hb10⟩; have hn10 := heap_below hn8 hb10; obtain ⟨⟨f0, f1, f2, f3, f4⟩, f5⟩ := five_facts hn10; have hOz := Kd.R_below hO8 hb10; have HBz := HB8.trans (hb10.mono HB8.size)))
       | ((with_reducible refine gate_builtin (b := .append) (xs := #[.tmp 85, .tmp 88]) rfl ?_); at_builtin; refine Kd.R_append Kd.string (w0 := w1) w1.heap.size rfl (.tmp 85) (.tmp 88) 41 9 (.string ⟨#[]⟩) 16 rfl Tryz.underlying41 info9 rfl (by decide) (by omega) (.slice A7 d k7) (st.take d) xn [.string xn] (fun _ => True) (fun _ => False) rfl ?aX ?aP ?aK ?aF ?aO ?aB ?aS ?aL ?_; (case aX => rfl); (case aP => exact (show Kd.M Kd.string _ _ _ xn [.string xn] from rfl)); (case aK => exact fun k hk => hk.elim); (case aF => exact fun _ _ => trivial); (case aO => exact hOz); (case aB => exact HBz); (case aS => exact HBz.size); (case aL => omega); intro v9 w9 hO9 hb9 hg9 hat9))
      refine ⟨?_, by simp [intOf]; omega⟩
      refine ⟨_, _, _, _, _, _, _, _, _, _, _, _, _, _, _, _, _, _, _, _, _, _, _, _, _, _, _, _, _, _, _, _, _, _, _, _, _, _, _, _, _, _, _, _, _, _, _, _, _, _, _, _, _, _, _, ?_, rfl⟩
      exact ⟨i + 1, rfl, by omega, by rw [haf]; exact hO9, hb9⟩
     ·have q10 : (xk != 0) = true := bne_iff_ne.2 hk0
      rw [if_neg hk0] at haf
      go_wp2_with (first
       | ((with_reducible refine gate_dst (N := 54) rfl ?_); refine Kd.R_lit Kd.string _ 9 ?hg (N := 54) ?hd (xs := ([] : List ByteArray)) (inner := []) (ok := fun _ => True) (okp := fun _ => True) ?hr ?hp (fun _ hk => hk) trivial (Below.refl _ _) (Nat.le_refl _) (by simp) ?_; (case hd => rfl); (case hg => rfl); (case hr => first | (go_simp; done) | (go_simp; rfl)); (case hp => exact (Reps.none _ _)); intro v6 w6 hO6 hb6 hg_ hnew_; clear hg_ hnew_; obtain ⟨A6, k6, rfl⟩ := Kd.R_slice hO6; have hO6z : Kd.string.R 9 w6 w1.heap.size (fun _ => True) (.slice A6 0 k6) [] := Kd.R_lower hO6 hBX.size; have HB6 := hBX.trans (hb6.mono hBX.size); have hn6 := heap_below hnX hb6; have hRd6 := Kd.C_below hRdX hb6; have hne6 := Kd.R_base hO6; obtain ⟨⟨c0, c1, c2, c3, c4⟩, c5⟩ := five_facts hn6)
       | ((with_reducible refine gate_builtin (b := .append) (xs := #[.tmp 54, .tmp 58]) rfl ?_); at_builtin; refine Kd.R_append_rows Kd.string (w0 := w1) w1.heap.size rfl (.tmp 54) (.tmp 58) 41 9 (.string ⟨#[]⟩) 16 rfl Tryz.underlying41 info9 rfl (by decide) (by omega) (.slice A6 0 k6) [] (st.take d) _ _ _ (fun _ => True) (fun _ => False) rfl rfl ?aO ?aR (fun _ _ h => h) (fun _ h => h.elim) ?aF ?aB ?aS ?aL ?_; (case aR => exact hRd6); (case aB => exact HB6); (case aF => exact (fun _ _ => trivial)); (case aO => exact hO6z); (case aS => exact HB6.size); (case aL => simp; omega); intro v7 w7 hO7 hb7 hg7 hat7; rw [List.nil_append] at hO7; obtain ⟨A7, k7, rfl⟩ := Kd.R_slice hO7; rw [htl] at hO7 ⊢; have hn7 := blk_grown hn6 hg7 (fun e_ => by have := hne6 _ e_.symm; rw [hszX] at this; omega); obtain ⟨⟨d0, d1, d2, d3, d4⟩, d5⟩ := five_facts hn7))
      refine ⟨?_, by simp [intOf]; omega⟩
      refine ⟨_, _, _, _, _, _, _, _, _, _, _, _, _, _, _, _, _, _, _, _, _, _, _, _, _, _, _, _, _, _, _, _, _, _, _, _, _, _, _, _, _, _, _, _, _, _, _, _, _, _, _, _, _, _, _, ?_, rfl⟩
      exact ⟨i + 1, rfl, by omega, by rw [haf]; exact hO7, hb7⟩
    ·obtain ⟨y, hy1, hy2⟩ : ∃ y, rdOf (⟨#[]⟩ : ByteArray) (st.take d) (m : Int) = y ∧ voidL y = false := by
      refine ⟨_, rfl, hvd _ ?_⟩
      rw [List.getLast?_eq_getElem?, htl]; subst hm
      unfold rdOf
      simp [List.getD_eq_getElem?_getD, List.getElem?_take, show m < st.length from by omega]
     have hy := Lib.hid (And.intro hy1 hy2)
     clear hy1 hy2
     have q9 : decide ((0 : Int) < (d : Int)) = true := decide_eq_true (by omega)
     have q9' : decide (0 < d) = true := decide_eq_true (by omega)
     have q11 := Lib.hid (show (d : Int) - 1 = (m : Int) by omega)
     have q12 : (1 ≤ (d : Int) ∧ (d : Int) - 1 < (d : Int)) = True := eq_true (by omega)
     clear hm
     by_cases hk0 : xk = 0
     ·subst hk0
      obtain ⟨hn1_, hg1_⟩ := hnest rfl
      rw [if_pos rfl] at haf
      have q10 : ((0 : Int) != 0) = false := rfl
      have hNest := Lib.hid (fun (Y : World) (A' : Option Addr) (k' : Nat) (h1 : Kd.string.C Y A' d (st.take d)) (h2 : d ≤ k') => (show Calls Tryz.prog 27 #[.string xn, .slice A' d k'] Y fun e w' => e = .returned (.bool true) ∧ Below Y.heap.size Y w' from by
       have h_ := build_Nested.calls 1000 xn A' k' (st.take d) true Y (by rw [htl]; exact h1) (by rw [htl]; exact h2) (by rw [nested_val _ _ _ (by omega), hn1_])
       rwa [htl] at h_))
      go_wp2_with (first
       | ((with_reducible refine gate_dst (N := 54) rfl ?_); refine Kd.R_lit Kd.string _ 9 ?hg (N := 54) ?hd (xs := ([] : List ByteArray)) (inner := []) (ok := fun _ => True) (okp := fun _ => True) ?hr ?hp (fun _ hk => hk) trivial (Below.refl _ _) (Nat.le_refl _) (by simp) ?_; (case hd => rfl); (case hg => rfl); (case hr => first | (go_simp; done) | (go_simp; rfl)); (case hp => exact (Reps.none _ _)); intro v6 w6 hO6 hb6 hg_ hnew_; clear hg_ hnew_; obtain ⟨A6, k6, rfl⟩ := Kd.R_slice hO6; have hO6z : Kd.string.R 9 w6 w1.heap.size (fun _ => True) (.slice A6 0 k6) [] := Kd.R_lower hO6 hBX.size; have HB6 := hBX.trans (hb6.mono hBX.size); have hn6 := heap_below hnX hb6; have hRd6 := Kd.C_below hRdX hb6; have hne6 := Kd.R_base hO6; obtain ⟨⟨c0, c1, c2, c3, c4⟩, c5⟩ := five_facts hn6)
       | ((with_reducible refine gate_builtin (b := .append) (xs := #[.tmp 54, .tmp 58]) rfl ?_); at_builtin; refine Kd.R_append_rows Kd.string (w0 := w1) w1.heap.size rfl (.tmp 54) (.tmp 58) 41 9 (.string ⟨#[]⟩) 16 rfl Tryz.underlying41 info9 rfl (by decide) (by omega) (.slice A6 0 k6) [] (st.take d) _ _ _ (fun _ => True) (fun _ => False) rfl rfl ?aO ?aR (fun _ _ h => h) (fun _ h => h.elim) ?aF ?aB ?aS ?aL ?_; (case aR => exact hRd6); (case aB => exact HB6); (case aF => exact (fun _ _ => trivial)); (case aO => exact hO6z); (case aS => exact HB6.size); (case aL => simp; omega); intro v7 w7 hO7 hb7 hg7 hat7; rw [List.nil_append] at hO7; obtain ⟨A7, k7, rfl⟩ := Kd.R_slice hO7; rw [htl] at hO7 ⊢; have hn7 := blk_grown hn6 hg7 (fun e_ => by have := hne6 _ e_.symm; rw [hszX] at this; omega); obtain ⟨⟨d0, d1, d2, d3, d4⟩, d5⟩ := five_facts hn7; obtain ⟨g7, kk7, hv7, -⟩ := Kd.R_form hO7 (by have := q11.out; rw [htl]; omega); rw [htl] at hv7; obtain ⟨hA7_, -, hk7_⟩ := Value.slice.inj hv7; subst hA7_; subst hk7_; obtain ⟨zc7, -⟩ := Kd.R_celln (⟨#[]⟩ : ByteArray) hO7 (m : Int) (by omega) (by have := q11.out; omega); have zc8 : w7.cell? ⟨g7, d - 1, none⟩ = some (.string y) := (by have h_ := q11.out; rw [hy.out.1, Int.toNat_natCast] at zc7; rw [show d - 1 = m from by omega]; exact zc7); clear zc7)
       | (go_at_call 31; ((with_reducible refine (names_Void.calls 1000 y false _ ?sV).mono ?_); (case sV => rw [voidT_f _ _ (by omega), ← voidL_eq, hy.out.2]); rintro e wV ⟨rfl, hbV⟩; have hnV := heap_below hn7 hbV; obtain ⟨⟨v0, v1, v2, v3, v4⟩, v5⟩ := five_facts hnV; have hOV := Kd.R_below hO7 hbV; have HBV := hb7.trans (hbV.mono hb7.size)))
       | (go_at_call 27; ((with_reducible refine (hNest.out _ (some ⟨g7, 0, none⟩) k7 ?sC ?sL).mono ?_); (case sC => have h_ := (Kd.R_reads' hOV).2.2; rw [htl] at h_; exact h_); (case sL => exact (Kd.R_reads' hOV).2.1); rintro e w8 ⟨rfl, hb8⟩; have hn8 := heap_below hnV hb8; obtain ⟨⟨e0, e1, e2, e3, e4⟩, e5⟩ := five_facts hn8; have hO8 := Kd.R_below hOV hb8; have HB8 := HBV.trans (hb8.mono HBV.size)))
       | (go_at_call 34; ((with_reducible refine (names_Gone.calls 1000 xn false _ ?sV).mono ?_); (case sV => rw [goneT_f _ _ (by omega), ← goneL_eq, hg1_]); rintro e w10 ⟨rfl, hb10⟩; have hn10 := heap_below hn8 hb10; obtain ⟨⟨f0, f1, f2, f3, f4⟩, f5⟩ := five_facts hn10; have hOz := Kd.R_below hO8 hb10; have HBz := HB8.trans (hb10.mono HB8.size)))
       | ((with_reducible refine gate_builtin (b := .append) (xs := #[.tmp 85, .tmp 88]) rfl ?_); at_builtin; refine Kd.R_append Kd.string (w0 := w1) w1.heap.size rfl (.tmp 85) (.tmp 88) 41 9 (.string ⟨#[]⟩) 16 rfl Tryz.underlying41 info9 rfl (by decide) (by omega) (.slice (some ⟨g7, 0, none⟩) d k7) (st.take d) xn [.string xn] (fun _ => True) (fun _ => False) rfl ?aX ?aP ?aK ?aF ?aO ?aB ?aS ?aL ?_; (case aX => rfl); (case aP => exact (show Kd.M Kd.string _ _ _ xn [.string xn] from rfl)); (case aK => exact fun k hk => hk.elim); (case aF => exact fun _ _ => trivial); (case aO => exact hOz); (case aB => exact HBz); (case aS => exact HBz.size); (case aL => omega); intro v9 w9 hO9 hb9 hg9 hat9))
      refine ⟨?_, by simp [intOf]; omega⟩
      refine ⟨_, _, _, _, _, _, _, _, _, _, _, _, _, _, _, _, _, _, _, _, _, _, _, _, _, _, _, _, _, _, _, _, _, _, _, _, _, _, _, _, _, _, _, _, _, _, _, _, _, _, _, _, _, _, _, ?_, rfl⟩
      exact ⟨i + 1, rfl, by omega, by rw [haf]; exact hO9, hb9⟩
     ·have q10 : (xk != 0) = true := bne_iff_ne.2 hk0
      rw [if_neg hk0] at haf
      go_wp2_with (first
       | ((with_reducible refine gate_dst (N := 54) rfl ?_); refine Kd.R_lit Kd.string _ 9 ?hg (N := 54) ?hd (xs := ([] : List ByteArray)) (inner := []) (ok := fun _ => True) (okp := fun _ => True) ?hr ?hp (fun _ hk => hk) trivial (Below.refl _ _) (Nat.le_refl _) (by simp) ?_; (case hd => rfl); (case hg => rfl); (case hr => first | (go_simp; done) | (go_simp; rfl)); (case hp => exact (Reps.none _ _)); intro v6 w6 hO6 hb6 hg_ hnew_; clear hg_ hnew_; obtain ⟨A6, k6, rfl⟩ := Kd.R_slice hO6; have hO6z : Kd.string.R 9 w6 w1.heap.size (fun _ => True) (.slice A6 0 k6) [] := Kd.R_lower hO6 hBX.size; have HB6 := hBX.trans (hb6.mono hBX.size); have hn6 := heap_below hnX hb6; have hRd6 := Kd.C_below hRdX hb6; have hne6 := Kd.R_base hO6; obtain ⟨⟨c0, c1, c2, c3, c4⟩, c5⟩ := five_facts hn6)
       | ((with_reducible refine gate_builtin (b := .append) (xs := #[.tmp 54, .tmp 58]) rfl ?_); at_builtin; refine Kd.R_append_rows Kd.string (w0 := w1) w1.heap.size rfl (.tmp 54) (.tmp 58) 41 9 (.string ⟨#[]⟩) 16 rfl Tryz.underlying41 info9 rfl (by decide) (by omega) (.slice A6 0 k6) [] (st.take d) _ _ _ (fun _ => True) (fun _ => False) rfl rfl ?aO ?aR (fun _ _ h => h) (fun _ h => h.elim) ?aF ?aB ?aS ?aL ?_; (case aR => exact hRd6); (case aB => exact HB6); (case aF => exact (fun _ _ => trivial)); (case aO => exact hO6z); (case aS => exact HB6.size); (case aL => simp; omega); intro v7 w7 hO7 hb7 hg7 hat7; rw [List.nil_append] at hO7; obtain ⟨A7, k7, rfl⟩ := Kd.R_slice hO7; rw [htl] at hO7 ⊢; have hn7 := blk_grown hn6 hg7 (fun e_ => by have := hne6 _ e_.symm; rw [hszX] at this; omega); obtain ⟨⟨d0, d1, d2, d3, d4⟩, d5⟩ := five_facts hn7; obtain ⟨g7, kk7, hv7, -⟩ := Kd.R_form hO7 (by have := q11.out; rw [htl]; omega); rw [htl] at hv7; obtain ⟨hA7_, -, hk7_⟩ := Value.slice.inj hv7; subst hA7_; subst hk7_; obtain ⟨zc7, -⟩ := Kd.R_celln (⟨#[]⟩ : ByteArray) hO7 (m : Int) (by omega) (by have := q11.out; omega); have zc8 : w7.cell? ⟨g7, d - 1, none⟩ = some (.string y) := (by have h_ := q11.out; rw [hy.out.1, Int.toNat_natCast] at zc7; rw [show d - 1 = m from by omega]; exact zc7); clear zc7)
       | (go_at_call 31; ((with_reducible refine (names_Void.calls 1000 y false _ ?sV).mono ?_); (case sV => rw [voidT_f _ _ (by omega), ← voidL_eq, hy.out.2]); rintro e wV ⟨rfl, hbV⟩; have hnV := heap_below hn7 hbV; obtain ⟨⟨v0, v1, v2, v3, v4⟩, v5⟩ := five_facts hnV; have hOV := Kd.R_below hO7 hbV; have HBV := hb7.trans (hbV.mono hb7.size))))
      refine ⟨?_, by simp [intOf]; omega⟩
      refine ⟨_, _, _, _, _, _, _, _, _, _, _, _, _, _, _, _, _, _, _, _, _, _, _, _, _, _, _, _, _, _, _, _, _, _, _, _, _, _, _, _, _, _, _, _, _, _, _, _, _, _, _, _, _, _, _, ?_, rfl⟩
      exact ⟨i + 1, rfl, by omega, by rw [haf]; exact hOV, HBV⟩
   ·have q7 : ((i : Int) < (o.length : Int)) = False := eq_false (by omega)
    have HBr : Below W.heap.size W wr := hb1.trans (hbr.mono hb1.size)
    go_wp2_with (go_at_call 23; ((with_reducible refine (fixed7_c _ (hS.below HBr)).mono ?_); rintro e w9 ⟨rfl, hb9⟩))
    go_ret
    exact ⟨rfl, HBr.trans (hb9.mono HBr.size)⟩
end Go.Proofs.YtkcmghlhpbepcaaGreatDoor

/- A world that fits the rows of layer 7: the settled one, the listed variables holding what the program's text lays; and what a row's premises give the walks. -/
namespace Go.Proofs.YtkcmghlhpbepcaaGreatDoor
open Go.ChangeShapes Go.WideShapes Go.ChangeAt Go.RowKit
theorem own : ownKnob Tryz.prog.godebug = none := by kernel_rfl
theorem gER : Tryz.prog.globalNamed "strconv.ErrRange" = some 4 := by kernel_rfl
theorem gERType : (Tryz.prog.globals[4]?).map (·.type) = some 109 := by kernel_rfl
theorem cellsES : Tryz.prog.cellsOf 199 = 1 := by kernel_rfl
theorem cellsStr : Tryz.prog.cellsOf 9 = 1 := by kernel_rfl
theorem starES : "*" ++ "errors.errorString" = "*errors.errorString" := by decide
theorem rowES (u : TypeId) (h : Tryz.prog.typeName? 3 u = some "*errors.errorString") : u = 197 :=
 typeName_ptr_named (nm := "errors.errorString") (by rw [starES]; kernel_rfl) (by kernel_rfl) (by decide) u (by rw [starES]; exact h)
def litCell : DataW Unit → Value
 | .lit (.int k n) => .int k n
 | _ => .bool false
def litCells : DataW Unit → List Value
 | .agg l => l.map litCell
 | d => [litCell d]
def dataCells : DataW Unit → Array Value
 | .agg l => (l.flatMap litCells).toArray
 | _ => #[]
abbrev synS : ByteArray := { data := #[105, 110, 118, 97, 108, 105, 100, 32, 115, 121, 110, 116, 97, 120] }
abbrev rngS : ByteArray := { data := #[118, 97, 108, 117, 101, 32, 111, 117, 116, 32, 111, 102, 32, 114, 97, 110, 103, 101] }
noncomputable def low : Nat := (World.holding Tryz.prog default ⟨#[], #[], []⟩).heap.size
noncomputable def laidWorld (os : Os) : World :=
 let w0 := World.holding Tryz.prog os ⟨#[.cells #[.string synS] 199, .cells #[.string rngS] 199], #[], []⟩
 let put (h : Array Obj) (g : Nat) (cs : Array Value) : Array Obj := h.modify g fun
  | .cells _ t frozen => .cells cs t frozen
  | o => o
 let h1 := put w0.heap 6 (dataCells Rows.laid_math_bits_deBruijn32tab)
 let h2 := put h1 7 (dataCells Rows.laid_math_bits_deBruijn64tab)
 let h3 := put h2 5 (dataCells Rows.laid_internal_strconv_uint64pow10)
 let h4 := put h3 1 (dataCells Rows.laid_unicode_utf8_acceptRanges)
 let h5 := put h4 3 #[.iface 197 (.pointer (some ⟨low, 0, none⟩))]
 let h6 := put h5 4 #[.iface 197 (.pointer (some ⟨low + 1, 0, none⟩))]
 let h7 := put h6 0 (dataCells Rows.laid_unicode_utf8_first)
 { w0 with heap := h7 }
def listed : List (String × DataW Unit) := [("math/bits.deBruijn32tab", Rows.laid_math_bits_deBruijn32tab), ("math/bits.deBruijn64tab", Rows.laid_math_bits_deBruijn64tab), ("internal/strconv.uint64pow10", Rows.laid_internal_strconv_uint64pow10), ("unicode/utf8.acceptRanges", Rows.laid_unicode_utf8_acceptRanges), ("strconv.ErrRange", Rows.laid_strconv_ErrRange), ("strconv.ErrSyntax", Rows.laid_strconv_ErrSyntax), ("unicode/utf8.first", Rows.laid_unicode_utf8_first)]
set_option maxRecDepth 100000 in
theorem laid_met (os : Os) (args : Array Value) : laidMet Tryz.prog listed ((laidWorld os).forCall (fun _ _ => 0) ⟨#[], args, []⟩).memory :=
 (LaidIn.of_run [6, 7, 5, 1, 4, 3, low, low + 1, 0] 8 (by kernel_rfl) (by kernel_rfl) (by kernel_rfl) (by kernel_rfl)).met
theorem std_of {W : World} (hL : laidMetH Tryz.prog listed W) (hsh : W.ShapedOpen Tryz.prog) : Std W := by
 have h0 : laidMet Tryz.prog listed W := hL
 have h3 := h0.tail.tail.tail.tail
 obtain ⟨a1, s1, hv1, -, -, -⟩ := laid_sentinel h3 gER gERType Tryz.underlying109 rowES Tryz.underlying197 Tryz.underlying199 rfl rfl Tryz.underlying9 cellsES cellsStr
 exact ⟨Go.Proofs.cell_of_shapedOpen_int (zero := #[.int .i64 0]) (t := 3) hsh (of_decide_eq_true (by kernel_rfl)) (by kernel_rfl) rfl (by kernel_rfl) (by kernel_rfl) Tryz.underlying3, ⟨_, _, by have h0 := World.var?_cell gER hv1 0; simpa using h0⟩⟩
end Go.Proofs.YtkcmghlhpbepcaaGreatDoor
