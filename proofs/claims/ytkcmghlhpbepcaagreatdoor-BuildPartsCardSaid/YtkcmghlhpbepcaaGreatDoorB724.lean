/- Lemmas and walks, part 24: QE8N, QE7T. -/
import Derived.Test.YtkcmghlhpbepcaaGreatDoorB710
import Derived.Test.YtkcmghlhpbepcaaGreatDoorB723
import Derived.Test.YtkcmghlhpbepcaaGreatDoorB712
import Derived.Test.YtkcmghlhpbepcaaGreatDoorB717
set_option linter.unusedVariables false
set_option linter.unusedSimpArgs false

/- Contract of rows.Normal: texts side by side are one. Nothing that lay in memory turns. -/
namespace Go.Proofs.YtkcmghlhpbepcaaGreatDoorH.W7
open Go.RowKit Go.Proofs Go.Proofs.YtkcmghlhpbepcaaGreatDoor Go.Proofs.YtkcmghlhpbepcaaGreatDoorW.PrintWords
def normStep (outs : List Rw) (x : Rw) : Option (List Rw) :=
 if x.f1 = 1 ∧ x.f3.data.toList = [] then some outs
 else if x.f1 = 1 ∧ 0 < outs.length ∧ (rd_T34 outs ((outs.length : Int) - 1)).f1 = 1 ∧ (rd_T34 outs ((outs.length : Int) - 1)).f0 = x.f0 then
  if (rd_T34 outs ((outs.length : Int) - 1)).f3.size + x.f3.size ≤ 9223372036854775807 then
   some (outs.set (outs.length - 1) ⟨(rd_T34 outs ((outs.length : Int) - 1)).f0, (rd_T34 outs ((outs.length : Int) - 1)).f1, (rd_T34 outs ((outs.length : Int) - 1)).f2, (rd_T34 outs ((outs.length : Int) - 1)).f3 ++ x.f3, (rd_T34 outs ((outs.length : Int) - 1)).f4⟩)
  else none
 else if outs.length < 1000000000000 then some (outs ++ [x]) else none
def normAll : List Rw → List Rw → Option (List Rw)
 | outs, [] => some outs
 | outs, x :: xs => (normStep outs x).bind fun o => normAll o xs
def rows_Normal.f (l0 : List Rw) : Option (List Rw) := (rows_moved.f (l0.length + 1) l0 0).bind fun ms => normAll [] ms
theorem drew_alloc (w : World) (o : Obj) : (w.alloc o).drew = w.drew.alloc o := rfl
theorem own_hop {v v1 : Value} {n m : Nat} (h : ∀ k, v.ownBlock = some k → n ≤ k) (hat : v1.ownBlock = v.ownBlock ∨ ∃ b, v1.ownBlock = some b ∧ m ≤ b) (hm : n ≤ m) : ∀ k, v1.ownBlock = some k → n ≤ k := by
 intro k hk
 rcases hat with e | ⟨b, e, hb⟩
 ·exact h k (e ▸ hk)
 ·rw [e] at hk
  cases hk
  omega
set_option maxHeartbeats 2000000 in
set_option maxRecDepth 100000 in
theorem rows_Normal.calls (A : Option Addr) (c : Nat) (xs : List Rw) (res : List Rw) (w : World) (hr : k34.C w A xs.length xs) (hcap : xs.length ≤ c) (h : rows_Normal.f xs = some res) :
 Calls Tryz.prog 41 #[.slice A xs.length c] w fun e w' => ∃ v0_ : Value, e = .returned (v0_) ∧ Kd.R k34 34 w' w.heap.size (fun _ => True) v0_ res ∧ Below w.heap.size w w' := by
 unfold rows_Normal.f at h
 obtain ⟨ms, hms, h⟩ := Option.bind_eq_some_iff.1 h
 have hmv := Lib.hid (rows_moved.calls (xs.length + 1) A c xs 0 ms w hr hcap hms)
 clear hms
 replace h := Lib.hid h
 go_enter Tryz.func41, Tryz.ntmps41
 go_wp2_with (go_at_call 89; ((with_reducible refine hmv.out.mono ?_); rintro e w1 ⟨vm, rfl, hm, hb1⟩; obtain ⟨A1, c1, rfl⟩ := Kd.R_slice hm))
 have hml := (Kd.R_reads' hm).2.2.2.1
 go_loopw [3, 10] (fun vo vi wr => ∃ (i : Nat) (outs : List Rw), vi = .int .i64 i ∧ i ≤ ms.length ∧ Hid (normAll outs (ms.drop i) = some res) ∧ Kd.R k34 34 wr w.heap.size (fun _ => True) vo outs ∧ Below w1.heap.size w1 wr ∧ Hid (∀ k, vo.ownBlock = some k → w1.heap.size ≤ k)) (fun _ vi _ => ms.length - (intOf vi).toNat)
 case atStart => exact ⟨0, [], rfl, Nat.zero_le _, h.out, Kd.R_nil _ _ _ _ _, Below.refl _ _, fun k hk => by simp [Value.ownBlock] at hk⟩
 case round =>
  obtain ⟨i, outs, rfl, hi, hrest, hO, hB, hown⟩ := hrel
  obtain ⟨A2, c2, rfl⟩ := Kd.R_slice hO
  have hol := (Kd.R_reads' hO).2.2.2.1
  have hbw := hb1.size
  have hbz := hB.size
  by_cases hlt : i < ms.length
  ·obtain ⟨gm, capm, hv, -, -, -⟩ := Kd.R_form hm (by omega)
   simp only [Value.slice.injEq, true_and] at hv
   obtain ⟨rfl, rfl⟩ := hv
   obtain ⟨cs, hcl, hM, hcell, hfz⟩ := Kd.R_elem hm (⟨0, 0, ⟨#[]⟩, ⟨#[]⟩, []⟩ : Rw) i (by omega) (by omega)
   have hgd : ms.getD (i : Int).toNat (⟨0, 0, ⟨#[]⟩, ⟨#[]⟩, []⟩ : Rw) = ms[i] := by simp [hlt]
   rw [hgd] at hM
   have hrest2 := hrest.out
   rw [List.drop_eq_getElem_cons hlt] at hrest2
   simp only [normAll] at hrest2
   obtain ⟨o2, hst, hre⟩ := Option.bind_eq_some_iff.1 hrest2
   clear hrest hgd hfz hrest2
   generalize ms[i] = x at *
   obtain ⟨v4, rfl, hv4⟩ := k34_openM hM
   obtain ⟨A4, c4, rfl⟩ := Kd.R_slice hv4
   have z0 := cell_keep (hcell 0 _ rfl) hB
   have z1 := cell_keep (hcell 1 _ rfl) hB
   have z2 := cell_keep (hcell 2 _ rfl) hB
   have z3 := cell_keep (hcell 3 _ rfl) hB
   have z4 := cell_keep (hcell 4 _ rfl) hB
   change wr.cell? ⟨gm, i * 5, none⟩ = _ at z0
   change wr.cell? ⟨gm, i * 5 + 1, none⟩ = _ at z1
   change wr.cell? ⟨gm, i * 5 + 2, none⟩ = _ at z2
   change wr.cell? ⟨gm, i * 5 + 3, none⟩ = _ at z3
   change wr.cell? ⟨gm, i * 5 + 4, none⟩ = _ at z4
   have hrest3 := Lib.hid hre
   clear hcell hcl hre
   obtain ⟨xd, xk, xn, xt, xa⟩ := x
   simp only at z0 z1 z2 z3 z4
   have hnt := new_cells wr #[.int .i64 xd, .int .i64 xk, .string xn, .string xt, .slice A4 xa.length c4] 34
   obtain ⟨⟨p0, p1, p2, p3, p4⟩, p5⟩ := five_facts hnt
   have hBA := hB.alloc hbz (.cells #[.int .i64 xd, .int .i64 xk, .string xn, .string xt, .slice A4 xa.length c4] 34)
   have hOA := Kd.R_alloc hO (.cells #[.int .i64 xd, .int .i64 xk, .string xn, .string xt, .slice A4 xa.length c4] 34)
   have hsA : w.heap.size ≤ (wr.alloc (.cells #[.int .i64 xd, .int .i64 xk, .string xn, .string xt, .slice A4 xa.length c4] 34)).heap.size := by rw [World.size_alloc]; omega
   have hsB : w1.heap.size ≤ (wr.alloc (.cells #[.int .i64 xd, .int .i64 xk, .string xn, .string xt, .slice A4 xa.length c4] 34)).heap.size := by rw [World.size_alloc]; omega
   have hMp := Kd.M_mono k34 (ok' := fun k => k < w1.heap.size) (fun k hk => hk.2.2.1) (Kd.M_bound k34 hM)
   have hsz1 : (wr.alloc (.cells #[.int .i64 xd, .int .i64 xk, .string xn, .string xt, .slice A4 xa.length c4] 34)).heap.size = wr.heap.size + 1 := World.size_alloc _ _
   unfold normStep at hst
   by_cases hA : xk = 1 ∧ xt.data.toList = []
   ·rw [if_pos hA] at hst
    obtain rfl := Option.some.inj hst
    obtain ⟨rfl, hxt⟩ := hA
    obtain rfl : xt = ⟨#[]⟩ := by
     obtain ⟨d⟩ := xt
     simpa using hxt
    clear hst
    go_wp2
    exact ⟨⟨i + 1, outs, rfl, by omega, hrest3, hOA, hBA, hown⟩, by simp [intOf]; omega⟩
   ·rw [if_neg hA] at hst
    have hne : xk = 1 → ¬ xt.data.toList = [] := fun e1 e2 => hA ⟨e1, e2⟩
    clear hA
    have hne1 : xk = 1 → (xt.toList == []) = false := fun e1 => by rw [beq_eq_false_iff_ne, Lib.toList_data]; exact hne e1
    by_cases hk1 : xk = 1
    ·have hx1 := hne1 hk1
     have hx2 : ¬ xt.toList = [] := by rw [Lib.toList_data]; exact hne hk1
     subst hk1
     by_cases hn0 : 0 < outs.length
     ·obtain ⟨go, capo, hv, -, -, -⟩ := Kd.R_form hO hn0
      simp only [Value.slice.injEq, true_and] at hv
      obtain ⟨rfl, rfl⟩ := hv
      obtain ⟨m, hm1⟩ : ∃ m, outs.length = m + 1 := ⟨outs.length - 1, by omega⟩
      obtain ⟨cs, hcl, hMo, hcello, hfzo⟩ := Kd.R_elem hOA (⟨0, 0, ⟨#[]⟩, ⟨#[]⟩, []⟩ : Rw) (m : Int) (by omega) (by omega)
      have hgd : outs.getD (m : Int).toNat (⟨0, 0, ⟨#[]⟩, ⟨#[]⟩, []⟩ : Rw) = outs[m] := by simp [show m < outs.length by omega]
      have hrd : rd_T34 outs ((outs.length : Int) - 1) = outs[m] := by
       rw [show (outs.length : Int) - 1 = (m : Int) from by omega]
       simp [rd_T34, show m < outs.length by omega]
      rw [hgd] at hMo
      rw [hrd, show outs.length - 1 = m from by omega] at hst
      generalize outs[m] = y at *
      obtain ⟨w4, rfl, hw4⟩ := k34_openM hMo
      have y0 := hcello 0 _ rfl
      have y1 := hcello 1 _ rfl
      have y3 := hcello 3 _ rfl
      have f3 := hfzo 3
      change World.cell? _ ⟨go, m * 5, none⟩ = _ at y0
      change World.cell? _ ⟨go, m * 5 + 1, none⟩ = _ at y1
      change World.cell? _ ⟨go, m * 5 + 3, none⟩ = _ at y3
      change World.frozen? _ ⟨go, m * 5 + 3, none⟩ = _ at f3
      obtain ⟨yd, yk, yn, yt, ya⟩ := y
      simp only at y0 y1 y3
      by_cases hB1 : yk = 1 ∧ yd = xd
      ·rw [if_pos ⟨rfl, hn0, hB1⟩] at hst
       obtain ⟨rfl, rfl⟩ := hB1
       have hcx : ¬ xt = ⟨#[]⟩ := fun e => hx2 (by rw [Lib.toList_data, e])
       clear hne hne1
       rw [hm1]
       go_wp2
       first
        | go_region
        | skip
       by_cases hsz : yt.size + xt.size ≤ 9223372036854775807
       ·rw [if_pos hsz] at hst
        obtain rfl := Option.some.inj hst
        have a1 : decide (yt.size + xt.size ≤ 9223372036854775807) = true := decide_eq_true hsz
        have a2 : (9223372036854775807 < yt.size + xt.size) = False := eq_false (by omega)
        clear hst
        go_wp2
        first
         | go_region
         | skip
        go_wp2
        have hge := hown.out go (by simp [Value.ownBlock])
        have hS := (Kd.R_seg hOA (m : Int) (by omega) (by omega) (c := [.int .i64 yd, .int .i64 1, .string yn, .string yt, w4]) (seg := [.string (yt ++ xt)]) (j := 3) hcl hcello (by show 3 + 1 ≤ 5; omega) (x' := (⟨yd, 1, yn, yt ++ xt, ya⟩ : Rw)) (okp := fun k => True ∧ k ≠ go) (k34_mkM _ _ _ (⟨yd, 1, yn, yt ++ xt, ya⟩ : Rw) hw4) (fun _ h => h)).1
        rw [hm1] at hS
        have hBS : Below w1.heap.size w1 _ := hBA.setCell (p := ⟨go, m * 5 + 3, none⟩) hge (.string (yt ++ xt))
        exact ⟨⟨i + 1, outs.set m (⟨yd, 1, yn, yt ++ xt, ya⟩ : Rw), rfl, by omega, hrest3, Kd.R_drew (Kd.R_drew hS), below_drew (below_drew hBS), Lib.hid (fun k hk => hown.out k (by simpa [Value.ownBlock] using hk))⟩, by simp [intOf]; omega⟩
       ·rw [if_neg hsz] at hst
        cases hst
      ·rw [if_neg (fun e => hB1 e.2.2)] at hst
       have hcx : ¬ xt = ⟨#[]⟩ := fun e => hx2 (by rw [Lib.toList_data, e])
       clear hne hne1
       by_cases hy1 : yk = 1
       ·subst hy1
        have hy2 : (yd == xd) = false := beq_eq_false_iff_ne.2 (fun e => hB1 ⟨rfl, e⟩)
        by_cases hlen : outs.length < 1000000000000
        ·rw [if_pos hlen] at hst
         obtain rfl := Option.some.inj hst
         clear hst
         rw [hm1]
         rw [hm1] at hOA hown
         go_wp2_with (at_builtin; (try rw [drew_alloc]); refine Kd.R_append k34 (w0 := w1) w.heap.size rfl (.tmp 16) (.tmp 18) 22 34 (.agg #[(.int .i64 0), (.int .i64 0), (.string ⟨#[]⟩), (.string ⟨#[]⟩), (.slice none 0 0)]) 72 rfl Tryz.underlying22 info34 rfl (by decide) (by omega) (.slice (some ⟨go, 0, none⟩) (m + 1) c2) outs (⟨xd, 1, xn, xt, xa⟩ : Rw) [.int .i64 xd, .int .i64 1, .string xn, .string xt, .slice A4 xa.length c4] (fun _ => True) (fun k => k < w1.heap.size) rfl ?aX ?aP ?aK ?aF ?aO ?aB ?aS ?aL ?_; (case aX => exact congrArg (fun n => Value.slice (some ⟨n, 0, none⟩) 1 1) hsz1.symm); (case aP => exact Kd.M_below hMp (by first | with_reducible exact below_drew hBA | with_reducible exact hBA)); (case aK => exact fun k hk => ⟨trivial, fun e => by have := hown.out k e.symm; omega⟩); (case aF => exact fun _ _ => trivial); (case aO => first | with_reducible exact Kd.R_drew hOA | with_reducible exact hOA); (case aB => exact Below.mono (by first | with_reducible exact below_drew hBA | with_reducible exact hBA) hbw); (case aS => exact hsA); (case aL => omega); intro v1 w2 hO2 hb2 hg2 hat2; obtain ⟨A3, c3, rfl⟩ := Kd.R_slice hO2; have hB2 := Below.grown (below_drew hBA) hg2 hsB (fun k hk => hown.out k hk); have hown2 := Lib.hid (own_hop hown.out hat2 hsB))
         first
          | (go_region; go_wp2_with (at_builtin; (try rw [drew_alloc]); refine Kd.R_append k34 (w0 := w1) w.heap.size rfl (.tmp 16) (.tmp 18) 22 34 (.agg #[(.int .i64 0), (.int .i64 0), (.string ⟨#[]⟩), (.string ⟨#[]⟩), (.slice none 0 0)]) 72 rfl Tryz.underlying22 info34 rfl (by decide) (by omega) (.slice (some ⟨go, 0, none⟩) (m + 1) c2) outs (⟨xd, 1, xn, xt, xa⟩ : Rw) [.int .i64 xd, .int .i64 1, .string xn, .string xt, .slice A4 xa.length c4] (fun _ => True) (fun k => k < w1.heap.size) rfl ?aX ?aP ?aK ?aF ?aO ?aB ?aS ?aL ?_; (case aX => exact congrArg (fun n => Value.slice (some ⟨n, 0, none⟩) 1 1) hsz1.symm); (case aP => exact Kd.M_below hMp (by first | with_reducible exact below_drew hBA | with_reducible exact hBA)); (case aK => exact fun k hk => ⟨trivial, fun e => by have := hown.out k e.symm; omega⟩); (case aF => exact fun _ _ => trivial); (case aO => first | with_reducible exact Kd.R_drew hOA | with_reducible exact hOA); (case aB => exact Below.mono (by first | with_reducible exact below_drew hBA | with_reducible exact hBA) hbw); (case aS => exact hsA); (case aL => omega); intro v1 w2 hO2 hb2 hg2 hat2; obtain ⟨A3, c3, rfl⟩ := Kd.R_slice hO2; have hB2 := Below.grown (below_drew hBA) hg2 hsB (fun k hk => hown.out k hk); have hown2 := Lib.hid (own_hop hown.out hat2 hsB)))
          | skip
         rw [List.length_append, hm1, List.length_singleton] at hO2 hown2
         exact ⟨⟨i + 1, outs ++ [(⟨xd, 1, xn, xt, xa⟩ : Rw)], rfl, by omega, hrest3, hO2, hB2, hown2⟩, by simp [intOf]; omega⟩
        ·rw [if_neg hlen] at hst
         cases hst
       ·have hy2 : (yk == 1) = false := beq_eq_false_iff_ne.2 hy1
        by_cases hlen : outs.length < 1000000000000
        ·rw [if_pos hlen] at hst
         obtain rfl := Option.some.inj hst
         clear hst
         rw [hm1]
         rw [hm1] at hOA hown
         go_wp2_with (at_builtin; (try rw [drew_alloc]); refine Kd.R_append k34 (w0 := w1) w.heap.size rfl (.tmp 16) (.tmp 18) 22 34 (.agg #[(.int .i64 0), (.int .i64 0), (.string ⟨#[]⟩), (.string ⟨#[]⟩), (.slice none 0 0)]) 72 rfl Tryz.underlying22 info34 rfl (by decide) (by omega) (.slice (some ⟨go, 0, none⟩) (m + 1) c2) outs (⟨xd, 1, xn, xt, xa⟩ : Rw) [.int .i64 xd, .int .i64 1, .string xn, .string xt, .slice A4 xa.length c4] (fun _ => True) (fun k => k < w1.heap.size) rfl ?aX ?aP ?aK ?aF ?aO ?aB ?aS ?aL ?_; (case aX => exact congrArg (fun n => Value.slice (some ⟨n, 0, none⟩) 1 1) hsz1.symm); (case aP => exact Kd.M_below hMp (by first | with_reducible exact below_drew hBA | with_reducible exact hBA)); (case aK => exact fun k hk => ⟨trivial, fun e => by have := hown.out k e.symm; omega⟩); (case aF => exact fun _ _ => trivial); (case aO => first | with_reducible exact Kd.R_drew hOA | with_reducible exact hOA); (case aB => exact Below.mono (by first | with_reducible exact below_drew hBA | with_reducible exact hBA) hbw); (case aS => exact hsA); (case aL => omega); intro v1 w2 hO2 hb2 hg2 hat2; obtain ⟨A3, c3, rfl⟩ := Kd.R_slice hO2; have hB2 := Below.grown (below_drew hBA) hg2 hsB (fun k hk => hown.out k hk); have hown2 := Lib.hid (own_hop hown.out hat2 hsB))
         first
          | (go_region; go_wp2_with (at_builtin; (try rw [drew_alloc]); refine Kd.R_append k34 (w0 := w1) w.heap.size rfl (.tmp 16) (.tmp 18) 22 34 (.agg #[(.int .i64 0), (.int .i64 0), (.string ⟨#[]⟩), (.string ⟨#[]⟩), (.slice none 0 0)]) 72 rfl Tryz.underlying22 info34 rfl (by decide) (by omega) (.slice (some ⟨go, 0, none⟩) (m + 1) c2) outs (⟨xd, 1, xn, xt, xa⟩ : Rw) [.int .i64 xd, .int .i64 1, .string xn, .string xt, .slice A4 xa.length c4] (fun _ => True) (fun k => k < w1.heap.size) rfl ?aX ?aP ?aK ?aF ?aO ?aB ?aS ?aL ?_; (case aX => exact congrArg (fun n => Value.slice (some ⟨n, 0, none⟩) 1 1) hsz1.symm); (case aP => exact Kd.M_below hMp (by first | with_reducible exact below_drew hBA | with_reducible exact hBA)); (case aK => exact fun k hk => ⟨trivial, fun e => by have := hown.out k e.symm; omega⟩); (case aF => exact fun _ _ => trivial); (case aO => first | with_reducible exact Kd.R_drew hOA | with_reducible exact hOA); (case aB => exact Below.mono (by first | with_reducible exact below_drew hBA | with_reducible exact hBA) hbw); (case aS => exact hsA); (case aL => omega); intro v1 w2 hO2 hb2 hg2 hat2; obtain ⟨A3, c3, rfl⟩ := Kd.R_slice hO2; have hB2 := Below.grown (below_drew hBA) hg2 hsB (fun k hk => hown.out k hk); have hown2 := Lib.hid (own_hop hown.out hat2 hsB)))
          | skip
         rw [List.length_append, hm1, List.length_singleton] at hO2 hown2
         exact ⟨⟨i + 1, outs ++ [(⟨xd, 1, xn, xt, xa⟩ : Rw)], rfl, by omega, hrest3, hO2, hB2, hown2⟩, by simp [intOf]; omega⟩
        ·rw [if_neg hlen] at hst
         cases hst
     ·rw [if_neg (fun e => hn0 e.2.1)] at hst
      have hcx : ¬ xt = ⟨#[]⟩ := fun e => hx2 (by rw [Lib.toList_data, e])
      have hl0 : outs.length = 0 := by omega
      clear hne hne1
      by_cases hlen : outs.length < 1000000000000
      ·rw [if_pos hlen] at hst
       obtain rfl := Option.some.inj hst
       clear hst
       rw [hl0]
       rw [hl0] at hOA hown
       go_wp2_with (at_builtin; (try rw [drew_alloc]); refine Kd.R_append k34 (w0 := w1) w.heap.size rfl (.tmp 16) (.tmp 18) 22 34 (.agg #[(.int .i64 0), (.int .i64 0), (.string ⟨#[]⟩), (.string ⟨#[]⟩), (.slice none 0 0)]) 72 rfl Tryz.underlying22 info34 rfl (by decide) (by omega) (.slice A2 0 c2) outs (⟨xd, 1, xn, xt, xa⟩ : Rw) [.int .i64 xd, .int .i64 1, .string xn, .string xt, .slice A4 xa.length c4] (fun _ => True) (fun k => k < w1.heap.size) rfl ?aX ?aP ?aK ?aF ?aO ?aB ?aS ?aL ?_; (case aX => exact congrArg (fun n => Value.slice (some ⟨n, 0, none⟩) 1 1) hsz1.symm); (case aP => exact Kd.M_below hMp (by first | with_reducible exact below_drew hBA | with_reducible exact hBA)); (case aK => exact fun k hk => ⟨trivial, fun e => by have := hown.out k e.symm; omega⟩); (case aF => exact fun _ _ => trivial); (case aO => first | with_reducible exact Kd.R_drew hOA | with_reducible exact hOA); (case aB => exact Below.mono (by first | with_reducible exact below_drew hBA | with_reducible exact hBA) hbw); (case aS => exact hsA); (case aL => omega); intro v1 w2 hO2 hb2 hg2 hat2; obtain ⟨A3, c3, rfl⟩ := Kd.R_slice hO2; have hB2 := Below.grown (below_drew hBA) hg2 hsB (fun k hk => hown.out k hk); have hown2 := Lib.hid (own_hop hown.out hat2 hsB))
       first
        | (go_region; go_wp2_with (at_builtin; (try rw [drew_alloc]); refine Kd.R_append k34 (w0 := w1) w.heap.size rfl (.tmp 16) (.tmp 18) 22 34 (.agg #[(.int .i64 0), (.int .i64 0), (.string ⟨#[]⟩), (.string ⟨#[]⟩), (.slice none 0 0)]) 72 rfl Tryz.underlying22 info34 rfl (by decide) (by omega) (.slice A2 0 c2) outs (⟨xd, 1, xn, xt, xa⟩ : Rw) [.int .i64 xd, .int .i64 1, .string xn, .string xt, .slice A4 xa.length c4] (fun _ => True) (fun k => k < w1.heap.size) rfl ?aX ?aP ?aK ?aF ?aO ?aB ?aS ?aL ?_; (case aX => exact congrArg (fun n => Value.slice (some ⟨n, 0, none⟩) 1 1) hsz1.symm); (case aP => exact Kd.M_below hMp (by first | with_reducible exact below_drew hBA | with_reducible exact hBA)); (case aK => exact fun k hk => ⟨trivial, fun e => by have := hown.out k e.symm; omega⟩); (case aF => exact fun _ _ => trivial); (case aO => first | with_reducible exact Kd.R_drew hOA | with_reducible exact hOA); (case aB => exact Below.mono (by first | with_reducible exact below_drew hBA | with_reducible exact hBA) hbw); (case aS => exact hsA); (case aL => omega); intro v1 w2 hO2 hb2 hg2 hat2; obtain ⟨A3, c3, rfl⟩ := Kd.R_slice hO2; have hB2 := Below.grown (below_drew hBA) hg2 hsB (fun k hk => hown.out k hk); have hown2 := Lib.hid (own_hop hown.out hat2 hsB)))
        | skip
       rw [List.length_append, hl0, List.length_singleton, Nat.zero_add] at hO2 hown2
       exact ⟨⟨i + 1, outs ++ [(⟨xd, 1, xn, xt, xa⟩ : Rw)], rfl, by omega, hrest3, hO2, hB2, hown2⟩, by simp [intOf]; omega⟩
      ·rw [if_neg hlen] at hst
       cases hst
    ·rw [if_neg (fun e => hk1 e.1)] at hst
     have hq1 : (xk == 1) = false := beq_eq_false_iff_ne.2 hk1
     clear hne hne1
     by_cases hlen : outs.length < 1000000000000
     ·rw [if_pos hlen] at hst
      obtain rfl := Option.some.inj hst
      clear hst
      go_wp2_with (at_builtin; (try rw [drew_alloc]); refine Kd.R_append k34 (w0 := w1) w.heap.size rfl (.tmp 16) (.tmp 18) 22 34 (.agg #[(.int .i64 0), (.int .i64 0), (.string ⟨#[]⟩), (.string ⟨#[]⟩), (.slice none 0 0)]) 72 rfl Tryz.underlying22 info34 rfl (by decide) (by omega) (.slice A2 outs.length c2) outs (⟨xd, xk, xn, xt, xa⟩ : Rw) [.int .i64 xd, .int .i64 xk, .string xn, .string xt, .slice A4 xa.length c4] (fun _ => True) (fun k => k < w1.heap.size) rfl ?aX ?aP ?aK ?aF ?aO ?aB ?aS ?aL ?_; (case aX => exact congrArg (fun n => Value.slice (some ⟨n, 0, none⟩) 1 1) hsz1.symm); (case aP => exact Kd.M_below hMp (by first | with_reducible exact below_drew hBA | with_reducible exact hBA)); (case aK => exact fun k hk => ⟨trivial, fun e => by have := hown.out k e.symm; omega⟩); (case aF => exact fun _ _ => trivial); (case aO => first | with_reducible exact Kd.R_drew hOA | with_reducible exact hOA); (case aB => exact Below.mono (by first | with_reducible exact below_drew hBA | with_reducible exact hBA) hbw); (case aS => exact hsA); (case aL => omega); intro v1 w2 hO2 hb2 hg2 hat2; obtain ⟨A3, c3, rfl⟩ := Kd.R_slice hO2; have hB2 := Below.grown (below_drew hBA) hg2 hsB (fun k hk => hown.out k hk); have hown2 := Lib.hid (own_hop hown.out hat2 hsB))
      first
       | (go_region; go_wp2_with (at_builtin; (try rw [drew_alloc]); refine Kd.R_append k34 (w0 := w1) w.heap.size rfl (.tmp 16) (.tmp 18) 22 34 (.agg #[(.int .i64 0), (.int .i64 0), (.string ⟨#[]⟩), (.string ⟨#[]⟩), (.slice none 0 0)]) 72 rfl Tryz.underlying22 info34 rfl (by decide) (by omega) (.slice A2 outs.length c2) outs (⟨xd, xk, xn, xt, xa⟩ : Rw) [.int .i64 xd, .int .i64 xk, .string xn, .string xt, .slice A4 xa.length c4] (fun _ => True) (fun k => k < w1.heap.size) rfl ?aX ?aP ?aK ?aF ?aO ?aB ?aS ?aL ?_; (case aX => exact congrArg (fun n => Value.slice (some ⟨n, 0, none⟩) 1 1) hsz1.symm); (case aP => exact Kd.M_below hMp (by first | with_reducible exact below_drew hBA | with_reducible exact hBA)); (case aK => exact fun k hk => ⟨trivial, fun e => by have := hown.out k e.symm; omega⟩); (case aF => exact fun _ _ => trivial); (case aO => first | with_reducible exact Kd.R_drew hOA | with_reducible exact hOA); (case aB => exact Below.mono (by first | with_reducible exact below_drew hBA | with_reducible exact hBA) hbw); (case aS => exact hsA); (case aL => omega); intro v1 w2 hO2 hb2 hg2 hat2; obtain ⟨A3, c3, rfl⟩ := Kd.R_slice hO2; have hB2 := Below.grown (below_drew hBA) hg2 hsB (fun k hk => hown.out k hk); have hown2 := Lib.hid (own_hop hown.out hat2 hsB)))
       | skip
      rw [List.length_append, List.length_singleton] at hO2 hown2
      exact ⟨⟨i + 1, outs ++ [(⟨xd, xk, xn, xt, xa⟩ : Rw)], rfl, by omega, hrest3, hO2, hB2, hown2⟩, by simp [intOf]; omega⟩
     ·rw [if_neg hlen] at hst
      cases hst
  ·have hr0 : outs = res := by
    have h1 := hrest.out
    rw [List.drop_of_length_le (by omega)] at h1
    exact Option.some.inj h1
   subst hr0
   clear hrest h
   go_wp2
   go_ret
   exact ⟨_, rfl, hO, Go.Proofs.YtkcmghlhpbepcaaGreatDoor.below_then hb1 hbw hB⟩
end Go.Proofs.YtkcmghlhpbepcaaGreatDoorH.W7

/- Contract of build.Tree: token by token. -/
namespace Go.Proofs.YtkcmghlhpbepcaaGreatDoorH.W7
open Go.RowKit Go.Proofs Go.Proofs.YtkcmghlhpbepcaaGreatDoor Go.Proofs.YtkcmghlhpbepcaaGreatDoorW.PrintWords
abbrev Tk := S65
def nmB (s : ByteArray) : Bool := (names_Closes.f 200 s).isSome && (names_Walls.f 200 s).isSome && (names_Gone.f 200 s).isSome && (names_Void.f 200 s).isSome && (build_paragraph.f s).isSome
theorem some_get {α : Type} {o : Option α} (d : α) (h : o.isSome = true) : o = some (o.getD d) := by cases o <;> simp at h ⊢
theorem nmB_ok {s : ByteArray} (h : nmB s = true) : NmOk s := by
 unfold nmB at h
 simp only [Bool.and_eq_true] at h
 obtain ⟨⟨⟨⟨h1, h2⟩, h3⟩, h4⟩, h5⟩ := h
 exact ⟨some_get [] h1, some_get [] h2, some_get false h3, some_get false h4, some_get false h5⟩
def szB (out : List Rw) (s : ByteArray) : Bool := out.all fun x => decide (x.f3.size + s.size ≤ 9223372036854775807)
def stepF (op : List ByteArray) (out : List Rw) (t : Tk) : List ByteArray × List Rw × Bool :=
 if t.f0 = 0 then (op, textF op out false t.f2) else if t.f0 = 3 then (op, layF op out false ⟨0, 2, ⟨#[]⟩, t.f2, []⟩)
 else if t.f0 = 1 then startF op out false t.f1 t.f3 else if t.f0 = 2 then endF op out false t.f1 else (op, out, false)
def okT (out : List Rw) (t : Tk) : Bool :=
 if t.f0 = 0 then szB out t.f2 else if t.f0 = 1 then nmB t.f1 && decide (t.f3.length ≤ 1000000) else if t.f0 = 2 then nmB t.f1 else true
def treeG : List Tk → List ByteArray → List Rw → Option (List Rw × Int)
 | [], _, out => (rows_Normal.f out).bind fun n => some (n, 0)
 | t :: r, op, out => if okT out t then (if (stepF op out t).2.2 then some ([], 2) else treeG r (stepF op out t).1 (stepF op out t).2.1) else none
def build_Tree.f (l : List Tk) : Option (List Rw × Int) := if nmB pN && nmB tbN && nmB trN then treeG l [] [] else none
theorem lay_small (op : List ByteArray) (out : List Rw) (x : Rw) (h : (layF op out false x).2 = false) : (layF op out false x).1.length ≤ 4096 ∧ op.length < 60 := by
 unfold layF at h ⊢
 split at h
 ·cases h
 ·rename_i g
  rw [if_neg g]
  simp
  omega
theorem step_small (op : List ByteArray) (out : List Rw) (t : Tk) (ho : out.length ≤ 4096) (hp : op.length ≤ 60) (h : (stepF op out t).2.2 = false) : (stepF op out t).2.1.length ≤ 4096 ∧ (stepF op out t).1.length ≤ 60 := by
 unfold stepF at h ⊢
 split
 ·rename_i g
  rw [if_pos g] at h
  unfold textF at h ⊢
  split
  ·exact ⟨ho, hp⟩
  ·rename_i g2
   rw [if_neg g2] at h
   split
   ·simpa using ⟨ho, hp⟩
   ·rename_i g3
    rw [if_neg g3] at h
    exact ⟨(lay_small _ _ _ h).1, hp⟩
 ·rename_i g
  rw [if_neg g] at h
  split
  ·rename_i g2
   rw [if_pos g2] at h
   exact ⟨(lay_small _ _ _ h).1, hp⟩
  ·rename_i g2
   rw [if_neg g2] at h
   split
   ·rename_i g3
    rw [if_pos g3] at h
    unfold startF at h ⊢
    have hs := startOp_len op t.f1
    split
    ·exact ⟨ho, hp⟩
    ·rename_i g4
     rw [if_neg g4] at h
     split
     ·exact ⟨ho, hp⟩
     ·rename_i g5
      rw [if_neg g5] at h
      have hl := lay_small _ _ _ h
      refine ⟨hl.1, ?_⟩
      show (if voidL t.f1 = true then startOp op t.f1 else startOp op t.f1 ++ [t.f1]).length ≤ 60
      split
      ·omega
      ·rw [List.length_append]
       have := hl.2
       simp
       omega
   ·rename_i g3
    rw [if_neg g3] at h
    split
    ·rename_i g4
     rw [if_pos g4] at h
     unfold endF at h ⊢
     split
     ·exact ⟨ho, hp⟩
     ·rename_i q1
      rw [if_neg q1] at h
      split
      ·exact ⟨ho, hp⟩
      ·rename_i q2
       rw [if_neg q2] at h
       split
       ·exact ⟨ho, hp⟩
       ·rename_i q3
        rw [if_neg q3] at h
        split
        ·refine ⟨ho, ?_⟩
         show (op.take _).length ≤ 60
         rw [List.length_take]
         omega
        ·rename_i q4
         rw [if_neg q4] at h
         split
         ·rename_i q5
          rw [if_pos q5] at h
          exact ⟨(lay_small _ _ _ h).1, hp⟩
         ·exact ⟨ho, hp⟩
    ·exact ⟨ho, hp⟩
theorem tok_at {w : World} {A : Option Addr} {l : List Tk} (h : k65.C w A l.length l) (i : Nat) (hi : i < l.length) :
 ∃ g o A3 c3, A = some ⟨g, o, none⟩ ∧ w.cell? ⟨g, o + i * 5, none⟩ = some (.int .i64 l[i].f0) ∧ w.cell? ⟨g, o + i * 5 + 1, none⟩ = some (.string l[i].f1) ∧ w.cell? ⟨g, o + i * 5 + 2, none⟩ = some (.string l[i].f2) ∧
  w.cell? ⟨g, o + i * 5 + 3, none⟩ = some (.slice A3 l[i].f3.length c3) ∧ w.cell? ⟨g, o + i * 5 + 4, none⟩ = some (.bool l[i].f4) ∧ k36.C w A3 l[i].f3.length l[i].f3 := by
 obtain ⟨ad, A3, c3, e, c0, c1, c2, c3', c4, l3, g3⟩ := at_T65 h i (by omega) (by omega)
 obtain ⟨ad0, _, _, e0, z0, _⟩ := at_T65 h 0 (by omega) (by omega)
 obtain rfl : ad0 = ad := Option.some.inj (e0.symm.trans e)
 have hs := spot_of (a := ad0) (by simpa [Addr.add] using z0)
 simp only [Int.toNat_natCast] at c0 c1 c2 c3' c4
 rw [hs, addr_at] at c0 c1 c2 c3' c4
 have er : rd_T65 l i = l[i] := by simp [rd_T65, hi]
 rw [er] at c0 c1 c2 c3' c4 g3
 exact ⟨ad0.block, ad0.off, _, _, by rw [e, ← hs], c0, c1, c2, c3', c4, g3⟩
theorem Bd.new (w : World) : Bd w w.heap.size [] [] false (w.alloc (.cells #[.slice none 0 0, .slice none 0 0, .bool false] 73)) :=
 ⟨(Below.refl _ w).alloc (Nat.le_refl _) _, Nat.le_refl _, _, _, new_cells w _ _, Kd.R_nil _ _ _ _ _, Kd.R_nil _ _ _ _ _⟩
theorem Bd.facts {w0 W : World} {B : Nat} {op : List ByteArray} {out : List Rw} {big : Bool} (h : Bd w0 B op out big W) : ∃ v0 Ar cr, W.cell? ⟨B, 0, none⟩ = some v0 ∧ W.cell? ⟨B, 1, none⟩ = some (.slice Ar out.length cr) ∧ W.cell? ⟨B, 2, none⟩ = some (.bool big) ∧ k34.C W Ar out.length out ∧ out.length ≤ cr := by
 obtain ⟨vo, vr, h1, h2, h3⟩ := h.ex
 obtain ⟨Ar, cr, rfl⟩ := Kd.R_slice h3
 obtain ⟨c0, c1, c2, cf⟩ := three_facts h1
 exact ⟨_, Ar, cr, c0, c1, c2, (Kd.R_reads' h3).2.2, (Kd.R_reads' h3).2.1⟩
set_option maxHeartbeats 3200000 in
set_option maxRecDepth 100000 in
theorem build_Tree.calls (A : Option Addr) (c : Nat) (l : List S65) (r1 : List S34) (r2 : Int) (w : World) (hr : k65.C w A l.length l) (hcap : l.length ≤ c) (h : build_Tree.f l = some (r1, r2)) :
 Calls Tryz.prog 21 #[.slice A l.length c] w fun e w' => ∃ v0_ : Value, e = .returned (.tuple #[v0_, .int .i64 r2]) ∧ k34.R 34 w' w.heap.size (fun _ => True) v0_ r1 ∧ Below w.heap.size w w' := by
 unfold build_Tree.f at h
 split at h
 case isFalse => cases h
 rename_i hnm
 simp only [Bool.and_eq_true] at hnm
 have hP := Lib.hid (nmB_ok hnm.1.1)
 have hT := Lib.hid (nmB_ok hnm.1.2)
 have hR := Lib.hid (nmB_ok hnm.2)
 clear hnm
 replace h := Lib.hid h
 have hxl := hr.2.1
 have hnew := Bd.new w
 have hbA : Below w.heap.size w (w.alloc (.cells #[.slice none 0 0, .slice none 0 0, .bool false] 73)) := (Below.refl _ w).alloc (Nat.le_refl _) _
 go_enter Tryz.func21, Tryz.ntmps21
 go_wp2
 go_loopw [11] (fun vi wr => ∃ (i : Nat) (op : List ByteArray) (out : List Rw), vi = .int .i64 i ∧ i ≤ l.length ∧ Hid (treeG (l.drop i) op out = some (r1, r2)) ∧ Bd w w.heap.size op out false wr ∧ out.length ≤ 4096 ∧ op.length ≤ 60 ∧ Below w.heap.size w wr) (fun vi _ => l.length - (intOf vi).toNat)
 case atStart => exact ⟨0, [], [], rfl, Nat.zero_le _, h, hnew, Nat.zero_le _, Nat.zero_le _, hbA⟩
 case round =>
  obtain ⟨i, op, out, rfl, hi, hq, hBd, hol, hpl, hbw⟩ := hrel
  clear hnew hbA h
  have hq2 := hq.out
  clear hq
  by_cases hlt : i < l.length
  ·rw [List.drop_eq_getElem_cons hlt] at hq2
   simp only [treeG] at hq2
   obtain ⟨g, o, A3, c3, rfl, z0, z1, z2, z3, z4, hxa⟩ := tok_at hr i hlt
   replace z0 := cell_keep z0 hbw
   replace z1 := cell_keep z1 hbw
   replace z2 := cell_keep z2 hbw
   replace z3 := cell_keep z3 hbw
   replace z4 := cell_keep z4 hbw
   generalize l[i] = t at *
   obtain ⟨kd, nm, dt, xa, sf⟩ := t
   simp only at z0 z1 z2 z3 z4 hxa
   cases hok : okT out ⟨kd, nm, dt, xa, sf⟩ with
   | false =>
     rw [hok, if_neg (by decide)] at hq2
     cases hq2
   | true =>
   rw [hok, if_pos rfl] at hq2
   have hsm := step_small op out ⟨kd, nm, dt, xa, sf⟩ hol hpl
   have hn := new_cells wr #[.int .i64 kd, .string nm, .string dt, .slice A3 xa.length c3, .bool sf] 65
   obtain ⟨⟨p0, p1, p2, p3, p4⟩, p5⟩ := five_facts hn
   have hbT : Below wr.heap.size wr (wr.alloc (.cells #[.int .i64 kd, .string nm, .string dt, .slice A3 xa.length c3, .bool sf] 65)) := (Below.refl _ wr).alloc (Nat.le_refl _) _
   have h1 := hBd.step hbT
   have hbw1 := hbw.trans (hbT.mono hbw.size)
   have hS : stepF op out ⟨kd, nm, dt, xa, sf⟩ = if kd = 0 then (op, textF op out false dt) else if kd = 3 then (op, layF op out false ⟨0, 2, ⟨#[]⟩, dt, []⟩)
    else if kd = 1 then startF op out false nm xa else if kd = 2 then endF op out false nm else (op, out, false) := rfl
   have hO : okT out ⟨kd, nm, dt, xa, sf⟩ = if kd = 0 then szB out dt else if kd = 1 then nmB nm && decide (xa.length ≤ 1000000) else if kd = 2 then nmB nm else true := rfl
   rw [hok] at hO
   generalize stepF op out ⟨kd, nm, dt, xa, sf⟩ = S at *
   clear hok hn
   by_cases k0 : kd = 0
   ·subst k0
    rw [if_pos rfl] at hS hO
    have hz : ∀ x ∈ out, x.f3.size + dt.size ≤ 9223372036854775807 := fun x hx => by
     have := List.all_eq_true.1 hO.symm x hx
     exact of_decide_eq_true this
    have hcall : Hid (Calls Tryz.prog 67 #[.pointer (some ⟨w.heap.size, 0, none⟩), .string dt] (wr.alloc (.cells #[.int .i64 0, .string nm, .string dt, .slice A3 xa.length c3, .bool sf] 65)) fun e W' => e = .returned (.tuple #[]) ∧
     Bd w w.heap.size S.1 S.2.1 S.2.2 W' ∧ Below w.heap.size (wr.alloc (.cells #[.int .i64 0, .string nm, .string dt, .slice A3 xa.length c3, .bool sf] 65)) W' ∧ KeptB w.heap.size (wr.alloc (.cells #[.int .i64 0, .string nm, .string dt, .slice A3 xa.length c3, .bool sf] 65)) W') := by
     apply Lib.hid
     rw [hS]
     exact text_c w w.heap.size op out false dt _ h1 (by omega) (by omega) hz
    clear hS hO
    obtain ⟨op2, out2, big2⟩ := S
    simp only at hcall hsm hq2
    cases big2 with
    | true =>
      rw [if_pos rfl] at hq2
      simp only [Option.some.injEq, Prod.mk.injEq] at hq2
      obtain ⟨rfl, rfl⟩ := hq2
      clear hsm
      go_wp2_with (go_at_call 67; ((with_reducible refine hcall.out.mono ?_); rintro e W2 ⟨rfl, h2, hb2, hk2⟩; obtain ⟨v0, Ar, cr, q0, q1, q2, hC, hcr⟩ := h2.facts))
      go_ret2
      exact ⟨_, rfl, Kd.R_nil _ _ _ _ _, hbw1.trans hb2⟩
    | false =>
      rw [if_neg (by decide)] at hq2
      replace hq2 := Lib.hid hq2
      have hsm2 := hsm rfl
      clear hsm
      go_wp2_with (go_at_call 67; ((with_reducible refine hcall.out.mono ?_); rintro e W2 ⟨rfl, h2, hb2, hk2⟩; obtain ⟨v0, Ar, cr, q0, q1, q2, hC, hcr⟩ := h2.facts))
      exact ⟨⟨i + 1, op2, out2, rfl, by omega, hq2, h2, hsm2.1, hsm2.2, hbw1.trans hb2⟩, by simp [intOf]; omega⟩
   by_cases k3 : kd = 3
   ·subst k3
    rw [if_neg (by decide), if_pos rfl] at hS
    have hcall : Hid (Calls Tryz.prog 68 #[.pointer (some ⟨w.heap.size, 0, none⟩), .agg #[.int .i64 0, .int .i64 2, .string ⟨#[]⟩, .string dt, .slice none 0 0]] (wr.alloc (.cells #[.int .i64 3, .string nm, .string dt, .slice A3 xa.length c3, .bool sf] 65)) fun e W' => e = .returned (.tuple #[]) ∧
     Bd w w.heap.size S.1 S.2.1 S.2.2 W' ∧ Below w.heap.size (wr.alloc (.cells #[.int .i64 3, .string nm, .string dt, .slice A3 xa.length c3, .bool sf] 65)) W' ∧ KeptB w.heap.size (wr.alloc (.cells #[.int .i64 3, .string nm, .string dt, .slice A3 xa.length c3, .bool sf] 65)) W') := by
     apply Lib.hid
     rw [hS]
     exact lay_c w w.heap.size op out false 0 2 ⟨#[]⟩ dt (.slice none 0 0) [] _ h1 (Kd.R_nil _ _ _ _ _) (by omega) (by omega)
    clear hS hO
    obtain ⟨op2, out2, big2⟩ := S
    simp only at hcall hsm hq2
    cases big2 with
    | true =>
      rw [if_pos rfl] at hq2
      simp only [Option.some.injEq, Prod.mk.injEq] at hq2
      obtain ⟨rfl, rfl⟩ := hq2
      clear hsm
      go_wp2_with (go_at_call 68; ((with_reducible refine hcall.out.mono ?_); rintro e W2 ⟨rfl, h2, hb2, hk2⟩; obtain ⟨v0, Ar, cr, q0, q1, q2, hC, hcr⟩ := h2.facts))
      go_ret2
      exact ⟨_, rfl, Kd.R_nil _ _ _ _ _, hbw1.trans hb2⟩
    | false =>
      rw [if_neg (by decide)] at hq2
      replace hq2 := Lib.hid hq2
      have hsm2 := hsm rfl
      clear hsm
      go_wp2_with (go_at_call 68; ((with_reducible refine hcall.out.mono ?_); rintro e W2 ⟨rfl, h2, hb2, hk2⟩; obtain ⟨v0, Ar, cr, q0, q1, q2, hC, hcr⟩ := h2.facts))
      exact ⟨⟨i + 1, op2, out2, rfl, by omega, hq2, h2, hsm2.1, hsm2.2, hbw1.trans hb2⟩, by simp [intOf]; omega⟩
   by_cases k1 : kd = 1
   ·subst k1
    rw [if_neg (by decide), if_neg (by decide), if_pos rfl] at hS
    rw [if_neg (by decide), if_pos rfl] at hO
    have hO2 := hO.symm
    simp only [Bool.and_eq_true, decide_eq_true_eq] at hO2
    have hcall : Hid (Calls Tryz.prog 69 #[.pointer (some ⟨w.heap.size, 0, none⟩), .agg #[.int .i64 1, .string nm, .string dt, .slice A3 xa.length c3, .bool sf]] (wr.alloc (.cells #[.int .i64 1, .string nm, .string dt, .slice A3 xa.length c3, .bool sf] 65)) fun e W' => e = .returned (.tuple #[]) ∧
     Bd w w.heap.size S.1 S.2.1 S.2.2 W' ∧ Below w.heap.size (wr.alloc (.cells #[.int .i64 1, .string nm, .string dt, .slice A3 xa.length c3, .bool sf] 65)) W' ∧ KeptB w.heap.size (wr.alloc (.cells #[.int .i64 1, .string nm, .string dt, .slice A3 xa.length c3, .bool sf] 65)) W') := by
     apply Lib.hid
     rw [hS]
     exact start_c w w.heap.size op out false 1 nm dt sf A3 c3 xa _ h1 hxa hO2.2 (by omega) (by omega) (nmB_ok hO2.1) hP.out
    clear hS hO
    obtain ⟨op2, out2, big2⟩ := S
    simp only at hcall hsm hq2
    cases big2 with
    | true =>
      rw [if_pos rfl] at hq2
      simp only [Option.some.injEq, Prod.mk.injEq] at hq2
      obtain ⟨rfl, rfl⟩ := hq2
      clear hsm
      go_wp2_with (go_at_call 69; ((with_reducible refine hcall.out.mono ?_); rintro e W2 ⟨rfl, h2, hb2, hk2⟩; obtain ⟨v0, Ar, cr, q0, q1, q2, hC, hcr⟩ := h2.facts))
      go_ret2
      exact ⟨_, rfl, Kd.R_nil _ _ _ _ _, hbw1.trans hb2⟩
    | false =>
      rw [if_neg (by decide)] at hq2
      replace hq2 := Lib.hid hq2
      have hsm2 := hsm rfl
      clear hsm
      go_wp2_with (go_at_call 69; ((with_reducible refine hcall.out.mono ?_); rintro e W2 ⟨rfl, h2, hb2, hk2⟩; obtain ⟨v0, Ar, cr, q0, q1, q2, hC, hcr⟩ := h2.facts))
      exact ⟨⟨i + 1, op2, out2, rfl, by omega, hq2, h2, hsm2.1, hsm2.2, hbw1.trans hb2⟩, by simp [intOf]; omega⟩
   by_cases k2 : kd = 2
   ·subst k2
    rw [if_neg (by decide), if_neg (by decide), if_neg (by decide), if_pos rfl] at hS
    rw [if_neg (by decide), if_neg (by decide), if_pos rfl] at hO
    have hcall : Hid (Calls Tryz.prog 70 #[.pointer (some ⟨w.heap.size, 0, none⟩), .string nm] (wr.alloc (.cells #[.int .i64 2, .string nm, .string dt, .slice A3 xa.length c3, .bool sf] 65)) fun e W' => e = .returned (.tuple #[]) ∧
     Bd w w.heap.size S.1 S.2.1 S.2.2 W' ∧ Below w.heap.size (wr.alloc (.cells #[.int .i64 2, .string nm, .string dt, .slice A3 xa.length c3, .bool sf] 65)) W' ∧ KeptB w.heap.size (wr.alloc (.cells #[.int .i64 2, .string nm, .string dt, .slice A3 xa.length c3, .bool sf] 65)) W') := by
     apply Lib.hid
     rw [hS]
     exact end_c w w.heap.size op out false nm _ h1 (by omega) (by omega) (nmB_ok hO.symm) hP.out hT.out hR.out
    clear hS hO
    obtain ⟨op2, out2, big2⟩ := S
    simp only at hcall hsm hq2
    cases big2 with
    | true =>
      rw [if_pos rfl] at hq2
      simp only [Option.some.injEq, Prod.mk.injEq] at hq2
      obtain ⟨rfl, rfl⟩ := hq2
      clear hsm
      go_wp2_with (go_at_call 70; ((with_reducible refine hcall.out.mono ?_); rintro e W2 ⟨rfl, h2, hb2, hk2⟩; obtain ⟨v0, Ar, cr, q0, q1, q2, hC, hcr⟩ := h2.facts))
      go_ret2
      exact ⟨_, rfl, Kd.R_nil _ _ _ _ _, hbw1.trans hb2⟩
    | false =>
      rw [if_neg (by decide)] at hq2
      replace hq2 := Lib.hid hq2
      have hsm2 := hsm rfl
      clear hsm
      go_wp2_with (go_at_call 70; ((with_reducible refine hcall.out.mono ?_); rintro e W2 ⟨rfl, h2, hb2, hk2⟩; obtain ⟨v0, Ar, cr, q0, q1, q2, hC, hcr⟩ := h2.facts))
      exact ⟨⟨i + 1, op2, out2, rfl, by omega, hq2, h2, hsm2.1, hsm2.2, hbw1.trans hb2⟩, by simp [intOf]; omega⟩
   rw [if_neg k0, if_neg k3, if_neg k1, if_neg k2] at hS
   clear hO
   subst hS
   simp only at hsm hq2
   rw [if_neg (by decide)] at hq2
   replace hq2 := Lib.hid hq2
   clear hsm
   obtain ⟨v0, Ar, cr, q0, q1, q2, hC, hcr⟩ := h1.facts
   have e0 : (kd == 0) = false := beq_eq_false_iff_ne.2 k0
   have e1 : (kd == 1) = false := beq_eq_false_iff_ne.2 k1
   have e2 : (kd == 2) = false := beq_eq_false_iff_ne.2 k2
   have e3 : (kd == 3) = false := beq_eq_false_iff_ne.2 k3
   go_wp2
   exact ⟨⟨i + 1, op, out, rfl, by omega, hq2, h1, hol, hpl, hbw1⟩, by simp [intOf]; omega⟩
  ·rw [List.drop_of_length_le (by omega)] at hq2
   simp only [treeG] at hq2
   obtain ⟨ns, hns, hq3⟩ := Option.bind_eq_some_iff.1 hq2
   simp only [Option.some.injEq, Prod.mk.injEq] at hq3
   obtain ⟨rfl, rfl⟩ := hq3
   obtain ⟨v0, Ar, cr, q0, q1, q2, hC, hcr⟩ := hBd.facts
   have hcall := Lib.hid (rows_Normal.calls Ar cr out ns wr hC hcr hns)
   clear hns hq2
   go_wp2_with (go_at_call 41; ((with_reducible refine hcall.out.mono ?_); rintro e W2 ⟨v2, rfl, hR2, hb2⟩))
   go_ret2
   exact ⟨_, rfl, Kd.R_lower hR2 hbw.size, hbw.trans (hb2.mono hbw.size)⟩
end Go.Proofs.YtkcmghlhpbepcaaGreatDoorH.W7
