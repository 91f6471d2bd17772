/- Lemmas and walks, part 21: QE7H, QE8C, QPW7x8. -/
import Derived.Test.YtkcmghlhpbepcaaGreatDoorN720
import Derived.Test.YtkcmghlhpbepcaaGreatDoorN73
import Derived.Test.YtkcmghlhpbepcaaGreatDoorN75
import Derived.Lib.SliceRun
import Derived.Lib.Walk
set_option linter.unusedVariables false
set_option linter.unusedSimpArgs false

/- Contract of the tree builder's end: what an end tag makes. -/
namespace Go.Proofs.YtkcmghlhpbepcaaGreatDoorH.W7
open Go.RowKit Go.Proofs Go.Proofs.YtkcmghlhpbepcaaGreatDoor Go.Proofs.YtkcmghlhpbepcaaGreatDoorW.PrintWords
abbrev tbN : ByteArray := ⟨#[116, 98, 111, 100, 121]⟩
abbrev trN : ByteArray := ⟨#[116, 114]⟩
abbrev taN : ByteArray := ⟨#[116, 97, 98, 108, 101]⟩
def isTab (nm : ByteArray) : Bool := nm.data.toList == [116, 97, 98, 108, 101] || Lib.containsS (closesL tbN) nm
def endW (nm : ByteArray) : List ByteArray := if isTab nm then wallsL trN else wallsL pN
def endF (op : List ByteArray) (out : List Rw) (big : Bool) (nm : ByteArray) : List ByteArray × List Rw × Bool :=
 if nm.data.toList = [] then (op, out, big) else if goneL nm then (op, out, big) else if voidL nm then (op, out, big)
 else if 0 ≤ foundK op [nm] (endW nm) op.length then (op.take (foundK op [nm] (endW nm) op.length).toNat, out, big)
 else if nm.data.toList = [112] then (op, (layF op out big ⟨0, 0, nm, ⟨#[]⟩, []⟩).1, (layF op out big ⟨0, 0, nm, ⟨#[]⟩, []⟩).2) else (op, out, big)
theorem has_R (A : Option Addr) (c : Nat) (xs : List ByteArray) (x : ByteArray) (w : World) (h : Kd.string.C w A xs.length xs) (hc : xs.length ≤ c) :
 Calls Tryz.prog 114 #[.slice A xs.length c, .string x] w fun e w' => e = .returned (.bool (Lib.containsS xs x)) ∧ w' = w := has_c A c xs x w h
theorem found1_c (base : Nat) (A : Option Addr) (c : Nat) (op : List ByteArray) (A1 : Option Addr) (c1 : Nat) (s : ByteArray) (A2 : Option Addr) (c2 : Nat) (walls : List ByteArray) (X : World) (h0 : Kd.string.R 9 X base (fun _ => True) (.slice A op.length c) op) (h1 : Kd.string.R 9 X base (fun _ => True) (.slice A1 1 c1) [s]) (h2 : Kd.string.R 9 X base (fun _ => True) (.slice A2 walls.length c2) walls) :
 Calls Tryz.prog 77 #[.slice A op.length c, .slice A1 1 c1, .slice A2 walls.length c2] X fun e w' => e = .returned (.int .i64 (foundK op [s] walls op.length)) ∧ Below X.heap.size X w' :=
 build_found.calls A c op A1 c1 [s] A2 c2 walls (foundK op [s] walls op.length) X (Kd.R_reads' h0).2.2 (Kd.R_reads' h0).2.1 (Kd.R_reads' (xs := [s]) h1).2.2 (Kd.R_reads' (xs := [s]) h1).2.1 (Kd.R_reads' h2).2.2 (Kd.R_reads' h2).2.1 rfl
set_option maxHeartbeats 3200000 in
set_option maxRecDepth 100000 in
theorem end_c (w0 : World) (B : Nat) (op : List ByteArray) (out : List Rw) (big : Bool) (nm : ByteArray) (W : World) (h : Bd w0 B op out big W) (hl : out.length ≤ 100000) (ho : op.length ≤ 90000) (hk : NmOk nm) (hp : NmOk pN) (ht : NmOk tbN) (hr : NmOk trN) :
 Calls Tryz.prog 70 #[.pointer (some ⟨B, 0, none⟩), .string nm] W fun e W' => e = .returned (.tuple #[]) ∧
  Bd w0 B (endF op out big nm).1 (endF op out big nm).2.1 (endF op out big nm).2.2 W' ∧ Below w0.heap.size W W' ∧ KeptB B W W' := by
 have hbz := h.below.size
 have hgo := Lib.hid (fun X => names_Gone.calls 200 nm _ X hk.gone)
 have hvo := Lib.hid (fun X => names_Void.calls 200 nm _ X hk.void)
 have hwp := Lib.hid (fun X => names_Walls.calls 200 pN _ X hp.walls)
 have hwr := Lib.hid (fun X => names_Walls.calls 200 trN _ X hr.walls)
 have hct := Lib.hid (fun X => names_Closes.calls 200 tbN _ X ht.closes)
 by_cases hs : nm.data.toList = []
 ·rw [show endF op out big nm = (op, out, big) from if_pos hs]
  have hsz : nm = ⟨#[]⟩ := by
   obtain ⟨d⟩ := nm
   simpa using hs
  clear hgo hvo hwp hwr hct hk
  subst hsz
  go_enter Tryz.func70, Tryz.ntmps70
  go_wp2
  refine bodyPost_ret (results_none rfl _ _ _) rfl ?_
  exact ⟨rfl, h, Below.refl _ _, KeptB.refl _ _⟩
 have e0 : ¬ nm.toList = [] := by rw [Lib.toList_data]; exact hs
 have e1 : (nm.toList == []) = false := beq_eq_false_iff_ne.2 e0
 have e2 : ¬ nm = ⟨#[]⟩ := fun e => hs (by rw [e])
 cases hg : goneL nm with
 | true =>
   rw [show endF op out big nm = (op, out, big) from by unfold endF; rw [if_neg hs, if_pos hg]]
   rw [hg] at hgo
   clear hvo hwp hwr hct hk
   go_enter Tryz.func70, Tryz.ntmps70
   go_wp2_with (go_at_call 34; ((with_reducible refine (hgo.out _).mono ?_); rintro e W2 ⟨rfl, hb2⟩))
   refine bodyPost_ret (results_none rfl _ _ _) rfl ?_
   exact ⟨rfl, h.step hb2, hb2.mono hbz, (KeptB.refl _ _).below hb2⟩
 | false =>
   rw [hg] at hgo
   cases hv : voidL nm with
   | true =>
     rw [show endF op out big nm = (op, out, big) from by unfold endF; rw [if_neg hs, if_neg (by rw [hg]; decide), if_pos hv]]
     rw [hv] at hvo
     clear hwp hwr hct hk
     go_enter Tryz.func70, Tryz.ntmps70
     go_wp2_with (first
      | (go_at_call 34; ((with_reducible refine (hgo.out _).mono ?_); rintro e W2 ⟨rfl, hb2⟩))
      | (go_at_call 31; ((with_reducible refine (hvo.out _).mono ?_); rintro e W3 ⟨rfl, hb3⟩)))
     refine bodyPost_ret (results_none rfl _ _ _) rfl ?_
     exact ⟨rfl, (h.step hb2).step hb3, (hb2.mono hbz).trans (hb3.mono (h.step hb2).below.size), ((KeptB.refl _ _).below hb2).below hb3⟩
   | false =>
     rw [hv] at hvo
     have hF : endF op out big nm = (if 0 ≤ foundK op [nm] (endW nm) op.length then (op.take (foundK op [nm] (endW nm) op.length).toNat, out, big)
      else if nm.data.toList = [112] then (op, (layF op out big ⟨0, 0, nm, ⟨#[]⟩, []⟩).1, (layF op out big ⟨0, 0, nm, ⟨#[]⟩, []⟩).2) else (op, out, big)) := by
      unfold endF; rw [if_neg hs, if_neg (by rw [hg]; decide), if_neg (by rw [hv]; decide)]
     replace hF := Lib.hid hF
     clear hk
     have hew : endW nm = if (nm.data.toList == [116, 97, 98, 108, 101] || Lib.containsS (closesL tbN) nm) then wallsL trN else wallsL pN := rfl
     have q1 : (nm.toList == [116, 97, 98, 108, 101]) = (nm.data.toList == [116, 97, 98, 108, 101]) := by rw [Lib.toList_data]
     generalize (nm.data.toList == [116, 97, 98, 108, 101]) = isT at *
     go_enter Tryz.func70, Tryz.ntmps70
     go_upto_region 2 with (first
      | (go_at_call 34; ((with_reducible refine (hgo.out _).mono ?_); rintro e W2 ⟨rfl, hb2⟩; have h2 := h.step hb2; have hbw2 := hb2.mono hbz; have hk2 := (KeptB.refl B W).below hb2))
      | (go_at_call 31; ((with_reducible refine (hvo.out _).mono ?_); rintro e W3 ⟨rfl, hb3⟩; have h3 := h2.step hb3; have hbw3 := hbw2.trans (hb3.mono h2.below.size); have hk3 := hk2.below hb3))
      | (go_at_call 78; ((with_reducible refine (hwp.out _).mono ?_); rintro e W4 ⟨v4, rfl, hR4, hb4⟩; obtain ⟨A4, c4, rfl⟩ := Kd.R_slice hR4; have h4 := h3.step hb4; have hbw4 := hbw3.trans (hb4.mono h3.below.size); have hk4 := hk3.below hb4; have hR4 := Kd.R_lower hR4 h3.below.size)))
     generalize hct0 : closesL tbN = ctl at *
     go_cut [23] (fun v wx => v = .bool (isT || Lib.containsS ctl nm) ∧ Bd w0 B op out big wx ∧ Below w0.heap.size W wx ∧ KeptB B W wx ∧ Kd.string.R 9 wx w0.heap.size (fun _ => True) (.slice A4 (wallsL pN).length c4) (wallsL pN))
     case first =>
      cases isT with
      | true =>
        go_wp2_with (fail)
        go_meet
        exact ⟨rfl, h4, hbw4, hk4, hR4⟩
      | false =>
        go_wp2_with (first
         | (go_at_call 35; ((with_reducible refine (hct.out _).mono ?_); rintro e W5 ⟨v5, rfl, hR5, hb5⟩; obtain ⟨A5, c5, rfl⟩ := Kd.R_slice hR5; have h5 := h4.step hb5; have hbw5 := hbw4.trans (hb5.mono h4.below.size); have hk5 := hk4.below hb5; have hR6 := Kd.R_below hR4 hb5; have hr5 := Kd.R_reads' hR5))
         | (go_at_call 114; ((with_reducible refine (has_R A5 c5 ctl nm _ hr5.2.2 hr5.2.1).mono ?_); rintro e W6 ⟨rfl, rfl⟩)))
        go_meet
        exact ⟨rfl, h5, hbw5, hk5, hR6⟩
     case rest =>
      obtain ⟨rfl, h7, hbw7, hk7, hR7⟩ := hcut
      clear hct0 hct q1
      generalize (isT || Lib.containsS ctl nm) = isW at *
      go_upto_if 23 with (fail)
      go_cut [4] (fun v wx => ∃ A c, v = .slice A (endW nm).length c ∧ Kd.string.R 9 wx w0.heap.size (fun _ => True) (.slice A (endW nm).length c) (endW nm) ∧ Bd w0 B op out big wx ∧ Below w0.heap.size W wx ∧ KeptB B W wx)
      case first =>
       cases isW with
       | true =>
         go_wp2_with (go_at_call 78; ((with_reducible refine (hwr.out _).mono ?_); rintro e W8 ⟨v8, rfl, hR8, hb8⟩; obtain ⟨A8, c8, rfl⟩ := Kd.R_slice hR8))
         go_meet
         rw [hew]
         first | rw [if_pos rfl] | rw [if_pos trivial]
         exact ⟨_, _, rfl, Kd.R_lower hR8 h7.below.size, h7.step hb8, hbw7.trans (hb8.mono h7.below.size), hk7.below hb8⟩
       | false =>
         go_wp2
         go_meet
         rw [hew, if_neg (by decide)]
         exact ⟨_, _, rfl, hR7, h7, hbw7, hk7⟩
      case rest =>
       obtain ⟨A9, c9, rfl, hR9, h9, hbw9, hk9⟩ := hcut
       clear hew hR7 h7 hbw7 hk7 hwp hwr hgo hvo h2 h3 h4 hbw2 hbw3 hbw4 hk2 hk3 hk4 hR4
       generalize endW nm = wl at *
       have hbl := (Below.refl _ wc).alloc (Nat.le_refl _) (.cells #[.string nm] 9)
       have hl10 := lit1 wc nm w0.heap.size h9.below.size
       have hR10 := Kd.R_below hR9 hbl
       obtain ⟨vo, vr, g1, g2, g3⟩ := id h9.ex
       obtain ⟨Ao, co, rfl⟩ := Kd.R_slice g2
       have hV10 := Kd.R_below g2 hbl
       obtain ⟨f0, f1, f2, ff⟩ := three_facts g1
       obtain ⟨y0, y1, y2, yf⟩ := three_facts (heap_below g1 hbl)
       have hfd := Lib.hid (found1_c w0.heap.size Ao co op _ _ nm A9 c9 wl _ hV10 hl10 hR10)
       have hfl := foundK_lt op [nm] wl op.length
       by_cases hneg : 0 ≤ foundK op [nm] wl op.length
       ·have hF2 := hF.out
        rw [if_pos hneg] at hF2
        obtain ⟨i, hi⟩ : ∃ i : Nat, foundK op [nm] wl op.length = i := ⟨(foundK op [nm] wl op.length).toNat, by omega⟩
        rw [hi] at hfd hfl hF2
        simp only [Int.toNat_natCast] at hF2
        have hil : i < op.length := by omega
        have hrd := Kd.R_reads' g2
        replace hF2 := Lib.hid hF2
        clear hi hneg hfl hR10 hR9 hl10 hF
        have e3 : decide ((0 : Int) ≤ (i : Int)) = true := decide_eq_true (by omega)
        go_wp2_with (go_at_call 77; ((with_reducible refine hfd.out.mono ?_); rintro e W11 ⟨rfl, hb11⟩; have g11 := heap_below (heap_below g1 hbl) hb11; obtain ⟨z0, z1, z2, zf⟩ := three_facts g11))
        refine bodyPost_ret (results_none rfl _ _ _) rfl ?_
        rw [hF2.out]
        have hV11 := Kd.R_below hV10 hb11
        have h11 := (h9.step hbl).step hb11
        have g3' := Kd.R_below (Kd.R_below g3 hbl) hb11
        have htk := Kd.R_take (m := i) hV11 (by omega)
        have hbw11 := (hbw9.trans (hbl.mono h9.below.size)).trans (hb11.mono (h9.step hbl).below.size)
        refine ⟨rfl, ⟨h11.below.setCell (p := ⟨B, 0, none⟩) h.base _, h.base, _, _, blk_put g11 0 _ rfl, Kd.R_set htk g11 (by decide) 0 _, Kd.R_set g3' g11 (by decide) 0 _⟩, hbw11.setCell (p := ⟨B, 0, none⟩) h.base _, ((hk9.below hbl).below hb11).set 0 _⟩
       ·have hF2 := hF.out
        rw [if_neg hneg] at hF2
        generalize foundK op [nm] wl op.length = i at *
        have e3 : decide ((0 : Int) ≤ i) = false := decide_eq_false hneg
        clear hneg hfl hR10 hR9 hl10 hF
        by_cases hp2 : nm.data.toList = [112]
        ·rw [if_pos hp2] at hF2
         replace hF2 := Lib.hid hF2
         have hnp : nm = pN := by
          obtain ⟨⟨d⟩⟩ := nm
          simpa using hp2
         subst hnp
         clear hs e0 e1 e2 hp2
         go_wp2_with (first
          | (go_at_call 77; ((with_reducible refine hfd.out.mono ?_); rintro e W11 ⟨rfl, hb11⟩; have h11 := (h9.step hbl).step hb11; have hbw11 := (hbw9.trans (hbl.mono h9.below.size)).trans (hb11.mono (h9.step hbl).below.size); have hk11 := (hk9.below hbl).below hb11))
          | (go_at_call 68; ((with_reducible refine (lay_c w0 B op out big 0 0 pN ⟨#[]⟩ (.slice none 0 0) [] _ h11 (Kd.R_nil _ _ _ _ _) hl (by omega)).mono ?_); rintro e W12 ⟨rfl, h12, hb12, hk12⟩)))
         go_end0
         rw [hF2.out]
         exact ⟨rfl, h12, hbw11.trans hb12, hk11.trans hk12⟩
        ·rw [if_neg hp2] at hF2
         replace hF2 := Lib.hid hF2
         have e4 : (nm.toList == [112]) = false := by rw [Lib.toList_data]; exact beq_eq_false_iff_ne.2 hp2
         have e5 : ¬ nm = ⟨#[112]⟩ := fun e => hp2 (by rw [e])
         go_wp2_with (go_at_call 77; ((with_reducible refine hfd.out.mono ?_); rintro e W11 ⟨rfl, hb11⟩; have h11 := (h9.step hbl).step hb11; have hbw11 := (hbw9.trans (hbl.mono h9.below.size)).trans (hb11.mono (h9.step hbl).below.size); have hk11 := (hk9.below hbl).below hb11))
         go_end0
         rw [hF2.out]
         exact ⟨rfl, h11, hbw11, hk11⟩
end Go.Proofs.YtkcmghlhpbepcaaGreatDoorH.W7

/- slices.Clone of attributes, given to the printed walk. -/
namespace Go.Proofs.YtkcmghlhpbepcaaGreatDoorH.W7
open Go.RowKit Go.Proofs.YtkcmghlhpbepcaaGreatDoorW.PrintWords Go.Proofs.YtkcmghlhpbepcaaGreatDoorW.PrintLast Go.Proofs.YtkcmghlhpbepcaaGreatDoorW.PrintMore
def api_Attr.f (l0 : List S36) : Option (List S36) := if l0.length * 32 ≤ 140737488355328 then some l0 else none
set_option maxHeartbeats 2000000 in
set_option maxRecDepth 100000 in
theorem api_Attr.calls (A0 : Option Addr) (c0 : Nat) (l0 : List S36) (r : List S36) (w : World) (hr0 : Kd.C k36 w A0 l0.length l0) (hc0 : l0.length ≤ c0) (h : api_Attr.f l0 = some r) :
 Calls Tryz.prog 132 #[.slice A0 l0.length c0] w fun e w' => ∃ v0_ : Value, e = .returned (v0_) ∧ Kd.R k36 36 w' w.heap.size (fun _ => True) v0_ r ∧ Below w.heap.size w w' := by
 unfold api_Attr.f at h
 split at h
 ·rename_i hz
  obtain rfl := Option.some.inj h
  clear h
  have HR0 := Aside0.mk hr0
  have HC0 := Aside0.mk hc0
  clear hr0 hc0
  have HB := Aside0.mk (Below.refl w.heap.size w)
  have hu := Tryz.underlying32
  have q22 : ∀ (w : World) (a : Option Addr) (n c n' c' : Nat), (binOp .eql 32 (.slice a n c) (.slice none n' c')).run Tryz.prog w = .ok (.bool a.isNone) w := fun w a n c n' c' => Lib.run_eql_slice_nil w _ _ a n c n' c' hu
  cases A0 with
  | none =>
    have hnil : l0 = [] := by
     cases l0 with
     | nil => rfl
     | cons x xs => obtain ⟨ad, e, _⟩ := HR0.out.2.2 (by simp); cases e
    subst hnil
    go_enter Tryz.func132, Tryz.ntmps132
    go_wp2
    go_ret
    exact ⟨_, rfl, Kd.R_nil _ _ _ _ _, HB.out⟩
  | some ad =>
    go_enter Tryz.func132, Tryz.ntmps132
    go_wp2_with (first | ((with_reducible refine gate_dst (N := 5) rfl ?_); refine Kd.R_lit k36 _ 36 ?hg (N := 5) ?hd (xs := ([] : List (S36))) (inner := []) (ok := fun _ => True) (okp := fun _ => True) ?hr ?hp (fun _ hk => hk) trivial (Below.refl _ _) (Nat.le_refl _) (by simp) ?_; (case hd => rfl); (case hg => rfl); (case hr => first | (go_simp; done) | (go_simp; rfl)); (case hp => exact (Reps.none _ _)); intro v5 w5 ho5 hb5 hg_ hnew_; clear hg_ hnew_; have HO5 := Aside0.mk ho5; have HB5 := Aside0.mk hb5; clear ho5 hb5) | ((with_reducible refine gate_builtin (b := .append) (xs := #[.tmp 5, .tmp 6]) rfl ?_); at_builtin; refine Kd.R_append_rows k36 (w0 := w) w.heap.size rfl (.tmp 5) (.tmp 6) 32 36 (.agg #[(.string ⟨#[]⟩), (.string ⟨#[]⟩)]) 32 rfl Tryz.underlying32 info36 rfl (by decide) (by omega) v5 [] l0 _ _ _ (fun _ => True) (fun _ => False) rfl rfl HO5.out (Kd.C_below HR0.out HB5.out) (fun _ _ h => h) (fun _ h => h.elim) (fun _ _ => trivial) HB5.out HB5.out.size (by simpa using hz) ?_; intro v7 w7 ho7 hb7 hg_ hat_))
    go_ret
    exact ⟨_, rfl, by simpa using ho7, hb7⟩
 ·cases h
end Go.Proofs.YtkcmghlhpbepcaaGreatDoorH.W7

/- Words and walks used below. -/
namespace Go.Proofs.YtkcmghlhpbepcaaGreatDoorH.W7
open Go.RowKit Go.Proofs.YtkcmghlhpbepcaaGreatDoorW.PrintWords Go.Proofs.YtkcmghlhpbepcaaGreatDoorW.PrintLast Go.Proofs.YtkcmghlhpbepcaaGreatDoorW.PrintMore
attribute [local go_sem] max2_int min2_int max_two min_two max_three min_three max_four min_four   -- for this text's walks alone
def rows_moved.l0 : Nat → Int → List (S34) → List (S34) → Int → Int → Option ((List (S34)))
 | 0, _, _, _, _, _ => none
 | k + 1, x1, x5, x8, x9, x10 => if x10 < x9 then (if 0 ≤ x10 then (if x10 < (x8.length : Int) then ((api_Attr.f ((rd_T34 x8 x10).f4)).bind fun t115 => (if x5.length < 1954687338268 then (rows_moved.l0 k x1 (x5 ++ [(⟨wrap64 (((rd_T34 x8 x10).f0) + x1), (rd_T34 x8 x10).f1, (rd_T34 x8 x10).f2, (rd_T34 x8 x10).f3, t115⟩ : S34)]) x8 x9 (wrap64 (x10 + 1))) else (none))) else (none)) else (none)) else (some x5)
def rows_moved.f (k : Nat) (l0 : List (S34)) (a1 : Int) : Option ((List (S34))) := rows_moved.l0 k a1 ([] : List (S34)) l0 (l0.length : Int) 0
set_option maxHeartbeats 8000000 in
set_option maxRecDepth 100000 in
theorem rows_moved.calls (k : Nat) (A0 : Option Addr) (c0 : Nat) (l0 : List (S34)) (a1 : Int) (r : List (S34)) (w : World) (hr0 : Kd.C k34 w A0 l0.length l0) (hc0 : l0.length ≤ c0) (h : rows_moved.f k l0 a1 = some r) :
 Calls Tryz.prog 89 #[.slice A0 l0.length c0, .int .i64 a1] w fun e w' => ∃ v0_ : Value, e = .returned (v0_) ∧ Kd.R k34 34 w' w.heap.size (fun _ => True) v0_ r ∧ Below w.heap.size w w' := by
 have hu34 := Tryz.underlying34
 have HR0 := Aside0.mk hr0
 have HC0 := Aside0.mk hc0
 clear hr0 hc0
 have HB := Aside0.mk (Below.refl w.heap.size w)
 have H : (rows_moved.l0 k a1 ([] : List (S34)) l0 (l0.length : Int) 0) = some r := h
 clear h
 have H' := Aside0.mk H
 clear H
 go_enter Tryz.func89, Tryz.ntmps89
 go_wp2
 go_loopg [5, 10] k (fun kq v5 v10 w' => ∃ (x5_1 : List (S34)) (x10_1 : Int), v10 = .int .i64 x10_1 ∧ Aside0 (rows_moved.l0 kq a1 x5_1 l0 (l0.length : Int) x10_1 = some r) ∧ Aside0 (kq ≤ k) ∧ Aside0 (Kd.R k34 34 w' w.heap.size (fun _ => True) v5 x5_1) ∧ Aside0 (Below w.heap.size w w'))
 case atStart => exact ⟨(([] : List (S34))), (0), (by first | rfl | (simp; done) | (simp [*]; done) | (simp; generalize ByteArray.toList _ = l_; cases l_ <;> rfl)), H', ⟨Nat.le_refl _⟩, ⟨by first | exact Kd.R_nil _ _ _ _ _ | exact Kd.N_nil _ _ _ _ _ | exact Kd.V_nil _ _ _ _ _ | exact Kd.Q_nil _ _ _ _ _ | exact Kd.S_nil _ _ _ _ _⟩, ⟨bz⟩⟩
 case round =>
  clear H'
  try clear p2
  obtain ⟨x5_1, x10_1, rfl, HA, HK1, HO_5, HB⟩ := hrel
  cases gk with
  | zero => exact absurd HA.out (by simp [rows_moved.l0])
  | succ k1 =>
    have H := HA.out
    clear HA
    simp only [rows_moved.l0] at H
    by_cases c3 : x10_1 < (l0.length : Int)
    ·rw [if_pos c3] at H
     have c3b0 : decide (x10_1 < (l0.length : Int)) = true := decide_eq_true c3
     clear c3
     by_cases c4 : 0 ≤ x10_1
     ·rw [if_pos c4] at H
      have c4b0 : decide (0 ≤ x10_1) = true := decide_eq_true c4
      clear c4
      by_cases c5 : x10_1 < (l0.length : Int)
      ·rw [if_pos c5] at H
       have c5b0 : decide (x10_1 < (l0.length : Int)) = true := decide_eq_true c5
       clear c5
       replace H := Option.bind_eq_some_iff.mp H
       obtain ⟨t115, A60, H⟩ := H
       replace H : (if x5_1.length < 1954687338268 then (rows_moved.l0 k1 a1 (x5_1 ++ [(⟨wrap64 (((rd_T34 l0 x10_1).f0) + a1), (rd_T34 l0 x10_1).f1, (rd_T34 l0 x10_1).f2, (rd_T34 l0 x10_1).f3, t115⟩ : S34)]) l0 (l0.length : Int) (wrap64 (x10_1 + 1))) else (none)) = some r := H
       have A6 := Aside0.mk A60
       clear A60
       by_cases c7 : x5_1.length < 1954687338268
       ·rw [if_pos c7] at H
        have LMc7 := Aside0.mk c7
        clear c7
        obtain ⟨y118, hy118⟩ : ∃ y_ : List (S34), y_ = (x5_1 ++ [(⟨wrap64 (((rd_T34 l0 x10_1).f0) + a1), (rd_T34 l0 x10_1).f1, (rd_T34 l0 x10_1).f2, (rd_T34 l0 x10_1).f3, t115⟩ : S34)]) := ⟨_, rfl⟩
        replace H : (rows_moved.l0 k1 a1 y118 l0 (l0.length : Int) (wrap64 (x10_1 + 1))) = some r := by first | (rw [hy118]; with_reducible exact H) | (have H2_ := (Option.bind_some _ _).symm.trans H; rw [hy118]; with_reducible exact H2_) | (have H2_ := (Option.bind_some _ _).symm.trans H; with_reducible exact H2_) | with_reducible exact H | (rw [hy118]; exact H) | exact H
        have Ny118 := Aside0.mk hy118
        clear hy118
        have H' := Aside0.mk H
        clear H
        have p113 : 0 ≤ (x10_1 : Int) := (by first | exact of_decide_eq_true (by first | (with_reducible assumption) | assumption) | assumption | omega)
        have q113 : x10_1 < (l0.length : Int) := (by first | exact of_decide_eq_true (by first | (with_reducible assumption) | assumption) | assumption | omega)
        obtain ⟨ad113, A113_4, c113_4, e113, hx113_0, hx113_1, hx113_2, hx113_3, hx113_4, hl113_4, hi113_4⟩ := at_T34 HR0.out x10_1 p113 q113
        cases e113
        replace hx113_0 := (HB.out.cell (World.block_lt_of_cell? w _ hx113_0)).trans hx113_0
        replace hx113_1 := (HB.out.cell (World.block_lt_of_cell? w _ hx113_1)).trans hx113_1
        replace hx113_2 := (HB.out.cell (World.block_lt_of_cell? w _ hx113_2)).trans hx113_2
        replace hx113_3 := (HB.out.cell (World.block_lt_of_cell? w _ hx113_3)).trans hx113_3
        replace hx113_4 := (HB.out.cell (World.block_lt_of_cell? w _ hx113_4)).trans hx113_4
        have HR113_4 := Aside0.mk hi113_4
        have HC113_4 := Aside0.mk hl113_4
        clear hi113_4 hl113_4
        replace p113 := eq_true p113
        replace q113 := eq_true q113
        go_wp2_with (first | ((with_reducible refine gate_dst (N := 7) rfl ?_); refine box_event ?hg (N := 7) ?hd (cs := #[.int .i64 0, .int .i64 0, .string (⟨#[]⟩ : ByteArray), .string (⟨#[]⟩ : ByteArray), .slice none 0 0]) (t := 34) ?hr ?_; (case hd => rfl); (case hg => rfl); (case hr => first | (go_simp; done) | (go_simp; rfl)); intro gb114 hg w8 hbox hb; have n0_ := Aside0.mk (Kd.R_below (Kd.R_elderB (rz HO_5.out) gb114 (Nat.le_of_eq hg.symm)) hb); have n1_ := Aside0.mk (below_step bz hb); have n2_ := Aside0.mk (hbox); have n3_ := Aside0.mk ((by rw [hg]; exact (below_size bz) : w.heap.size ≤ gb114)); have n4_ := Aside0.mk ((by rw [hg]; exact (below_size bz) : w.heap.size ≤ gb114)); clear HO_5; clear HB; have HO_5 := n0_; have HB := n1_; have BK114 := n2_; have GW114 := n3_; have GE114 := n4_; clear n0_ n1_ n2_ n3_ n4_; clear hb hbox hg; have hcz9_0 : w8.cell? ⟨gb114, 0, none⟩ = some (.int .i64 0) := (blk_cell BK114.out 0).trans rfl; have hcz9_1 : w8.cell? ⟨gb114, 1, none⟩ = some (.int .i64 0) := (blk_cell BK114.out 1).trans rfl; have hcz9_2 : w8.cell? ⟨gb114, 2, none⟩ = some (.string (⟨#[]⟩ : ByteArray)) := (blk_cell BK114.out 2).trans rfl; have hcz9_3 : w8.cell? ⟨gb114, 3, none⟩ = some (.string (⟨#[]⟩ : ByteArray)) := (blk_cell BK114.out 3).trans rfl; have hcz9_4 : w8.cell? ⟨gb114, 4, none⟩ = some (.slice none 0 0) := (blk_cell BK114.out 4).trans rfl; have hfz9_0 := blk_frozen BK114.out 0; have hfz9_1 := blk_frozen BK114.out 1; have hfz9_2 := blk_frozen BK114.out 2; have hfz9_3 := blk_frozen BK114.out 3; have hfz9_4 := blk_frozen BK114.out 4) | ((with_reducible refine gate_callee (f := 132) rfl ?_); refine goesL_ (some 21) rfl rfl Tryz.func132 (by kernel_rfl) rfl #[.slice A113_4 ((rd_T34 l0 x10_1).f4).length c113_4] rfl (by (try simp only [List.map_toArray, List.map_cons, List.map_nil]); first | done | rfl | (simp only [List.length_drop, List.length_take]; rfl)) ?_; (with_reducible refine (api_Attr.calls _ _ ((rd_T34 l0 x10_1).f4) t115 _ ?side1 ?side2 A6.out).mono ?_); (case side1 => exact Kd.C_below HR113_4.out (bs GE114.out)); (case side2 => exact HC113_4.out); rintro e w10 ⟨v116, rfl, ho0, hb⟩; refine ⟨_, rfl, ?_⟩; have n0_ := Aside0.mk (Kd.R_elder' (by (with_reducible repeat (first | apply Kd.R_alloc | apply Kd.R_drewN | apply Kd.R_drew)); exact (Kd.R_mono (Kd.R_far (p := ⟨gb114, 0, none⟩) (Kd.R_far (p := ⟨gb114, 4, none⟩) (Kd.R_far (p := ⟨gb114, 3, none⟩) (Kd.R_far (p := ⟨gb114, 2, none⟩) (Kd.R_far (p := ⟨gb114, 1, none⟩) (Kd.R_far (p := ⟨gb114, 0, none⟩) (Kd.R_mono HO_5.out (fun k_ hk => (⟨hk, hk.2⟩ : _ ∧ k_ ≠ gb114))) (fun _ hk => hk.2) (.int .i64 ((rd_T34 l0 x10_1).f0))) (fun _ hk => hk.2) (.int .i64 ((rd_T34 l0 x10_1).f1))) (fun _ hk => hk.2) (.string ((rd_T34 l0 x10_1).f2))) (fun _ hk => hk.2) (.string ((rd_T34 l0 x10_1).f3))) (fun _ hk => hk.2) (.slice A113_4 ((rd_T34 l0 x10_1).f4).length c113_4)) (fun _ hk => hk.2) (.int .i64 (wrap64 (((rd_T34 l0 x10_1).f0) + a1)))) (fun _ h_ => h_.1))) (Kd.R_base ho0) hb); have n1_ := Aside0.mk (Kd.R_lower ho0 (below_size (bs GE114.out))); have n2_ := Aside0.mk (blk_below (g := gb114) (o := .cells #[.int .i64 (wrap64 (((rd_T34 l0 x10_1).f0) + a1)), .int .i64 ((rd_T34 l0 x10_1).f1), .string ((rd_T34 l0 x10_1).f2), .string ((rd_T34 l0 x10_1).f3), .slice A113_4 ((rd_T34 l0 x10_1).f4).length c113_4] 34 (0, 0)) (by (with_reducible repeat (first | refine blk_drewN ?_ _ | refine blk_drew ?_ | refine blk_alloc ?_ _)); refine blk_put (cs := #[.int .i64 ((rd_T34 l0 x10_1).f0), .int .i64 ((rd_T34 l0 x10_1).f1), .string ((rd_T34 l0 x10_1).f2), .string ((rd_T34 l0 x10_1).f3), .slice A113_4 ((rd_T34 l0 x10_1).f4).length c113_4]) ?_ 0 _ rfl; (with_reducible repeat (first | refine blk_drewN ?_ _ | refine blk_drew ?_ | refine blk_alloc ?_ _)); refine blk_put (cs := #[.int .i64 ((rd_T34 l0 x10_1).f0), .int .i64 ((rd_T34 l0 x10_1).f1), .string ((rd_T34 l0 x10_1).f2), .string ((rd_T34 l0 x10_1).f3), .slice none 0 0]) ?_ 4 _ rfl; (with_reducible repeat (first | refine blk_drewN ?_ _ | refine blk_drew ?_ | refine blk_alloc ?_ _)); refine blk_put (cs := #[.int .i64 ((rd_T34 l0 x10_1).f0), .int .i64 ((rd_T34 l0 x10_1).f1), .string ((rd_T34 l0 x10_1).f2), .string (⟨#[]⟩ : ByteArray), .slice none 0 0]) ?_ 3 _ rfl; (with_reducible repeat (first | refine blk_drewN ?_ _ | refine blk_drew ?_ | refine blk_alloc ?_ _)); refine blk_put (cs := #[.int .i64 ((rd_T34 l0 x10_1).f0), .int .i64 ((rd_T34 l0 x10_1).f1), .string (⟨#[]⟩ : ByteArray), .string (⟨#[]⟩ : ByteArray), .slice none 0 0]) ?_ 2 _ rfl; (with_reducible repeat (first | refine blk_drewN ?_ _ | refine blk_drew ?_ | refine blk_alloc ?_ _)); refine blk_put (cs := #[.int .i64 ((rd_T34 l0 x10_1).f0), .int .i64 0, .string (⟨#[]⟩ : ByteArray), .string (⟨#[]⟩ : ByteArray), .slice none 0 0]) ?_ 1 _ rfl; (with_reducible repeat (first | refine blk_drewN ?_ _ | refine blk_drew ?_ | refine blk_alloc ?_ _)); refine blk_put (cs := #[.int .i64 0, .int .i64 0, .string (⟨#[]⟩ : ByteArray), .string (⟨#[]⟩ : ByteArray), .slice none 0 0]) ?_ 0 _ rfl; (with_reducible repeat (first | refine blk_drewN ?_ _ | refine blk_drew ?_ | refine blk_alloc ?_ _)); exact BK114.out) hb); have n3_ := Aside0.mk (below_step (bs GE114.out) hb); clear HO_5; clear BK114; clear HB; have HO_5 := n0_; have HO117 := n1_; have BK114 := n2_; have HB := n3_; clear n0_ n1_ n2_ n3_; (try clear hb); (try clear hb2); (try clear hk); (try clear hi); (try clear ho0); obtain ⟨Ao11, co11, eo11⟩ := Kd.R_slice HO117.out; subst eo11; have hcz12_0 : w10.cell? ⟨gb114, 0, none⟩ = some (.int .i64 (wrap64 (((rd_T34 l0 x10_1).f0) + a1))) := (blk_cell BK114.out 0).trans rfl; have hcz12_1 : w10.cell? ⟨gb114, 1, none⟩ = some (.int .i64 ((rd_T34 l0 x10_1).f1)) := (blk_cell BK114.out 1).trans rfl; have hcz12_2 : w10.cell? ⟨gb114, 2, none⟩ = some (.string ((rd_T34 l0 x10_1).f2)) := (blk_cell BK114.out 2).trans rfl; have hcz12_3 : w10.cell? ⟨gb114, 3, none⟩ = some (.string ((rd_T34 l0 x10_1).f3)) := (blk_cell BK114.out 3).trans rfl; have hcz12_4 : w10.cell? ⟨gb114, 4, none⟩ = some (.slice A113_4 ((rd_T34 l0 x10_1).f4).length c113_4) := (blk_cell BK114.out 4).trans rfl; have hfz12_0 := blk_frozen BK114.out 0; have hfz12_1 := blk_frozen BK114.out 1; have hfz12_2 := blk_frozen BK114.out 2; have hfz12_3 := blk_frozen BK114.out 3; have hfz12_4 := blk_frozen BK114.out 4) | ((with_reducible refine gate_store (t := 32) (p := 22) rfl ?_); refine store_event (t := 32) (p := 22) (v := ?vo_w13) (w1 := (w10.setCell ⟨gb114, 4, none⟩ (.slice Ao11 t115.length co11))) ?hg ?ho ?hn ?hr ?_; (case ho => rfl); (case hg => rfl); (case hn => rfl); (case hr => first | (go_simp; done) | (go_simp; rfl)); intro w13 hw; have n0_ : Aside0 (Kd.R k34 34 w13 w.heap.size (fun k_ => some k_ ≠ (.slice Ao11 t115.length co11 : Value).ownBlock ∧ k_ ≠ gb114) u5 x5_1) := ⟨(by rw [hw]; exact (by (with_reducible repeat (first | apply Kd.R_alloc | apply Kd.R_drewN | apply Kd.R_drew)); exact Kd.R_mono (Kd.R_far (p := ⟨gb114, 4, none⟩) (Kd.R_mono HO_5.out (fun k_ hk => (⟨hk, hk.1.2⟩ : _ ∧ k_ ≠ gb114))) (fun _ hk => hk.2) (.slice Ao11 t115.length co11)) (fun _ hk => ⟨hk.1.2, hk.1.1.2⟩)))⟩; have n1_ : Aside0 (Kd.R k36 36 w13 w.heap.size (fun _ => True) (.slice Ao11 t115.length co11) t115) := ⟨(by rw [hw]; exact (by (with_reducible repeat (first | apply Kd.R_alloc | apply Kd.R_drewN | apply Kd.R_drew)); exact Kd.R_mono (Kd.R_far (p := ⟨gb114, 4, none⟩) (Kd.R_types HO117.out BK114.out (by decide)) (fun _ hk => hk.2) (.slice Ao11 t115.length co11)) (fun _ hk => trivial)))⟩; have n2_ : Aside0 (w13.heap[gb114]? = some (.cells #[.int .i64 (wrap64 (((rd_T34 l0 x10_1).f0) + a1)), .int .i64 ((rd_T34 l0 x10_1).f1), .string ((rd_T34 l0 x10_1).f2), .string ((rd_T34 l0 x10_1).f3), .slice Ao11 t115.length co11] 34 (0, 0))) := ⟨(by rw [hw]; exact (by (with_reducible repeat (first | refine blk_drewN ?_ _ | refine blk_drew ?_ | refine blk_alloc ?_ _)); refine blk_put (cs := #[.int .i64 (wrap64 (((rd_T34 l0 x10_1).f0) + a1)), .int .i64 ((rd_T34 l0 x10_1).f1), .string ((rd_T34 l0 x10_1).f2), .string ((rd_T34 l0 x10_1).f3), .slice A113_4 ((rd_T34 l0 x10_1).f4).length c113_4]) ?_ 4 _ rfl; (with_reducible repeat (first | refine blk_drewN ?_ _ | refine blk_drew ?_ | refine blk_alloc ?_ _)); exact BK114.out))⟩; have n3_ : Aside0 (Below w.heap.size w w13) := ⟨(by rw [hw]; exact (bs GE114.out))⟩; clear hw; clear HO_5; clear HO117; clear BK114; clear HB; have HO_5 := n0_; have HO117 := n1_; have BK114 := n2_; have HB := n3_; clear n0_ n1_ n2_ n3_; have hcz14_0 : w13.cell? ⟨gb114, 0, none⟩ = some (.int .i64 (wrap64 (((rd_T34 l0 x10_1).f0) + a1))) := (blk_cell BK114.out 0).trans rfl; have hcz14_1 : w13.cell? ⟨gb114, 1, none⟩ = some (.int .i64 ((rd_T34 l0 x10_1).f1)) := (blk_cell BK114.out 1).trans rfl; have hcz14_2 : w13.cell? ⟨gb114, 2, none⟩ = some (.string ((rd_T34 l0 x10_1).f2)) := (blk_cell BK114.out 2).trans rfl; have hcz14_3 : w13.cell? ⟨gb114, 3, none⟩ = some (.string ((rd_T34 l0 x10_1).f3)) := (blk_cell BK114.out 3).trans rfl; have hcz14_4 : w13.cell? ⟨gb114, 4, none⟩ = some (.slice Ao11 t115.length co11) := (blk_cell BK114.out 4).trans rfl; have hfz14_0 := blk_frozen BK114.out 0; have hfz14_1 := blk_frozen BK114.out 1; have hfz14_2 := blk_frozen BK114.out 2; have hfz14_3 := blk_frozen BK114.out 3; have hfz14_4 := blk_frozen BK114.out 4) | ((with_reducible refine gate_builtin (b := .append) (xs := #[.tmp 23, .tmp 25]) rfl ?_); at_builtin; refine Kd.R_append k34 (w0 := w) w.heap.size rfl (.tmp 23) (.tmp 25) 22 34 (.agg #[(.int .i64 0), (.int .i64 0), (.string ⟨#[]⟩), (.string ⟨#[]⟩), (.slice none 0 0)]) 72 rfl Tryz.underlying22 info34 rfl (by decide) (by omega) u5 x5_1 (⟨wrap64 (((rd_T34 l0 x10_1).f0) + a1), (rd_T34 l0 x10_1).f1, (rd_T34 l0 x10_1).f2, (rd_T34 l0 x10_1).f3, t115⟩ : S34) [.int .i64 (wrap64 (((rd_T34 l0 x10_1).f0) + a1)), .int .i64 ((rd_T34 l0 x10_1).f1), .string ((rd_T34 l0 x10_1).f2), .string ((rd_T34 l0 x10_1).f3), .slice Ao11 t115.length co11] (fun k_ => k_ ≠ gb114) (fun k_ => ((fun k_ => k_ ≠ gb114)) k_ ∧ some k_ ≠ (u5 : Value).ownBlock) rfl rfl ?aP (fun _ hk => hk) ?aF ?aO ?aB ?aS ?aL ?_; (case aP => exact k34_mkM _ _ _ (⟨wrap64 (((rd_T34 l0 x10_1).f0) + a1), (rd_T34 l0 x10_1).f1, (rd_T34 l0 x10_1).f2, (rd_T34 l0 x10_1).f3, t115⟩ : S34) (Kd.R_mono (Kd.R_types (Kd.R_apart' (HO117.out) (Kd.R_typed HO_5.out) (by decide)) BK114.out (by decide)) (fun k_ hk => ⟨hk.2, hk.1.2⟩))); (case aB => exact (bs GE114.out)); (case aF => exact (fun k_ hk => Kd.freshB (g := gb114) (o := .cells #[.int .i64 (wrap64 (((rd_T34 l0 x10_1).f0) + a1)), .int .i64 ((rd_T34 l0 x10_1).f1), .string ((rd_T34 l0 x10_1).f2), .string ((rd_T34 l0 x10_1).f3), .slice Ao11 t115.length co11] 34 (0, 0)) (kz BK114.out) k_ hk)); (case aO => exact (by (with_reducible repeat (first | apply Kd.R_alloc | apply Kd.R_drewN | apply Kd.R_drew)); exact Kd.R_mono HO_5.out (fun _ hk => hk.2))); (case aS => exact (below_size (bs GE114.out))); (case aL => have := LMc7.out; omega); intro v119 w15 ho hb hg hat; rw [← Ny118.out] at ho; have n0_ := Aside0.mk (blk_grown (g := gb114) (o := .cells #[.int .i64 (wrap64 (((rd_T34 l0 x10_1).f0) + a1)), .int .i64 ((rd_T34 l0 x10_1).f1), .string ((rd_T34 l0 x10_1).f2), .string ((rd_T34 l0 x10_1).f3), .slice Ao11 t115.length co11] 34 (0, 0)) (kz BK114.out) hg (Kd.R_away HO_5.out (fun _ hk => hk.2))); have n1_ := Aside0.mk (hb); have n2_ := Aside0.mk (ho); clear BK114; clear HB; clear HO_5; clear HO117; have BK114 := n0_; have HB := n1_; have HO120 := n2_; clear n0_ n1_ n2_; clear ho hb hg hat))
        go_roundg k1
        case measure => have := HK1.out; omega
        case rel => exact ⟨(y118), (wrap64 (x10_1 + 1)), (by first | rfl | (simp; done) | (simp [*]; done) | (simp; generalize ByteArray.toList _ = l_; cases l_ <;> rfl)), H', ⟨by have := HK1.out; omega⟩, ⟨by (with_reducible repeat (first | apply Kd.R_alloc | apply Kd.R_drewN | apply Kd.R_drew)); exact Kd.R_mono HO120.out (fun _ hk => trivial)⟩, ⟨bs GE114.out⟩⟩
       ·rw [if_neg c7] at H
        exact absurd H (by simp)
      ·rw [if_neg c5] at H
       exact absurd H (by simp)
     ·rw [if_neg c4] at H
      exact absurd H (by simp)
    ·rw [if_neg c3] at H
     have c3b0 : decide (x10_1 < (l0.length : Int)) = false := decide_eq_false c3
     clear c3
     obtain rfl := Option.some.inj H
     go_wp2
     go_ret
     exact ⟨_, by first | rfl | (simp [errW_none, errW_some] <;> rfl) | (simp [*, errW_none, errW_some] <;> rfl), by (with_reducible repeat (first | apply Kd.R_alloc | apply Kd.R_drewN | apply Kd.R_drew)); exact HO_5.out, bz⟩
end Go.Proofs.YtkcmghlhpbepcaaGreatDoorH.W7
