/- Lemmas and walks, part 17: QE7H, QKTokN, QKOwnN, QNames, QScanA, QScanB, QScanC. -/
import Derived.Test.YtkcmghlhpbepcaaGreatDoorB716
import Derived.Test.YtkcmghlhpbepcaaGreatDoorB79
import Derived.Test.YtkcmghlhpbepcaaGreatDoorB74
import Derived.Test.YtkcmghlhpbepcaaGreatDoorB72
import Derived.Test.YtkcmghlhpbepcaaGreatDoorB73
import Derived.Test.YtkcmghlhpbepcaaGreatDoorB710
import Derived.Deep.RegionLaw
import Derived.RegionTactic
set_option linter.unusedVariables false
set_option linter.unusedSimpArgs false

/- Contract of the tree builder's end: what an end tag makes. -/
namespace Go.Proofs.YtkcmghlhpbepcaaGreatDoorH.W7
open Go.RowKit Go.Proofs Go.Proofs.YtkcmghlhpbepcaaGreatDoor Go.Proofs.YtkcmghlhpbepcaaGreatDoorW.PrintWords
abbrev tbN : ByteArray := ⟨#[116, 98, 111, 100, 121]⟩
abbrev trN : ByteArray := ⟨#[116, 114]⟩
abbrev taN : ByteArray := ⟨#[116, 97, 98, 108, 101]⟩
def isTab (nm : ByteArray) : Bool := nm.data.toList == [116, 97, 98, 108, 101] || Lib.containsS (closesL tbN) nm
def endW (nm : ByteArray) : List ByteArray := if isTab nm then wallsL trN else wallsL pN
def endF (op : List ByteArray) (out : List Rw) (big : Bool) (nm : ByteArray) : List ByteArray × List Rw × Bool :=
 if nm.data.toList = [] then (op, out, big) else if goneL nm then (op, out, big) else if voidL nm then (op, out, big)
 else if 0 ≤ foundK op [nm] (endW nm) op.length then (op.take (foundK op [nm] (endW nm) op.length).toNat, out, big)
 else if nm.data.toList = [112] then (op, (layF op out big ⟨0, 0, nm, ⟨#[]⟩, []⟩).1, (layF op out big ⟨0, 0, nm, ⟨#[]⟩, []⟩).2) else (op, out, big)
theorem has_R (A : Option Addr) (c : Nat) (xs : List ByteArray) (x : ByteArray) (w : World) (h : Kd.string.C w A xs.length xs) (hc : xs.length ≤ c) :
 Calls Tryz.prog 114 #[.slice A xs.length c, .string x] w fun e w' => e = .returned (.bool (Lib.containsS xs x)) ∧ w' = w := has_c A c xs x w h
theorem found1_c (base : Nat) (A : Option Addr) (c : Nat) (op : List ByteArray) (A1 : Option Addr) (c1 : Nat) (s : ByteArray) (A2 : Option Addr) (c2 : Nat) (walls : List ByteArray) (X : World) (h0 : Kd.string.R 9 X base (fun _ => True) (.slice A op.length c) op) (h1 : Kd.string.R 9 X base (fun _ => True) (.slice A1 1 c1) [s]) (h2 : Kd.string.R 9 X base (fun _ => True) (.slice A2 walls.length c2) walls) :
 Calls Tryz.prog 77 #[.slice A op.length c, .slice A1 1 c1, .slice A2 walls.length c2] X fun e w' => e = .returned (.int .i64 (foundK op [s] walls op.length)) ∧ Below X.heap.size X w' :=
 build_found.calls A c op A1 c1 [s] A2 c2 walls (foundK op [s] walls op.length) X (Kd.R_reads' h0).2.2 (Kd.R_reads' h0).2.1 (Kd.R_reads' (xs := [s]) h1).2.2 (Kd.R_reads' (xs := [s]) h1).2.1 (Kd.R_reads' h2).2.2 (Kd.R_reads' h2).2.1 rfl
set_option maxHeartbeats 3200000 in
set_option maxRecDepth 100000 in
theorem end_c (w0 : World) (B : Nat) (op : List ByteArray) (out : List Rw) (big : Bool) (nm : ByteArray) (W : World) (h : Bd w0 B op out big W) (hl : out.length ≤ 100000) (ho : op.length ≤ 90000) (hk : NmOk nm) (hp : NmOk pN) (ht : NmOk tbN) (hr : NmOk trN) :
 Calls Tryz.prog 70 #[.pointer (some ⟨B, 0, none⟩), .string nm] W fun e W' => e = .returned (.tuple #[]) ∧
  Bd w0 B (endF op out big nm).1 (endF op out big nm).2.1 (endF op out big nm).2.2 W' ∧ Below w0.heap.size W W' ∧ KeptB B W W' := by
 have hbz := h.below.size
 have hgo := Lib.hid (fun X => names_Gone.calls 200 nm _ X hk.gone)
 have hvo := Lib.hid (fun X => names_Void.calls 200 nm _ X hk.void)
 have hwp := Lib.hid (fun X => names_Walls.calls 200 pN _ X hp.walls)
 have hwr := Lib.hid (fun X => names_Walls.calls 200 trN _ X hr.walls)
 have hct := Lib.hid (fun X => names_Closes.calls 200 tbN _ X ht.closes)
 by_cases hs : nm.data.toList = []
 ·rw [show endF op out big nm = (op, out, big) from if_pos hs]
  have hsz : nm = ⟨#[]⟩ := by
   obtain ⟨d⟩ := nm
   simpa using hs
  clear hgo hvo hwp hwr hct hk
  subst hsz
  go_enter Tryz.func70, Tryz.ntmps70
  go_wp2
  refine bodyPost_ret (results_none rfl _ _ _) rfl ?_
  exact ⟨rfl, h, Below.refl _ _, KeptB.refl _ _⟩
 have e0 : ¬ nm.toList = [] := by rw [Lib.toList_data]; exact hs
 have e1 : (nm.toList == []) = false := beq_eq_false_iff_ne.2 e0
 have e2 : ¬ nm = ⟨#[]⟩ := fun e => hs (by rw [e])
 cases hg : goneL nm with
 | true =>
   rw [show endF op out big nm = (op, out, big) from by unfold endF; rw [if_neg hs, if_pos hg]]
   rw [hg] at hgo
   clear hvo hwp hwr hct hk
   go_enter Tryz.func70, Tryz.ntmps70
   go_wp2_with (go_at_call 34; ((with_reducible refine (hgo.out _).mono ?_); rintro e W2 ⟨rfl, hb2⟩))
   refine bodyPost_ret (results_none rfl _ _ _) rfl ?_
   exact ⟨rfl, h.step hb2, hb2.mono hbz, (KeptB.refl _ _).below hb2⟩
 | false =>
   rw [hg] at hgo
   cases hv : voidL nm with
   | true =>
     rw [show endF op out big nm = (op, out, big) from by unfold endF; rw [if_neg hs, if_neg (by rw [hg]; decide), if_pos hv]]
     rw [hv] at hvo
     clear hwp hwr hct hk
     go_enter Tryz.func70, Tryz.ntmps70
     go_wp2_with (first
      | (go_at_call 34; ((with_reducible refine (hgo.out _).mono ?_); rintro e W2 ⟨rfl, hb2⟩))
      | (go_at_call 31; ((with_reducible refine (hvo.out _).mono ?_); rintro e W3 ⟨rfl, hb3⟩)))
     refine bodyPost_ret (results_none rfl _ _ _) rfl ?_
     exact ⟨rfl, (h.step hb2).step hb3, (hb2.mono hbz).trans (hb3.mono (h.step hb2).below.size), ((KeptB.refl _ _).below hb2).below hb3⟩
   | false =>
     rw [hv] at hvo
     have hF : endF op out big nm = (if 0 ≤ foundK op [nm] (endW nm) op.length then (op.take (foundK op [nm] (endW nm) op.length).toNat, out, big)
      else if nm.data.toList = [112] then (op, (layF op out big ⟨0, 0, nm, ⟨#[]⟩, []⟩).1, (layF op out big ⟨0, 0, nm, ⟨#[]⟩, []⟩).2) else (op, out, big)) := by
      unfold endF; rw [if_neg hs, if_neg (by rw [hg]; decide), if_neg (by rw [hv]; decide)]
     replace hF := Lib.hid hF
     clear hk
     have hew : endW nm = if (nm.data.toList == [116, 97, 98, 108, 101] || Lib.containsS (closesL tbN) nm) then wallsL trN else wallsL pN := rfl
     have q1 : (nm.toList == [116, 97, 98, 108, 101]) = (nm.data.toList == [116, 97, 98, 108, 101]) := by rw [Lib.toList_data]
     generalize (nm.data.toList == [116, 97, 98, 108, 101]) = isT at *
     go_enter Tryz.func70, Tryz.ntmps70
     go_upto_region 2 with (first
      | (go_at_call 34; ((with_reducible refine (hgo.out _).mono ?_); rintro e W2 ⟨rfl, hb2⟩; have h2 := h.step hb2; have hbw2 := hb2.mono hbz; have hk2 := (KeptB.refl B W).below hb2))
      | (go_at_call 31; ((with_reducible refine (hvo.out _).mono ?_); rintro e W3 ⟨rfl, hb3⟩; have h3 := h2.step hb3; have hbw3 := hbw2.trans (hb3.mono h2.below.size); have hk3 := hk2.below hb3))
      | (go_at_call 78; ((with_reducible refine (hwp.out _).mono ?_); rintro e W4 ⟨v4, rfl, hR4, hb4⟩; obtain ⟨A4, c4, rfl⟩ := Kd.R_slice hR4; have h4 := h3.step hb4; have hbw4 := hbw3.trans (hb4.mono h3.below.size); have hk4 := hk3.below hb4; have hR4 := Kd.R_lower hR4 h3.below.size)))
     generalize hct0 : closesL tbN = ctl at *
     go_cut [23] (fun v wx => v = .bool (isT || Lib.containsS ctl nm) ∧ Bd w0 B op out big wx ∧ Below w0.heap.size W wx ∧ KeptB B W wx ∧ Kd.string.R 9 wx w0.heap.size (fun _ => True) (.slice A4 (wallsL pN).length c4) (wallsL pN))
     case first =>
      cases isT with
      | true =>
        go_wp2_with (fail)
        go_meet
        exact ⟨rfl, h4, hbw4, hk4, hR4⟩
      | false =>
        go_wp2_with (first
         | (go_at_call 35; ((with_reducible refine (hct.out _).mono ?_); rintro e W5 ⟨v5, rfl, hR5, hb5⟩; obtain ⟨A5, c5, rfl⟩ := Kd.R_slice hR5; have h5 := h4.step hb5; have hbw5 := hbw4.trans (hb5.mono h4.below.size); have hk5 := hk4.below hb5; have hR6 := Kd.R_below hR4 hb5; have hr5 := Kd.R_reads' hR5))
         | (go_at_call 114; ((with_reducible refine (has_R A5 c5 ctl nm _ hr5.2.2 hr5.2.1).mono ?_); rintro e W6 ⟨rfl, rfl⟩)))
        go_meet
        exact ⟨rfl, h5, hbw5, hk5, hR6⟩
     case rest =>
      obtain ⟨rfl, h7, hbw7, hk7, hR7⟩ := hcut
      clear hct0 hct q1
      generalize (isT || Lib.containsS ctl nm) = isW at *
      go_upto_if 23 with (fail)
      go_cut [4] (fun v wx => ∃ A c, v = .slice A (endW nm).length c ∧ Kd.string.R 9 wx w0.heap.size (fun _ => True) (.slice A (endW nm).length c) (endW nm) ∧ Bd w0 B op out big wx ∧ Below w0.heap.size W wx ∧ KeptB B W wx)
      case first =>
       cases isW with
       | true =>
         go_wp2_with (go_at_call 78; ((with_reducible refine (hwr.out _).mono ?_); rintro e W8 ⟨v8, rfl, hR8, hb8⟩; obtain ⟨A8, c8, rfl⟩ := Kd.R_slice hR8))
         go_meet
         rw [hew]
         first | rw [if_pos rfl] | rw [if_pos trivial]
         exact ⟨_, _, rfl, Kd.R_lower hR8 h7.below.size, h7.step hb8, hbw7.trans (hb8.mono h7.below.size), hk7.below hb8⟩
       | false =>
         go_wp2
         go_meet
         rw [hew, if_neg (by decide)]
         exact ⟨_, _, rfl, hR7, h7, hbw7, hk7⟩
      case rest =>
       obtain ⟨A9, c9, rfl, hR9, h9, hbw9, hk9⟩ := hcut
       clear hew hR7 h7 hbw7 hk7 hwp hwr hgo hvo h2 h3 h4 hbw2 hbw3 hbw4 hk2 hk3 hk4 hR4
       generalize endW nm = wl at *
       have hbl := (Below.refl _ wc).alloc (Nat.le_refl _) (.cells #[.string nm] 9)
       have hl10 := lit1 wc nm w0.heap.size h9.below.size
       have hR10 := Kd.R_below hR9 hbl
       obtain ⟨vo, vr, g1, g2, g3⟩ := id h9.ex
       obtain ⟨Ao, co, rfl⟩ := Kd.R_slice g2
       have hV10 := Kd.R_below g2 hbl
       obtain ⟨f0, f1, f2, ff⟩ := three_facts g1
       obtain ⟨y0, y1, y2, yf⟩ := three_facts (heap_below g1 hbl)
       have hfd := Lib.hid (found1_c w0.heap.size Ao co op _ _ nm A9 c9 wl _ hV10 hl10 hR10)
       have hfl := foundK_lt op [nm] wl op.length
       by_cases hneg : 0 ≤ foundK op [nm] wl op.length
       ·have hF2 := hF.out
        rw [if_pos hneg] at hF2
        obtain ⟨i, hi⟩ : ∃ i : Nat, foundK op [nm] wl op.length = i := ⟨(foundK op [nm] wl op.length).toNat, by omega⟩
        rw [hi] at hfd hfl hF2
        simp only [Int.toNat_natCast] at hF2
        have hil : i < op.length := by omega
        have hrd := Kd.R_reads' g2
        replace hF2 := Lib.hid hF2
        clear hi hneg hfl hR10 hR9 hl10 hF
        have e3 : decide ((0 : Int) ≤ (i : Int)) = true := decide_eq_true (by omega)
        go_wp2_with (go_at_call 77; ((with_reducible refine hfd.out.mono ?_); rintro e W11 ⟨rfl, hb11⟩; have g11 := heap_below (heap_below g1 hbl) hb11; obtain ⟨z0, z1, z2, zf⟩ := three_facts g11))
        refine bodyPost_ret (results_none rfl _ _ _) rfl ?_
        rw [hF2.out]
        have hV11 := Kd.R_below hV10 hb11
        have h11 := (h9.step hbl).step hb11
        have g3' := Kd.R_below (Kd.R_below g3 hbl) hb11
        have htk := Kd.R_take (m := i) hV11 (by omega)
        have hbw11 := (hbw9.trans (hbl.mono h9.below.size)).trans (hb11.mono (h9.step hbl).below.size)
        refine ⟨rfl, ⟨h11.below.setCell (p := ⟨B, 0, none⟩) h.base _, h.base, _, _, blk_put g11 0 _ rfl, Kd.R_set htk g11 (by decide) 0 _, Kd.R_set g3' g11 (by decide) 0 _⟩, hbw11.setCell (p := ⟨B, 0, none⟩) h.base _, ((hk9.below hbl).below hb11).set 0 _⟩
       ·have hF2 := hF.out
        rw [if_neg hneg] at hF2
        generalize foundK op [nm] wl op.length = i at *
        have e3 : decide ((0 : Int) ≤ i) = false := decide_eq_false hneg
        clear hneg hfl hR10 hR9 hl10 hF
        by_cases hp2 : nm.data.toList = [112]
        ·rw [if_pos hp2] at hF2
         replace hF2 := Lib.hid hF2
         have hnp : nm = pN := by
          obtain ⟨⟨d⟩⟩ := nm
          simpa using hp2
         subst hnp
         clear hs e0 e1 e2 hp2
         go_wp2_with (first
          | (go_at_call 77; ((with_reducible refine hfd.out.mono ?_); rintro e W11 ⟨rfl, hb11⟩; have h11 := (h9.step hbl).step hb11; have hbw11 := (hbw9.trans (hbl.mono h9.below.size)).trans (hb11.mono (h9.step hbl).below.size); have hk11 := (hk9.below hbl).below hb11))
          | (go_at_call 68; ((with_reducible refine (lay_c w0 B op out big 0 0 pN ⟨#[]⟩ (.slice none 0 0) [] _ h11 (Kd.R_nil _ _ _ _ _) hl (by omega)).mono ?_); rintro e W12 ⟨rfl, h12, hb12, hk12⟩)))
         go_end0
         rw [hF2.out]
         exact ⟨rfl, h12, hbw11.trans hb12, hk11.trans hk12⟩
        ·rw [if_neg hp2] at hF2
         replace hF2 := Lib.hid hF2
         have e4 : (nm.toList == [112]) = false := by rw [Lib.toList_data]; exact beq_eq_false_iff_ne.2 hp2
         have e5 : ¬ nm = ⟨#[112]⟩ := fun e => hp2 (by rw [e])
         go_wp2_with (go_at_call 77; ((with_reducible refine hfd.out.mono ?_); rintro e W11 ⟨rfl, hb11⟩; have h11 := (h9.step hbl).step hb11; have hbw11 := (hbw9.trans (hbl.mono h9.below.size)).trans (hb11.mono (h9.step hbl).below.size); have hk11 := (hk9.below hbl).below hb11))
         go_end0
         rw [hF2.out]
         exact ⟨rfl, h11, hbw11, hk11⟩
end Go.Proofs.YtkcmghlhpbepcaaGreatDoorH.W7

/- Rows of tokens and of attributes in the words of the printed walks, and in our own. -/
namespace Go.Proofs.YtkcmghlhpbepcaaGreatDoorH.W7
open Go.RowKit Go.Proofs Go.Proofs.YtkcmghlhpbepcaaGreatDoor Go.Proofs.YtkcmghlhpbepcaaGreatDoorW.PrintWords
def pairS (a : S36) : Txt × Txt := (a.f0.data.toList, a.f1.data.toList)
def tokS (x : S65) : Tok := ⟨x.f0, x.f1.data.toList, x.f3.map pairS, x.f2.data.toList, x.f4⟩
def pairT (a : Txt × Txt) : S36 := ⟨⟨a.1.toArray⟩, ⟨a.2.toArray⟩⟩
def tokT (x : Tok) : S65 := ⟨x.kind, ⟨x.name.toArray⟩, ⟨x.data.toArray⟩, x.attrs.map pairT, x.self⟩
theorem pairS_T (a : Txt × Txt) : pairS (pairT a) = a := rfl
theorem pairsS_T (l : List (Txt × Txt)) : (l.map pairT).map pairS = l := by
 induction l with
 | nil => rfl
 | cons a l ih => simp only [List.map_cons, pairS_T, ih]
end Go.Proofs.YtkcmghlhpbepcaaGreatDoorH.W7

/- Rows of tokens and of attributes of the call's own, in the words of the printed walks, and in our own. -/
namespace Go.Proofs.YtkcmghlhpbepcaaGreatDoorH.W7
open Go.RowKit Go.Proofs Go.Proofs.YtkcmghlhpbepcaaGreatDoor Go.Proofs.YtkcmghlhpbepcaaGreatDoorW.PrintWords
theorem flat_reps {α : Type} {R : α → List Value → Prop} {size : Nat} (g : α → List Value) : ∀ (ps : List α), (∀ p ∈ ps, R p (g p) ∧ (g p).length = size) → Reps R size ps (ps.flatMap g)
 | [], _ => by simpa using Reps.none R size
 | p :: ps, h => by
   have ih := flat_reps g ps (fun q hq => h q (by simp [hq]))
   obtain ⟨h1, h2⟩ := h p (by simp)
   refine ⟨by rw [List.flatMap_cons, List.length_append, ih.1, h2, List.length_cons, Nat.succ_mul, Nat.add_comm], fun j q hq => ?_⟩
   cases j with
   | zero =>
     simp at hq
     subst hq
     rw [Nat.zero_mul, List.drop_zero, List.flatMap_cons, List.take_append_of_le_length (by omega), List.take_of_length_le (by omega)]
     exact h1
   | succ j =>
     have := ih.2 j q (by simpa using hq)
     rw [List.flatMap_cons, Nat.succ_mul, Nat.add_comm, ← List.drop_drop, List.drop_left' h2]
     exact this
theorem flat_pair (l : List S36) : (l.flatMap fun a => [Value.string a.f0, .string a.f1]) = attrV (l.map pairS) := by
 induction l with
 | nil => rfl
 | cons a l ih => rw [List.flatMap_cons, ih]; rfl
theorem R_of_atts {w : World} {base : Nat} {ok : Nat → Prop} {v : Value} {l : List (Txt × Txt)} (h : Atts w base v l) (hok : ∀ k, v.ownBlock = some k → ok k) : k36.R 36 w base ok v (l.map pairT) := by
 refine ⟨hok, attrV l, ?_, ?_⟩
 ·rw [List.length_map]; exact h
 ·have := flat_pair (l.map pairT)
  rw [pairsS_T] at this
  rw [← this]
  exact flat_reps _ _ (fun p _ => ⟨k36_mkM _ _ _ _, rfl⟩)
theorem R_of_toks {w : World} {base : Nat} {v : Value} {l : List Tok} (h : Toks w base v l) : k65.R 65 w base (fun _ => True) v (l.map tokT) := by
 obtain ⟨ps, h1, h2, h3⟩ := h
 refine ⟨fun _ _ => trivial, ps.flatMap (fun p => tokV p.1 p.2), by rw [List.length_map]; exact h2, ?_⟩
 have hl : l.map tokT = ps.map (fun p => tokT p.1) := by rw [← h1, List.map_map]; rfl
 rw [hl]
 have key : ∀ (ps : List (Tok × Value)), (∀ p ∈ ps, Atts w base p.2 p.1.attrs) → Reps (k65.M w base (fun k => True ∧ some k ≠ v.ownBlock)) 5 (ps.map fun p => tokT p.1) (ps.flatMap fun p => tokV p.1 p.2) := by
  intro ps
  induction ps with
  | nil => intro _; exact Reps.none _ _
  | cons p ps ih =>
    intro hp
    have ih := ih (fun q hq => hp q (by simp [hq]))
    have hA := hp p (by simp)
    have hR := R_of_atts (ok := fun k => True ∧ some k ≠ v.ownBlock) hA (fun k hk => ⟨trivial, fun e => by
     obtain ⟨c1, e1⟩ := own_cells hA hk
     obtain ⟨c2, e2⟩ := own_cells h2 e.symm
     rw [e1] at e2
     injection e2 with e2
     injection e2 with _ e2
     exact absurd e2 (by decide)⟩)
    have hM := k65_mkM w base (fun k => True ∧ some k ≠ v.ownBlock) (tokT p.1) hR
    refine ⟨by rw [List.map_cons, List.flatMap_cons, List.length_append, ih.1, List.length_cons, Nat.succ_mul, Nat.add_comm]; rfl, fun j q hq => ?_⟩
    cases j with
    | zero =>
      simp at hq
      subst hq
      exact hM
    | succ j =>
      have := ih.2 j q (by simpa using hq)
      rw [List.flatMap_cons, Nat.succ_mul, Nat.add_comm, ← List.drop_drop]
      exact this
 exact key ps h3
end Go.Proofs.YtkcmghlhpbepcaaGreatDoorH.W7

/- Contracts of package names: among, Raw, Soft. Nothing that lay in memory turns. -/
namespace Go.Proofs.YtkcmghlhpbepcaaGreatDoor
open Go.RowKit Go.Proofs
theorem among_yes {L : List Txt} {l : Txt} {k : Nat} (hk : k < L.length) (h : L.getD k [] = l) : inB L l = true := by
 unfold inB
 rw [List.contains_iff_mem, ← h]
 simp [List.getD, List.getElem?_eq_getElem hk]
theorem among_no {L : List Txt} {l : Txt} (h : ∀ k, k < L.length → L.getD k [] ≠ l) : inB L l = false := by
 unfold inB
 cases hc : L.contains l with
 | false => rfl
 | true =>
   rw [List.contains_iff_mem] at hc
   obtain ⟨k, hk, e⟩ := List.getElem_of_mem hc
   exact absurd (by simp [List.getD, List.getElem?_eq_getElem hk, e]) (h k hk)
set_option maxHeartbeats 1000000 in
set_option maxRecDepth 100000 in
theorem among_c (b n : Nat) (L : List Txt) (l : Txt) (hn : n = L.length) (hN : n ≤ 1000000) (w : World) (ht : TextsAt b n L w) :
 Calls Tryz.prog 81 #[.string ⟨l.toArray⟩, .slice (some ⟨b, 0, none⟩) n n] w fun e w' => e = .returned (.bool (inB L l)) ∧ w = w' := by
 go_enter Tryz.func81, Tryz.ntmps81
 go_wp2
 go_loop [6, 9] (fun _ v => ∃ (k : Nat), v = .int .i64 k ∧ k ≤ n ∧ Hid (∀ j, j < k → L.getD j [] ≠ l)) (fun _ v => n - (intOf v).toNat)
 case atStart => exact ⟨0, rfl, by omega, fun j h => by omega⟩
 case round =>
  obtain ⟨k, rfl, hk, hno⟩ := hrel
  by_cases hlt : k < n
  ·have c1 := ht k hlt
   by_cases he : L.getD k [] = l
   ·have hy := Lib.hid (among_yes (by omega) he)
    rw [he] at c1
    have hbe : (l == l) = true := by simp
    clear he
    go_wp2
    go_ret
    rw [hy.out]
    exact ⟨rfl, rfl⟩
   ·have hno2 := Lib.hid (show ∀ j, j < k + 1 → L.getD j [] ≠ l by
     intro j hj
     by_cases e : j = k
     ·subst e; exact he
     ·exact hno.out j (by omega))
    have hbe : (L.getD k [] == l) = false := by simpa using he
    clear he
    generalize L.getD k [] = nm at *
    go_wp2
    refine ⟨⟨k + 1, rfl, by omega, hno2⟩, by simp [intOf]; omega⟩
  ·have hm := Lib.hid (among_no (L := L) (l := l) fun k hk => hno.out k (by omega))
   go_wp2
   go_ret
   rw [hm.out]
   exact ⟨rfl, rfl⟩
set_option maxRecDepth 100000 in
theorem raw_c (l : Txt) (w : World) :
 Calls Tryz.prog 32 #[.string ⟨l.toArray⟩] w fun e w' => e = .returned (.bool (rawB l)) ∧ Below w.heap.size w w' := by
 go_enter Tryz.func32, Tryz.ntmps32
 go_wp2_with (go_at_call 81; ((refine (among_c _ 6 rawsL _ (by rfl) (by decide) _ (TextsAt.of (new_cells _ _ _) (by rfl) (by decide))).mono ?_); rintro e w1 ⟨rfl, rfl⟩))
 go_ret
 exact ⟨rfl, (Below.refl _ w).alloc (Nat.le_refl _) _⟩
set_option maxRecDepth 100000 in
theorem soft_c (l : Txt) (w : World) :
 Calls Tryz.prog 33 #[.string ⟨l.toArray⟩] w fun e w' => e = .returned (.bool (softB l)) ∧ Below w.heap.size w w' := by
 go_enter Tryz.func33, Tryz.ntmps33
 go_wp2_with (go_at_call 81; ((refine (among_c _ 2 softsL _ (by rfl) (by decide) _ (TextsAt.of (new_cells _ _ _) (by rfl) (by decide))).mono ?_); rintro e w1 ⟨rfl, rfl⟩))
 go_ret
 exact ⟨rfl, (Below.refl _ w).alloc (Nat.le_refl _) _⟩
end Go.Proofs.YtkcmghlhpbepcaaGreatDoor

/- Contracts of token's scanner: until, isDoctype. What lay below the scanner's own blocks does not turn. -/
namespace Go.Proofs.YtkcmghlhpbepcaaGreatDoor
open Go.RowKit Go.Proofs
def Env (w : World) (base : Nat) : Prop := ∃ w0, Std w0 ∧ w0.heap.size = base ∧ Below base w0 w
theorem Env.std {w : World} {base : Nat} (h : Env w base) : Std w := by
 obtain ⟨w0, h1, rfl, h3⟩ := h
 exact h1.below h3
theorem Env.below {w w' : World} {base : Nat} (h : Env w base) (hb : Below base w w') : Env w' base := by
 obtain ⟨w0, h1, h2, h3⟩ := h
 exact ⟨w0, h1, h2, h3.trans hb⟩
theorem Env.le {w : World} {base : Nat} (h : Env w base) : base ≤ w.heap.size := by
 obtain ⟨w0, h1, rfl, h3⟩ := h
 exact h3.size
theorem below_up {w w' : World} {base : Nat} (hb : Below w.heap.size w w') (h : base ≤ w.heap.size) : Below base w w' := ⟨hb.os, hb.tape, hb.output, hb.size, fun i hi => hb.block i (by omega)⟩
theorem three_facts {w : World} {b : Nat} {v0 v1 v2 : Value} {t : TypeId} (h : w.heap[b]? = some (.cells #[v0, v1, v2] t (0, 0))) :
 (w.cell? ⟨b, 0, none⟩ = some v0 ∧ w.cell? ⟨b, 1, none⟩ = some v1 ∧ w.cell? ⟨b, 2, none⟩ = some v2) ∧ (∀ j, w.frozen? ⟨b, j, none⟩ = false) := by
 refine ⟨⟨?_, ?_, ?_⟩, fun j => frozen_of_row w b j _ _ h⟩ <;> (rw [Lib.cell_of_heap h]; rfl)
theorem cutg_c (s e : Txt) (hs : s.length ≤ 1000000000) (w : World) (hS : Std w) :
 Calls Tryz.prog 188 #[.string ⟨s.toArray⟩, .string ⟨e.toArray⟩] w fun r w' => r = .returned (.tuple #[.string ⟨(Lib.cut s e).1.toArray⟩, .string ⟨(Lib.cut s e).2.1.toArray⟩, .bool (Lib.cut s e).2.2]) ∧ Below w.heap.size w w' := by
 obtain ⟨m, hm⟩ := hS.maxLen
 refine (Tryz.strings_Cut ⟨s.toArray⟩ ⟨e.toArray⟩ m w (by rw [mk_size]; omega) hm).mono ?_
 rintro e w' ⟨rfl, n, rfl⟩
 refine ⟨?_, below_drewN (Below.refl _ _) n⟩
 rw [mk_data_list, mk_data_list]
theorem cut_false {s e : Txt} (h : (Lib.cut s e).2.2 = false) : Lib.cut s e = (s, [], false) := by
 unfold Lib.cut at *
 split
 ·rename_i h0
  rw [if_pos h0] at h
  simp at h
 ·rfl
set_option maxHeartbeats 1000000 in
set_option maxRecDepth 100000 in
theorem until_c (base b : Nat) (s t e : Txt) (l : List Tok) (hs : s.length ≤ 1000000000) (w : World) (hsc : Sc w base b s t l) (hE : Env w base) :
 Calls Tryz.prog 214 #[.pointer (some ⟨b, 0, none⟩), .string ⟨e.toArray⟩] w fun r w' => r = .returned (.string ⟨(untilF s e).1.toArray⟩) ∧ Sc w' base b (untilF s e).2 t l ∧ Below base w w' := by
 have hS := hE.std
 have hle := hE.le
 have hbb := hsc.1
 have hcut := Lib.hid (fun W hS => cutg_c s e hs W hS)
 unfold untilF
 have hcf := Lib.hid (fun h => cut_false (s := s) (e := e) h)
 generalize Lib.cut s e = c at *
 obtain ⟨v1, v2, fd⟩ := c
 obtain ⟨_, v, hh, hT⟩ := id hsc
 obtain ⟨⟨c0, c1, c2⟩, c5⟩ := three_facts hh
 cases fd with
 | true =>
   go_enter Tryz.func214, Tryz.ntmps214
   go_wp2_with (go_at_call 188; ((with_reducible refine (hcut.out _ hS).mono ?_); rintro e w2 ⟨rfl, hb2⟩; have hsc2 := hsc.below hb2; obtain ⟨_, v2', hh2, hT2⟩ := id hsc2; obtain ⟨⟨d0, d1, d2⟩, d5⟩ := three_facts hh2))
   go_ret
   exact ⟨rfl, hsc2.set_s v2, below_set (below_up hb2 hle) hbb _⟩
 | false =>
   have hcc := hcf.out rfl
   simp only [Prod.mk.injEq] at hcc
   obtain ⟨rfl, rfl, _⟩ := hcc
   go_enter Tryz.func214, Tryz.ntmps214
   go_wp2_with (go_at_call 188; ((with_reducible refine (hcut.out _ hS).mono ?_); rintro e w2 ⟨rfl, hb2⟩; have hsc2 := hsc.below hb2; obtain ⟨_, v2', hh2, hT2⟩ := id hsc2; obtain ⟨⟨d0, d1, d2⟩, d5⟩ := three_facts hh2))
   go_ret
   exact ⟨rfl, hsc2.set_s [], below_set (below_up hb2 hle) hbb _⟩
set_option maxHeartbeats 1000000 in
set_option maxRecDepth 100000 in
theorem isDoctype_c (s : Txt) (hs : s.length ≤ 1000000000) (w : World) :
 Calls Tryz.prog 193 #[.string ⟨s.toArray⟩] w fun r w' => r = .returned (.bool (isDoctypeB s)) ∧ Below w.heap.size w w' := by
 have h1 := Lib.hid (fun W => fsame_c (s.take 8) [33, 100, 111, 99, 116, 121, 112, 101] (by simp; omega) (by simp) W)
 have h2 := Lib.hid (fun W => letter_c (s.drop 8) W)
 have hd : Hid (isDoctypeB s = (decide (8 ≤ s.length) && sameB (s.take 8) [33, 100, 111, 99, 116, 121, 112, 101] && !letterL (s.drop 8))) := rfl
 generalize isDoctypeB s = r at *
 generalize sameB (s.take 8) [33, 100, 111, 99, 116, 121, 112, 101] = q at *
 generalize letterL (s.drop 8) = p at *
 by_cases hl : 8 ≤ s.length
 ·have hlI : (8 : Int) ≤ s.length := by omega
  cases q with
  | true =>
    have hr := hd.out
    simp only [hl, decide_true, Bool.true_and] at hr
    have hr := Lib.hid hr
    rename_i hr0
    clear hr0
    go_enter Tryz.func193, Tryz.ntmps193
    go_wp2_with (first
     | (go_at_call 153; ((with_reducible refine (h1.out _).mono ?_); rintro e w1 ⟨rfl, hb⟩))
     | (go_at_call 190; ((with_reducible refine (h2.out _).mono ?_); rintro e w2 ⟨rfl, rfl⟩)))
    go_ret
    rw [hr.out]
    exact ⟨rfl, hb⟩
  | false =>
    have hr := hd.out
    simp only [Bool.and_false, Bool.false_and] at hr
    subst hr
    go_enter Tryz.func193, Tryz.ntmps193
    go_wp2_with (first
     | (go_at_call 153; ((with_reducible refine (h1.out _).mono ?_); rintro e w1 ⟨rfl, hb⟩))
     | (go_at_call 190; ((with_reducible refine (h2.out _).mono ?_); rintro e w2 ⟨rfl, rfl⟩)))
    go_ret
    exact ⟨rfl, hb⟩
 ·have hlI : ¬ (8 : Int) ≤ s.length := by omega
  have hr := hd.out
  simp only [hl, decide_false, Bool.false_and] at hr
  subst hr
  go_enter Tryz.func193, Tryz.ntmps193
  go_wp2
  go_ret
  exact ⟨rfl, Below.refl _ _⟩
end Go.Proofs.YtkcmghlhpbepcaaGreatDoor

/- Contract of token's scanner: tell: the text that was gone over becomes a token. What lay below the scanner's own blocks does not turn. -/
namespace Go.Proofs.YtkcmghlhpbepcaaGreatDoor
open Go.RowKit Go.Proofs
theorem Toks.len {w : World} {base : Nat} {v : Value} {l : List Tok} (h : Toks w base v l) : ∃ a c, v = .slice a l.length c := by
 obtain ⟨ps, h1, h2, h3⟩ := h
 rcases h2.2 with ⟨rfl, h0⟩ | ⟨g, cap, cur, rfl, _⟩
 ·exact ⟨none, 0, by rw [h0]⟩
 ·exact ⟨_, _, rfl⟩
theorem Toks.alloc {w : World} {base : Nat} {v : Value} {l : List Tok} (h : Toks w base v l) (o : Obj) : Toks (w.alloc o) base v l := h.below ((Below.refl _ _).alloc (Nat.le_refl _) o)
theorem step_tok {w : World} {ops : Array Oper} {o : Oper} {a : Act} {K : Act → World → Prop} {Q : Exit → Act → World → Prop} {E : Prop} (hgd : o.guard = none) (sl x : Operand)
 (ho : o.op = .call { callee := .builtin .append, args := #[sl, x], argTypes := #[26, 26] })
 (base g : Nat) (v va : Value) (l : List Tok) (t : Tok) (hs : a.eval sl = v) (hown : Toks w base v l) (hx : a.eval x = .slice (some ⟨g, 0, none⟩) 1 1)
 (hc0 : w.cell? ⟨g, 0, none⟩ = some (.int .i64 t.kind)) (hc1 : w.cell? ⟨g, 1, none⟩ = some (.string ⟨t.name.toArray⟩)) (hc2 : w.cell? ⟨g, 2, none⟩ = some (.string ⟨t.data.toArray⟩)) (hc3 : w.cell? ⟨g, 3, none⟩ = some va) (hc4 : w.cell? ⟨g, 4, none⟩ = some (.bool t.self))
 (hat : Atts w base va t.attrs) (hlen : l.length + 1 ≤ 1000000000000) (hbase : base ≤ w.heap.size)
 (h : ∀ v' w', Toks w' base v' (l ++ [t]) → w.grownBy w' v.ownBlock → Below base w w' → (∀ (b : Nat) (cur : Array Value) (e : TypeId) (fz : Nat × Nat), w.heap[b]? = some (.cells cur e fz) → e ≠ 65 → w'.heap[b]? = some (.cells cur e fz)) → K (a.put o.dst v') w') : if Region.wanted o (yielded ops a.tmps) = true then Oper.wp Tryz.prog o a w K Q else E := by
 have hw : Region.wanted o (yielded ops a.tmps) = true := by simp [Region.wanted, hgd]
 rw [if_pos hw]
 obtain ⟨i, z, hi, hz, h2, h3, hzs⟩ := tokInfo
 obtain ⟨ps, k1, k2, k3⟩ := hown
 refine wp_append_own _ sl x 26 ho base 65 i z 5 72 Tryz.underlying26 hi hz h2 h3 hzs (by decide) v l.length _ hs k2 ⟨g, 0, none⟩ 1 1 (tokV t va) hx rfl ?_ ?_ (by unfold maxLen; omega) (by omega) hbase ?_
 ·intro j u hj
  rw [addr_add]
  match j, hj with
  | 0, hj => simp [tokV] at hj; subst hj; exact hc0
  | 1, hj => simp [tokV] at hj; subst hj; exact hc1
  | 2, hj => simp [tokV] at hj; subst hj; exact hc2
  | 3, hj => simp [tokV] at hj; subst hj; exact hc3
  | 4, hj => simp [tokV] at hj; subst hj; exact hc4
 ·intro u hu
  simp [tokV] at hu
  rcases hu with rfl | rfl | rfl | rfl | rfl
  ·rfl
  ·rfl
  ·rfl
  ·exact own_one hat
  ·rfl
 ·intro v' w' hown' hgrow _
  refine h v' w' ⟨ps ++ [(t, va)], by simp [k1], by simpa using hown', ?_⟩ hgrow ((Below.refl base w).grown hgrow hbase (fun k hk => own_base k2 hk)) ?_
  ·intro p hp
   rw [List.mem_append] at hp
   rcases hp with hp | hp
   ·exact own_apart (k3 p hp) k2 hgrow (by decide)
   ·simp at hp
    subst hp
    exact own_apart hat k2 hgrow (by decide)
  ·intro b cur e fz hb hne
   rw [hgrow.block b (Array.getElem?_eq_some_iff.1 hb).1 (fun e0 => own_ne k2 hb hne e0.symm)]
   exact hb
set_option maxHeartbeats 2000000 in
set_option maxRecDepth 100000 in
theorem tell_c (base b : Nat) (s t : Txt) (l : List Tok) (ht : t.length ≤ 1000000000) (hl : l.length ≤ 100000000000) (w : World) (hsc : Sc w base b s t l) (hE : Env w base) :
 Calls Tryz.prog 159 #[.pointer (some ⟨b, 0, none⟩)] w fun r w' => r = .returned (.tuple #[]) ∧ Sc w' base b s [] (l ++ tellF t) ∧ Below base w w' := by
 have hS := hE.std
 have hle := hE.le
 have hbb := hsc.1
 obtain ⟨_, v, hh, hT⟩ := id hsc
 obtain ⟨ad, cp, rfl⟩ := hT.len
 obtain ⟨⟨c0, c1, c2⟩, c5⟩ := three_facts hh
 cases t with
 | nil =>
   go_enter Tryz.func159, Tryz.ntmps159
   go_wp2
   go_end0
   refine ⟨rfl, ?_, below_set (Below.refl _ _) hbb _⟩
   have := hsc.set_t []
   simpa [tellF] using this
 | cons c u =>
   obtain ⟨q, hq⟩ : ∃ q, c :: u = q := ⟨_, rfl⟩
   have htl : tellF (c :: u) = [⟨0, [], [], decL (c :: u), false⟩] := by simp [tellF]
   have hne : (q == []) = false := by rw [← hq]; rfl
   rw [htl]
   rw [hq] at hsc hh c1 ht ⊢
   clear htl hq
   have hdec := Lib.hid (fun W hS => decode_c q ht W hS)
   generalize decL q = dq at *
   have hSd := hS.drew
   have hscd := hsc.below (Below.refl _ w).drew
   go_enter Tryz.func159, Tryz.ntmps159
   go_wp2
   go_region_law (first
    | (refine step_tok rfl (.tmp 11) (.tmp 18) rfl base w2.heap.size (.slice ad l.length cp) (.slice none 0 0) l ⟨0, [], [], dq, false⟩ rfl hT3 rfl k0 k1 k2 k3 k4 (Atts.nil _ _) (by omega) hle3 ?_; intro v5 w5 hT5 hg5 hb5 hk5; obtain ⟨ad5, cp5, rfl⟩ := hT5.len; rw [show (l ++ [(⟨0, [], [], dq, false⟩ : Tok)]).length = l.length + 1 from List.length_append] at hT5; have hh5 := hk5 _ _ _ _ hh3 (by decide); obtain ⟨⟨e0, e1, e2⟩, e5⟩ := three_facts hh5; have hB5 := hB3.trans hb5)
    | (go_simp; go_at_call 155; ((with_reducible refine (hdec.out _ hSd).mono ?_); rintro e w2 ⟨rfl, hb2⟩; have hh2 := heap_below (w := w.drew) hh hb2; have hT2 := (hT.below (Below.refl _ w).drew).below hb2; obtain ⟨⟨d0, d1, d2⟩, d5⟩ := three_facts hh2; have hT3 := hT2.alloc (.cells #[.int .i64 0, .string ⟨#[]⟩, .string ⟨dq.toArray⟩, .slice none 0 0, .bool false] 65); have hh3 := heap_old hh2 (.cells #[.int .i64 0, .string ⟨#[]⟩, .string ⟨dq.toArray⟩, .slice none 0 0, .bool false] 65); obtain ⟨⟨k0, k1, k2, k3, k4⟩, k5⟩ := five_facts (new_cells w2 #[.int .i64 0, .string ⟨#[]⟩, .string ⟨dq.toArray⟩, .slice none 0 0, .bool false] 65); obtain ⟨⟨f0, f1, f2⟩, f5⟩ := three_facts hh3; have hB2 := below_then ((Below.refl base w).drew) hle hb2; have hle2 : base ≤ w2.heap.size := Nat.le_trans hle hB2.size; have hB3 := hB2.alloc hle2 (.cells #[.int .i64 0, .string ⟨#[]⟩, .string ⟨dq.toArray⟩, .slice none 0 0, .bool false] 65); have hle3 : base ≤ (w2.alloc (.cells #[.int .i64 0, .string ⟨#[]⟩, .string ⟨dq.toArray⟩, .slice none 0 0, .bool false] 65)).heap.size := (by rw [World.size_alloc]; omega))))
   all_goals
    have hfin := (Sc.set_o (l := l) hbb hh5 hT5).set_t []
    have hbf := fun x y => below_set (j := 1) (below_set (j := 2) hB5 hbb x) hbb y
    go_wp2
    go_end0
    exact ⟨rfl, hfin, hbf _ _⟩
end Go.Proofs.YtkcmghlhpbepcaaGreatDoor

/- Contract of token's scanner: note: a comment or a doctype. What lay below the scanner's own blocks does not turn. -/
namespace Go.Proofs.YtkcmghlhpbepcaaGreatDoor
open Go.RowKit Go.Proofs
theorem cut_le1 (s e : Txt) : (Lib.cut s e).1.length ≤ s.length := by
 unfold Lib.cut
 split
 ·simp
  omega
 ·simp
set_option maxHeartbeats 2000000 in
set_option maxRecDepth 100000 in
theorem note_c3 (base b : Nat) (s t e : Txt) (l : List Tok) (k : Nat) (fr : Int) (hfr : fr = k) (hk : k ≤ s.length) (hs : s.length ≤ 1000000000) (ht : t.length ≤ 1000000000) (hl : l.length ≤ 10000000000) (w : World) (hsc : Sc w base b s t l) (hE : Env w base) :
 Calls Tryz.prog 194 #[.pointer (some ⟨b, 0, none⟩), .int .i64 3, .int .i64 fr, .string ⟨e.toArray⟩] w fun r w' => r = .returned (.tuple #[]) ∧ Sc w' base b (untilF (s.drop k) e).2 [] ((l ++ tellF t) ++ [⟨3, [], [], (untilF (s.drop k) e).1, false⟩]) ∧ Below base w w' := by
 have hbb := hsc.1
 have hc1 := Lib.hid (tell_c base b s t l ht (by omega) w hsc hE)
 have hl1 : (l ++ tellF t).length ≤ 100000000000 := by unfold tellF; split <;> simp <;> omega
 generalize l ++ tellF t = l1 at *
 have hc2 := Lib.hid (fun W h1 h2 => until_c base b (s.drop k) [] e l1 (by simp; omega) W h1 h2)
 generalize untilF (s.drop k) e = u at *
 obtain ⟨u1, u2⟩ := u
 subst hfr
 have hkI : (k : Int) ≤ s.length := by omega
 have hsd : s.length ≤ 1000000000 := hs
 go_enter Tryz.func194, Tryz.ntmps194
 go_wp2_with (first
  | (go_at_call 159; ((with_reducible refine (hc1.out).mono ?_); rintro e w1 ⟨rfl, hsc1, hb1⟩; have hE1 := hE.below hb1; obtain ⟨_, v1, hh1, hT1⟩ := id hsc1; obtain ⟨⟨d0, d1, d2⟩, d5⟩ := three_facts hh1; have hE1' := hE1.below (below_set (j := 0) (Below.refl base w1) hbb (.string ⟨(s.drop k).toArray⟩)); have hsc1' := hsc1.set_s (s.drop k)))
  | (go_at_call 214; ((with_reducible refine (hc2.out _ hsc1' hE1').mono ?_); rintro e w2 ⟨rfl, hsc2, hb2⟩; obtain ⟨_, v2, hh2, hT2⟩ := id hsc2; obtain ⟨ad2, cp2, rfl⟩ := hT2.len; obtain ⟨⟨f0, f1, f2⟩, f5⟩ := three_facts hh2; have hE2 := hE1'.below hb2; have hle2 := hE2.le; have hB2 := (below_set (j := 0) hb1 hbb (.string ⟨(s.drop k).toArray⟩)).trans hb2; obtain ⟨⟨k0, k1, k2, k3, k4⟩, k5⟩ := five_facts (new_cells w2 #[.int .i64 3, .string ⟨#[]⟩, .string ⟨u1.toArray⟩, .slice none 0 0, .bool false] 65); have hT3 := hT2.alloc (.cells #[.int .i64 3, .string ⟨#[]⟩, .string ⟨u1.toArray⟩, .slice none 0 0, .bool false] 65); have hh3 := heap_old hh2 (.cells #[.int .i64 3, .string ⟨#[]⟩, .string ⟨u1.toArray⟩, .slice none 0 0, .bool false] 65); have hB3 := hB2.alloc hle2 (.cells #[.int .i64 3, .string ⟨#[]⟩, .string ⟨u1.toArray⟩, .slice none 0 0, .bool false] 65); have hle3 : base ≤ (w2.alloc (.cells #[.int .i64 3, .string ⟨#[]⟩, .string ⟨u1.toArray⟩, .slice none 0 0, .bool false] 65)).heap.size := (by rw [World.size_alloc]; omega)))
  | (at_builtin; refine app_tok rfl (.tmp 31) (.tmp 35) rfl base w2.heap.size (.slice ad2 l1.length cp2) (.slice none 0 0) l1 ⟨3, [], [], u1, false⟩ rfl hT3 rfl k0 k1 k2 k3 k4 (Atts.nil _ _) (by omega) hle3 ?_; intro v5 w5 hT5 hg5 hb5 hk5; obtain ⟨ad5, cp5, rfl⟩ := hT5.len; rw [show (l1 ++ [(⟨3, [], [], u1, false⟩ : Tok)]).length = l1.length + 1 from List.length_append] at hT5; have hh5 := hk5 _ _ _ _ hh3 (by decide); obtain ⟨⟨e0, e1, e2⟩, e5⟩ := three_facts hh5; have hB5 := hB3.trans hb5))
 go_end0
 exact ⟨rfl, Sc.set_o (l := l1) hbb hh5 hT5, below_set hB5 hbb _⟩
set_option maxHeartbeats 2000000 in
set_option maxRecDepth 100000 in
theorem note_c4 (base b : Nat) (s t e : Txt) (l : List Tok) (k : Nat) (fr : Int) (hfr : fr = k) (hk : k ≤ s.length) (hs : s.length ≤ 1000000000) (ht : t.length ≤ 1000000000) (hl : l.length ≤ 10000000000) (w : World) (hsc : Sc w base b s t l) (hE : Env w base) :
 Calls Tryz.prog 194 #[.pointer (some ⟨b, 0, none⟩), .int .i64 4, .int .i64 fr, .string ⟨e.toArray⟩] w fun r w' => r = .returned (.tuple #[]) ∧ Sc w' base b (untilF (s.drop k) e).2 [] ((l ++ tellF t) ++ [⟨4, [], [], trimL (untilF (s.drop k) e).1, false⟩]) ∧ Below base w w' := by
 have hbb := hsc.1
 have hc1 := Lib.hid (tell_c base b s t l ht (by omega) w hsc hE)
 have hl1 : (l ++ tellF t).length ≤ 100000000000 := by unfold tellF; split <;> simp <;> omega
 generalize l ++ tellF t = l1 at *
 have hc2 := Lib.hid (fun W h1 h2 => until_c base b (s.drop k) [] e l1 (by simp; omega) W h1 h2)
 have hul : (untilF (s.drop k) e).1.length ≤ (s.drop k).length := cut_le1 _ _
 rw [List.length_drop] at hul
 generalize untilF (s.drop k) e = u at *
 obtain ⟨u0, u2⟩ := u
 have hc3 := Lib.hid (fun W => ftrim_c u0 (by simp only at hul; omega) W)
 have hc2' := Lib.hid hc2.out
 simp only
 generalize trimL u0 = u1 at *
 subst hfr
 have hkI : (k : Int) ≤ s.length := by omega
 have hsd : s.length ≤ 1000000000 := hs
 go_enter Tryz.func194, Tryz.ntmps194
 go_wp2_with (first
  | (go_at_call 159; ((with_reducible refine (hc1.out).mono ?_); rintro e w1 ⟨rfl, hsc1, hb1⟩; have hE1 := hE.below hb1; obtain ⟨_, v1, hh1, hT1⟩ := id hsc1; obtain ⟨⟨d0, d1, d2⟩, d5⟩ := three_facts hh1; have hE1' := hE1.below (below_set (j := 0) (Below.refl base w1) hbb (.string ⟨(s.drop k).toArray⟩)); have hsc1' := hsc1.set_s (s.drop k)))
  | (go_at_call 214; ((with_reducible refine (hc2.out _ hsc1' hE1').mono ?_); rintro e w2 ⟨rfl, hsc2, hb2⟩; obtain ⟨_, v2, hh2, hT2⟩ := id hsc2; obtain ⟨ad2, cp2, rfl⟩ := hT2.len; obtain ⟨⟨f0, f1, f2⟩, f5⟩ := three_facts hh2; have hE2 := hE1'.below hb2; have hle2 := hE2.le; have hB2 := (below_set (j := 0) hb1 hbb (.string ⟨(s.drop k).toArray⟩)).trans hb2; obtain ⟨⟨k0, k1, k2, k3, k4⟩, k5⟩ := five_facts (new_cells w2 #[.int .i64 4, .string ⟨#[]⟩, .string ⟨u1.toArray⟩, .slice none 0 0, .bool false] 65); have hT3 := hT2.alloc (.cells #[.int .i64 4, .string ⟨#[]⟩, .string ⟨u1.toArray⟩, .slice none 0 0, .bool false] 65); have hh3 := heap_old hh2 (.cells #[.int .i64 4, .string ⟨#[]⟩, .string ⟨u1.toArray⟩, .slice none 0 0, .bool false] 65); have hB3 := hB2.alloc hle2 (.cells #[.int .i64 4, .string ⟨#[]⟩, .string ⟨u1.toArray⟩, .slice none 0 0, .bool false] 65); have hle3 : base ≤ (w2.alloc (.cells #[.int .i64 4, .string ⟨#[]⟩, .string ⟨u1.toArray⟩, .slice none 0 0, .bool false] 65)).heap.size := (by rw [World.size_alloc]; omega)))
  | (go_at_call 215; ((with_reducible refine (hc3.out _).mono ?_); rintro e w3 ⟨rfl, rfl⟩))
  | (at_builtin; refine app_tok rfl (.tmp 31) (.tmp 35) rfl base w2.heap.size (.slice ad2 l1.length cp2) (.slice none 0 0) l1 ⟨4, [], [], u1, false⟩ rfl hT3 rfl k0 k1 k2 k3 k4 (Atts.nil _ _) (by omega) hle3 ?_; intro v5 w5 hT5 hg5 hb5 hk5; obtain ⟨ad5, cp5, rfl⟩ := hT5.len; rw [show (l1 ++ [(⟨4, [], [], u1, false⟩ : Tok)]).length = l1.length + 1 from List.length_append] at hT5; have hh5 := hk5 _ _ _ _ hh3 (by decide); obtain ⟨⟨e0, e1, e2⟩, e5⟩ := three_facts hh5; have hB5 := hB3.trans hb5))
 go_end0
 exact ⟨rfl, Sc.set_o (l := l1) hbb hh5 hT5, below_set hB5 hbb _⟩
end Go.Proofs.YtkcmghlhpbepcaaGreatDoor
