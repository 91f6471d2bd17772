/- Lemmas and walks, part 18: QE7H, QKTokN, QE7T, QW7T. -/
import Derived.Test.YtkcmghlhpbepcaaGreatDoorN817
import Derived.Test.YtkcmghlhpbepcaaGreatDoorN83
import Derived.Test.YtkcmghlhpbepcaaGreatDoorN87
import Derived.Test.YtkcmghlhpbepcaaGreatDoorN816
import Derived.Test.YtkcmghlhpbepcaaGreatDoorN815
import Derived.Test.YtkcmghlhpbepcaaGreatDoorN814
set_option linter.unusedVariables false
set_option linter.unusedSimpArgs false

/- Contract of the tree builder's end: what an end tag makes. -/
namespace Go.Proofs.YtkcmghlhpbepcaaGreatDoorH.W7
open Go.RowKit Go.Proofs Go.Proofs.YtkcmghlhpbepcaaGreatDoor Go.Proofs.YtkcmghlhpbepcaaGreatDoorW.PrintWords
abbrev tbN : ByteArray := ⟨#[116, 98, 111, 100, 121]⟩
abbrev trN : ByteArray := ⟨#[116, 114]⟩
abbrev taN : ByteArray := ⟨#[116, 97, 98, 108, 101]⟩
def isTab (nm : ByteArray) : Bool := nm.data.toList == [116, 97, 98, 108, 101] || Lib.containsS (closesL tbN) nm
def endW (nm : ByteArray) : List ByteArray := if isTab nm then wallsL trN else wallsL pN
def endF (op : List ByteArray) (out : List Rw) (big : Bool) (nm : ByteArray) : List ByteArray × List Rw × Bool :=
 if nm.data.toList = [] then (op, out, big) else if goneL nm then (op, out, big) else if voidL nm then (op, out, big)
 else if 0 ≤ foundK op [nm] (endW nm) op.length then (op.take (foundK op [nm] (endW nm) op.length).toNat, out, big)
 else if nm.data.toList = [112] then (op, (layF op out big ⟨0, 0, nm, ⟨#[]⟩, []⟩).1, (layF op out big ⟨0, 0, nm, ⟨#[]⟩, []⟩).2) else (op, out, big)
theorem has_R (A : Option Addr) (c : Nat) (xs : List ByteArray) (x : ByteArray) (w : World) (h : Kd.string.C w A xs.length xs) (hc : xs.length ≤ c) :
 Calls Tryz.prog 114 #[.slice A xs.length c, .string x] w fun e w' => e = .returned (.bool (Lib.containsS xs x)) ∧ w' = w := has_c A c xs x w h
theorem found1_c (base : Nat) (A : Option Addr) (c : Nat) (op : List ByteArray) (A1 : Option Addr) (c1 : Nat) (s : ByteArray) (A2 : Option Addr) (c2 : Nat) (walls : List ByteArray) (X : World) (h0 : Kd.string.R 9 X base (fun _ => True) (.slice A op.length c) op) (h1 : Kd.string.R 9 X base (fun _ => True) (.slice A1 1 c1) [s]) (h2 : Kd.string.R 9 X base (fun _ => True) (.slice A2 walls.length c2) walls) :
 Calls Tryz.prog 77 #[.slice A op.length c, .slice A1 1 c1, .slice A2 walls.length c2] X fun e w' => e = .returned (.int .i64 (foundK op [s] walls op.length)) ∧ Below X.heap.size X w' :=
 build_found.calls A c op A1 c1 [s] A2 c2 walls (foundK op [s] walls op.length) X (Kd.R_reads' h0).2.2 (Kd.R_reads' h0).2.1 (Kd.R_reads' (xs := [s]) h1).2.2 (Kd.R_reads' (xs := [s]) h1).2.1 (Kd.R_reads' h2).2.2 (Kd.R_reads' h2).2.1 rfl
set_option maxHeartbeats 3200000 in
set_option maxRecDepth 100000 in
theorem end_c (w0 : World) (B : Nat) (op : List ByteArray) (out : List Rw) (big : Bool) (nm : ByteArray) (W : World) (h : Bd w0 B op out big W) (hl : out.length ≤ 100000) (ho : op.length ≤ 90000) (hk : NmOk nm) (hp : NmOk pN) (ht : NmOk tbN) (hr : NmOk trN) :
 Calls Tryz.prog 70 #[.pointer (some ⟨B, 0, none⟩), .string nm] W fun e W' => e = .returned (.tuple #[]) ∧
  Bd w0 B (endF op out big nm).1 (endF op out big nm).2.1 (endF op out big nm).2.2 W' ∧ Below w0.heap.size W W' ∧ KeptB B W W' := by
 have hbz := h.below.size
 have hgo := Lib.hid (fun X => names_Gone.calls 200 nm _ X hk.gone)
 have hvo := Lib.hid (fun X => names_Void.calls 200 nm _ X hk.void)
 have hwp := Lib.hid (fun X => names_Walls.calls 200 pN _ X hp.walls)
 have hwr := Lib.hid (fun X => names_Walls.calls 200 trN _ X hr.walls)
 have hct := Lib.hid (fun X => names_Closes.calls 200 tbN _ X ht.closes)
 by_cases hs : nm.data.toList = []
 ·rw [show endF op out big nm = (op, out, big) from if_pos hs]
  have hsz : nm = ⟨#[]⟩ := by
   obtain ⟨d⟩ := nm
   simpa using hs
  clear hgo hvo hwp hwr hct hk
  subst hsz
  go_enter Tryz.func70, Tryz.ntmps70
  go_wp2
  refine bodyPost_ret (results_none rfl _ _ _) rfl ?_
  exact ⟨rfl, h, Below.refl _ _, KeptB.refl _ _⟩
 have e0 : ¬ nm.toList = [] := by rw [Lib.toList_data]; exact hs
 have e1 : (nm.toList == []) = false := beq_eq_false_iff_ne.2 e0
 have e2 : ¬ nm = ⟨#[]⟩ := fun e => hs (by rw [e])
 cases hg : goneL nm with
 | true =>
   rw [show endF op out big nm = (op, out, big) from by unfold endF; rw [if_neg hs, if_pos hg]]
   rw [hg] at hgo
   clear hvo hwp hwr hct hk
   go_enter Tryz.func70, Tryz.ntmps70
   go_wp2_with (go_at_call 34; ((with_reducible refine (hgo.out _).mono ?_); rintro e W2 ⟨rfl, hb2⟩))
   refine bodyPost_ret (results_none rfl _ _ _) rfl ?_
   exact ⟨rfl, h.step hb2, hb2.mono hbz, (KeptB.refl _ _).below hb2⟩
 | false =>
   rw [hg] at hgo
   cases hv : voidL nm with
   | true =>
     rw [show endF op out big nm = (op, out, big) from by unfold endF; rw [if_neg hs, if_neg (by rw [hg]; decide), if_pos hv]]
     rw [hv] at hvo
     clear hwp hwr hct hk
     go_enter Tryz.func70, Tryz.ntmps70
     go_wp2_with (first
      | (go_at_call 34; ((with_reducible refine (hgo.out _).mono ?_); rintro e W2 ⟨rfl, hb2⟩))
      | (go_at_call 31; ((with_reducible refine (hvo.out _).mono ?_); rintro e W3 ⟨rfl, hb3⟩)))
     refine bodyPost_ret (results_none rfl _ _ _) rfl ?_
     exact ⟨rfl, (h.step hb2).step hb3, (hb2.mono hbz).trans (hb3.mono (h.step hb2).below.size), ((KeptB.refl _ _).below hb2).below hb3⟩
   | false =>
     rw [hv] at hvo
     have hF : endF op out big nm = (if 0 ≤ foundK op [nm] (endW nm) op.length then (op.take (foundK op [nm] (endW nm) op.length).toNat, out, big)
      else if nm.data.toList = [112] then (op, (layF op out big ⟨0, 0, nm, ⟨#[]⟩, []⟩).1, (layF op out big ⟨0, 0, nm, ⟨#[]⟩, []⟩).2) else (op, out, big)) := by
      unfold endF; rw [if_neg hs, if_neg (by rw [hg]; decide), if_neg (by rw [hv]; decide)]
     replace hF := Lib.hid hF
     clear hk
     have hew : endW nm = if (nm.data.toList == [116, 97, 98, 108, 101] || Lib.containsS (closesL tbN) nm) then wallsL trN else wallsL pN := rfl
     have q1 : (nm.toList == [116, 97, 98, 108, 101]) = (nm.data.toList == [116, 97, 98, 108, 101]) := by rw [Lib.toList_data]
     generalize (nm.data.toList == [116, 97, 98, 108, 101]) = isT at *
     go_enter Tryz.func70, Tryz.ntmps70
     go_upto_region 2 with (first
      | (go_at_call 34; ((with_reducible refine (hgo.out _).mono ?_); rintro e W2 ⟨rfl, hb2⟩; have h2 := h.step hb2; have hbw2 := hb2.mono hbz; have hk2 := (KeptB.refl B W).below hb2))
      | (go_at_call 31; ((with_reducible refine (hvo.out _).mono ?_); rintro e W3 ⟨rfl, hb3⟩; have h3 := h2.step hb3; have hbw3 := hbw2.trans (hb3.mono h2.below.size); have hk3 := hk2.below hb3))
      | (go_at_call 78; ((with_reducible refine (hwp.out _).mono ?_); rintro e W4 ⟨v4, rfl, hR4, hb4⟩; obtain ⟨A4, c4, rfl⟩ := Kd.R_slice hR4; have h4 := h3.step hb4; have hbw4 := hbw3.trans (hb4.mono h3.below.size); have hk4 := hk3.below hb4; have hR4 := Kd.R_lower hR4 h3.below.size)))
     generalize hct0 : closesL tbN = ctl at *
     go_cut [23] (fun v wx => v = .bool (isT || Lib.containsS ctl nm) ∧ Bd w0 B op out big wx ∧ Below w0.heap.size W wx ∧ KeptB B W wx ∧ Kd.string.R 9 wx w0.heap.size (fun _ => True) (.slice A4 (wallsL pN).length c4) (wallsL pN))
     case first =>
      cases isT with
      | true =>
        go_wp2_with (fail)
        go_meet
        exact ⟨rfl, h4, hbw4, hk4, hR4⟩
      | false =>
        go_wp2_with (first
         | (go_at_call 35; ((with_reducible refine (hct.out _).mono ?_); rintro e W5 ⟨v5, rfl, hR5, hb5⟩; obtain ⟨A5, c5, rfl⟩ := Kd.R_slice hR5; have h5 := h4.step hb5; have hbw5 := hbw4.trans (hb5.mono h4.below.size); have hk5 := hk4.below hb5; have hR6 := Kd.R_below hR4 hb5; have hr5 := Kd.R_reads' hR5))
         | (go_at_call 114; ((with_reducible refine (has_R A5 c5 ctl nm _ hr5.2.2 hr5.2.1).mono ?_); rintro e W6 ⟨rfl, rfl⟩)))
        go_meet
        exact ⟨rfl, h5, hbw5, hk5, hR6⟩
     case rest =>
      obtain ⟨rfl, h7, hbw7, hk7, hR7⟩ := hcut
      clear hct0 hct q1
      generalize (isT || Lib.containsS ctl nm) = isW at *
      go_upto_if 23 with (fail)
      go_cut [4] (fun v wx => ∃ A c, v = .slice A (endW nm).length c ∧ Kd.string.R 9 wx w0.heap.size (fun _ => True) (.slice A (endW nm).length c) (endW nm) ∧ Bd w0 B op out big wx ∧ Below w0.heap.size W wx ∧ KeptB B W wx)
      case first =>
       cases isW with
       | true =>
         go_wp2_with (go_at_call 78; ((with_reducible refine (hwr.out _).mono ?_); rintro e W8 ⟨v8, rfl, hR8, hb8⟩; obtain ⟨A8, c8, rfl⟩ := Kd.R_slice hR8))
         go_meet
         rw [hew]
         first | rw [if_pos rfl] | rw [if_pos trivial]
         exact ⟨_, _, rfl, Kd.R_lower hR8 h7.below.size, h7.step hb8, hbw7.trans (hb8.mono h7.below.size), hk7.below hb8⟩
       | false =>
         go_wp2
         go_meet
         rw [hew, if_neg (by decide)]
         exact ⟨_, _, rfl, hR7, h7, hbw7, hk7⟩
      case rest =>
       obtain ⟨A9, c9, rfl, hR9, h9, hbw9, hk9⟩ := hcut
       clear hew hR7 h7 hbw7 hk7 hwp hwr hgo hvo h2 h3 h4 hbw2 hbw3 hbw4 hk2 hk3 hk4 hR4
       generalize endW nm = wl at *
       have hbl := (Below.refl _ wc).alloc (Nat.le_refl _) (.cells #[.string nm] 9)
       have hl10 := lit1 wc nm w0.heap.size h9.below.size
       have hR10 := Kd.R_below hR9 hbl
       obtain ⟨vo, vr, g1, g2, g3⟩ := id h9.ex
       obtain ⟨Ao, co, rfl⟩ := Kd.R_slice g2
       have hV10 := Kd.R_below g2 hbl
       obtain ⟨f0, f1, f2, ff⟩ := three_facts g1
       obtain ⟨y0, y1, y2, yf⟩ := three_facts (heap_below g1 hbl)
       have hfd := Lib.hid (found1_c w0.heap.size Ao co op _ _ nm A9 c9 wl _ hV10 hl10 hR10)
       have hfl := foundK_lt op [nm] wl op.length
       by_cases hneg : 0 ≤ foundK op [nm] wl op.length
       ·have hF2 := hF.out
        rw [if_pos hneg] at hF2
        obtain ⟨i, hi⟩ : ∃ i : Nat, foundK op [nm] wl op.length = i := ⟨(foundK op [nm] wl op.length).toNat, by omega⟩
        rw [hi] at hfd hfl hF2
        simp only [Int.toNat_natCast] at hF2
        have hil : i < op.length := by omega
        have hrd := Kd.R_reads' g2
        replace hF2 := Lib.hid hF2
        clear hi hneg hfl hR10 hR9 hl10 hF
        have e3 : decide ((0 : Int) ≤ (i : Int)) = true := decide_eq_true (by omega)
        go_wp2_with (go_at_call 77; ((with_reducible refine hfd.out.mono ?_); rintro e W11 ⟨rfl, hb11⟩; have g11 := heap_below (heap_below g1 hbl) hb11; obtain ⟨z0, z1, z2, zf⟩ := three_facts g11))
        refine bodyPost_ret (results_none rfl _ _ _) rfl ?_
        rw [hF2.out]
        have hV11 := Kd.R_below hV10 hb11
        have h11 := (h9.step hbl).step hb11
        have g3' := Kd.R_below (Kd.R_below g3 hbl) hb11
        have htk := Kd.R_take (m := i) hV11 (by omega)
        have hbw11 := (hbw9.trans (hbl.mono h9.below.size)).trans (hb11.mono (h9.step hbl).below.size)
        refine ⟨rfl, ⟨h11.below.setCell (p := ⟨B, 0, none⟩) h.base _, h.base, _, _, blk_put g11 0 _ rfl, Kd.R_set htk g11 (by decide) 0 _, Kd.R_set g3' g11 (by decide) 0 _⟩, hbw11.setCell (p := ⟨B, 0, none⟩) h.base _, ((hk9.below hbl).below hb11).set 0 _⟩
       ·have hF2 := hF.out
        rw [if_neg hneg] at hF2
        generalize foundK op [nm] wl op.length = i at *
        have e3 : decide ((0 : Int) ≤ i) = false := decide_eq_false hneg
        clear hneg hfl hR10 hR9 hl10 hF
        by_cases hp2 : nm.data.toList = [112]
        ·rw [if_pos hp2] at hF2
         replace hF2 := Lib.hid hF2
         have hnp : nm = pN := by
          obtain ⟨⟨d⟩⟩ := nm
          simpa using hp2
         subst hnp
         clear hs e0 e1 e2 hp2
         go_wp2_with (first
          | (go_at_call 77; ((with_reducible refine hfd.out.mono ?_); rintro e W11 ⟨rfl, hb11⟩; have h11 := (h9.step hbl).step hb11; have hbw11 := (hbw9.trans (hbl.mono h9.below.size)).trans (hb11.mono (h9.step hbl).below.size); have hk11 := (hk9.below hbl).below hb11))
          | (go_at_call 68; ((with_reducible refine (lay_c w0 B op out big 0 0 pN ⟨#[]⟩ (.slice none 0 0) [] _ h11 (Kd.R_nil _ _ _ _ _) hl (by omega)).mono ?_); rintro e W12 ⟨rfl, h12, hb12, hk12⟩)))
         go_end0
         rw [hF2.out]
         exact ⟨rfl, h12, hbw11.trans hb12, hk11.trans hk12⟩
        ·rw [if_neg hp2] at hF2
         replace hF2 := Lib.hid hF2
         have e4 : (nm.toList == [112]) = false := by rw [Lib.toList_data]; exact beq_eq_false_iff_ne.2 hp2
         have e5 : ¬ nm = ⟨#[112]⟩ := fun e => hp2 (by rw [e])
         go_wp2_with (go_at_call 77; ((with_reducible refine hfd.out.mono ?_); rintro e W11 ⟨rfl, hb11⟩; have h11 := (h9.step hbl).step hb11; have hbw11 := (hbw9.trans (hbl.mono h9.below.size)).trans (hb11.mono (h9.step hbl).below.size); have hk11 := (hk9.below hbl).below hb11))
         go_end0
         rw [hF2.out]
         exact ⟨rfl, h11, hbw11, hk11⟩
end Go.Proofs.YtkcmghlhpbepcaaGreatDoorH.W7

/- Rows of tokens and of attributes in the words of the printed walks, and in our own. -/
namespace Go.Proofs.YtkcmghlhpbepcaaGreatDoorH.W7
open Go.RowKit Go.Proofs Go.Proofs.YtkcmghlhpbepcaaGreatDoor Go.Proofs.YtkcmghlhpbepcaaGreatDoorW.PrintWords
def pairS (a : S36) : Txt × Txt := (a.f0.data.toList, a.f1.data.toList)
def tokS (x : S65) : Tok := ⟨x.f0, x.f1.data.toList, x.f3.map pairS, x.f2.data.toList, x.f4⟩
def pairT (a : Txt × Txt) : S36 := ⟨⟨a.1.toArray⟩, ⟨a.2.toArray⟩⟩
def tokT (x : Tok) : S65 := ⟨x.kind, ⟨x.name.toArray⟩, ⟨x.data.toArray⟩, x.attrs.map pairT, x.self⟩
theorem pairS_T (a : Txt × Txt) : pairS (pairT a) = a := rfl
theorem pairsS_T (l : List (Txt × Txt)) : (l.map pairT).map pairS = l := by
 induction l with
 | nil => rfl
 | cons a l ih => simp only [List.map_cons, pairS_T, ih]
end Go.Proofs.YtkcmghlhpbepcaaGreatDoorH.W7

/- Contract of build.Tree: token by token. -/
namespace Go.Proofs.YtkcmghlhpbepcaaGreatDoorH.W7
open Go.RowKit Go.Proofs Go.Proofs.YtkcmghlhpbepcaaGreatDoor Go.Proofs.YtkcmghlhpbepcaaGreatDoorW.PrintWords
abbrev Tk := S65
def nmB (s : ByteArray) : Bool := (names_Closes.f 200 s).isSome && (names_Walls.f 200 s).isSome && (names_Gone.f 200 s).isSome && (names_Void.f 200 s).isSome && (build_paragraph.f s).isSome
theorem some_get {α : Type} {o : Option α} (d : α) (h : o.isSome = true) : o = some (o.getD d) := by cases o <;> simp at h ⊢
theorem nmB_ok {s : ByteArray} (h : nmB s = true) : NmOk s := by
 unfold nmB at h
 simp only [Bool.and_eq_true] at h
 obtain ⟨⟨⟨⟨h1, h2⟩, h3⟩, h4⟩, h5⟩ := h
 exact ⟨some_get [] h1, some_get [] h2, some_get false h3, some_get false h4, some_get false h5⟩
def szB (out : List Rw) (s : ByteArray) : Bool := out.all fun x => decide (x.f3.size + s.size ≤ 9223372036854775807)
def stepF (op : List ByteArray) (out : List Rw) (t : Tk) : List ByteArray × List Rw × Bool :=
 if t.f0 = 0 then (op, textF op out false t.f2) else if t.f0 = 3 then (op, layF op out false ⟨0, 2, ⟨#[]⟩, t.f2, []⟩)
 else if t.f0 = 1 then startF op out false t.f1 t.f3 else if t.f0 = 2 then endF op out false t.f1 else (op, out, false)
def okT (out : List Rw) (t : Tk) : Bool :=
 if t.f0 = 0 then szB out t.f2 else if t.f0 = 1 then nmB t.f1 && decide (t.f3.length ≤ 1000000) else if t.f0 = 2 then nmB t.f1 else true
def treeG : List Tk → List ByteArray → List Rw → Option (List Rw × Int)
 | [], _, out => (rows_Normal.f out).bind fun n => some (n, 0)
 | t :: r, op, out => if okT out t then (if (stepF op out t).2.2 then some ([], 2) else treeG r (stepF op out t).1 (stepF op out t).2.1) else none
def build_Tree.f (l : List Tk) : Option (List Rw × Int) := if nmB pN && nmB tbN && nmB trN then treeG l [] [] else none
theorem lay_small (op : List ByteArray) (out : List Rw) (x : Rw) (h : (layF op out false x).2 = false) : (layF op out false x).1.length ≤ 4096 ∧ op.length < 60 := by
 unfold layF at h ⊢
 split at h
 ·cases h
 ·rename_i g
  rw [if_neg g]
  simp
  omega
theorem step_small (op : List ByteArray) (out : List Rw) (t : Tk) (ho : out.length ≤ 4096) (hp : op.length ≤ 60) (h : (stepF op out t).2.2 = false) : (stepF op out t).2.1.length ≤ 4096 ∧ (stepF op out t).1.length ≤ 60 := by
 unfold stepF at h ⊢
 split
 ·rename_i g
  rw [if_pos g] at h
  unfold textF at h ⊢
  split
  ·exact ⟨ho, hp⟩
  ·rename_i g2
   rw [if_neg g2] at h
   split
   ·simpa using ⟨ho, hp⟩
   ·rename_i g3
    rw [if_neg g3] at h
    exact ⟨(lay_small _ _ _ h).1, hp⟩
 ·rename_i g
  rw [if_neg g] at h
  split
  ·rename_i g2
   rw [if_pos g2] at h
   exact ⟨(lay_small _ _ _ h).1, hp⟩
  ·rename_i g2
   rw [if_neg g2] at h
   split
   ·rename_i g3
    rw [if_pos g3] at h
    unfold startF at h ⊢
    have hs := startOp_len op t.f1
    split
    ·exact ⟨ho, hp⟩
    ·rename_i g4
     rw [if_neg g4] at h
     split
     ·exact ⟨ho, hp⟩
     ·rename_i g5
      rw [if_neg g5] at h
      have hl := lay_small _ _ _ h
      refine ⟨hl.1, ?_⟩
      show (if voidL t.f1 = true then startOp op t.f1 else startOp op t.f1 ++ [t.f1]).length ≤ 60
      split
      ·omega
      ·rw [List.length_append]
       have := hl.2
       simp
       omega
   ·rename_i g3
    rw [if_neg g3] at h
    split
    ·rename_i g4
     rw [if_pos g4] at h
     unfold endF at h ⊢
     split
     ·exact ⟨ho, hp⟩
     ·rename_i q1
      rw [if_neg q1] at h
      split
      ·exact ⟨ho, hp⟩
      ·rename_i q2
       rw [if_neg q2] at h
       split
       ·exact ⟨ho, hp⟩
       ·rename_i q3
        rw [if_neg q3] at h
        split
        ·refine ⟨ho, ?_⟩
         show (op.take _).length ≤ 60
         rw [List.length_take]
         omega
        ·rename_i q4
         rw [if_neg q4] at h
         split
         ·rename_i q5
          rw [if_pos q5] at h
          exact ⟨(lay_small _ _ _ h).1, hp⟩
         ·exact ⟨ho, hp⟩
    ·exact ⟨ho, hp⟩
theorem tok_at {w : World} {A : Option Addr} {l : List Tk} (h : k65.C w A l.length l) (i : Nat) (hi : i < l.length) :
 ∃ g o A3 c3, A = some ⟨g, o, none⟩ ∧ w.cell? ⟨g, o + i * 5, none⟩ = some (.int .i64 l[i].f0) ∧ w.cell? ⟨g, o + i * 5 + 1, none⟩ = some (.string l[i].f1) ∧ w.cell? ⟨g, o + i * 5 + 2, none⟩ = some (.string l[i].f2) ∧
  w.cell? ⟨g, o + i * 5 + 3, none⟩ = some (.slice A3 l[i].f3.length c3) ∧ w.cell? ⟨g, o + i * 5 + 4, none⟩ = some (.bool l[i].f4) ∧ k36.C w A3 l[i].f3.length l[i].f3 := by
 obtain ⟨ad, A3, c3, e, c0, c1, c2, c3', c4, l3, g3⟩ := at_T65 h i (by omega) (by omega)
 obtain ⟨ad0, _, _, e0, z0, _⟩ := at_T65 h 0 (by omega) (by omega)
 obtain rfl : ad0 = ad := Option.some.inj (e0.symm.trans e)
 have hs := spot_of (a := ad0) (by simpa [Addr.add] using z0)
 simp only [Int.toNat_natCast] at c0 c1 c2 c3' c4
 rw [hs, addr_at] at c0 c1 c2 c3' c4
 have er : rd_T65 l i = l[i] := by simp [rd_T65, hi]
 rw [er] at c0 c1 c2 c3' c4 g3
 exact ⟨ad0.block, ad0.off, _, _, by rw [e, ← hs], c0, c1, c2, c3', c4, g3⟩
theorem Bd.new (w : World) : Bd w w.heap.size [] [] false (w.alloc (.cells #[.slice none 0 0, .slice none 0 0, .bool false] 73)) :=
 ⟨(Below.refl _ w).alloc (Nat.le_refl _) _, Nat.le_refl _, _, _, new_cells w _ _, Kd.R_nil _ _ _ _ _, Kd.R_nil _ _ _ _ _⟩
theorem Bd.facts {w0 W : World} {B : Nat} {op : List ByteArray} {out : List Rw} {big : Bool} (h : Bd w0 B op out big W) : ∃ v0 Ar cr, W.cell? ⟨B, 0, none⟩ = some v0 ∧ W.cell? ⟨B, 1, none⟩ = some (.slice Ar out.length cr) ∧ W.cell? ⟨B, 2, none⟩ = some (.bool big) ∧ k34.C W Ar out.length out ∧ out.length ≤ cr := by
 obtain ⟨vo, vr, h1, h2, h3⟩ := h.ex
 obtain ⟨Ar, cr, rfl⟩ := Kd.R_slice h3
 obtain ⟨c0, c1, c2, cf⟩ := three_facts h1
 exact ⟨_, Ar, cr, c0, c1, c2, (Kd.R_reads' h3).2.2, (Kd.R_reads' h3).2.1⟩
set_option maxHeartbeats 3200000 in
set_option maxRecDepth 100000 in
theorem build_Tree.calls (A : Option Addr) (c : Nat) (l : List S65) (r1 : List S34) (r2 : Int) (w : World) (hr : k65.C w A l.length l) (hcap : l.length ≤ c) (h : build_Tree.f l = some (r1, r2)) :
 Calls Tryz.prog 21 #[.slice A l.length c] w fun e w' => ∃ v0_ : Value, e = .returned (.tuple #[v0_, .int .i64 r2]) ∧ k34.R 34 w' w.heap.size (fun _ => True) v0_ r1 ∧ Below w.heap.size w w' := by
 unfold build_Tree.f at h
 split at h
 case isFalse => cases h
 rename_i hnm
 simp only [Bool.and_eq_true] at hnm
 have hP := Lib.hid (nmB_ok hnm.1.1)
 have hT := Lib.hid (nmB_ok hnm.1.2)
 have hR := Lib.hid (nmB_ok hnm.2)
 clear hnm
 replace h := Lib.hid h
 have hxl := hr.2.1
 have hnew := Bd.new w
 have hbA : Below w.heap.size w (w.alloc (.cells #[.slice none 0 0, .slice none 0 0, .bool false] 73)) := (Below.refl _ w).alloc (Nat.le_refl _) _
 go_enter Tryz.func21, Tryz.ntmps21
 go_wp2
 go_loopw [11] (fun vi wr => ∃ (i : Nat) (op : List ByteArray) (out : List Rw), vi = .int .i64 i ∧ i ≤ l.length ∧ Hid (treeG (l.drop i) op out = some (r1, r2)) ∧ Bd w w.heap.size op out false wr ∧ out.length ≤ 4096 ∧ op.length ≤ 60 ∧ Below w.heap.size w wr) (fun vi _ => l.length - (intOf vi).toNat)
 case atStart => exact ⟨0, [], [], rfl, Nat.zero_le _, h, hnew, Nat.zero_le _, Nat.zero_le _, hbA⟩
 case round =>
  obtain ⟨i, op, out, rfl, hi, hq, hBd, hol, hpl, hbw⟩ := hrel
  clear hnew hbA h
  have hq2 := hq.out
  clear hq
  by_cases hlt : i < l.length
  ·rw [List.drop_eq_getElem_cons hlt] at hq2
   simp only [treeG] at hq2
   obtain ⟨g, o, A3, c3, rfl, z0, z1, z2, z3, z4, hxa⟩ := tok_at hr i hlt
   replace z0 := cell_keep z0 hbw
   replace z1 := cell_keep z1 hbw
   replace z2 := cell_keep z2 hbw
   replace z3 := cell_keep z3 hbw
   replace z4 := cell_keep z4 hbw
   generalize l[i] = t at *
   obtain ⟨kd, nm, dt, xa, sf⟩ := t
   simp only at z0 z1 z2 z3 z4 hxa
   cases hok : okT out ⟨kd, nm, dt, xa, sf⟩ with
   | false =>
     rw [hok, if_neg (by decide)] at hq2
     cases hq2
   | true =>
   rw [hok, if_pos rfl] at hq2
   have hsm := step_small op out ⟨kd, nm, dt, xa, sf⟩ hol hpl
   have hn := new_cells wr #[.int .i64 kd, .string nm, .string dt, .slice A3 xa.length c3, .bool sf] 65
   obtain ⟨⟨p0, p1, p2, p3, p4⟩, p5⟩ := five_facts hn
   have hbT : Below wr.heap.size wr (wr.alloc (.cells #[.int .i64 kd, .string nm, .string dt, .slice A3 xa.length c3, .bool sf] 65)) := (Below.refl _ wr).alloc (Nat.le_refl _) _
   have h1 := hBd.step hbT
   have hbw1 := hbw.trans (hbT.mono hbw.size)
   have hS : stepF op out ⟨kd, nm, dt, xa, sf⟩ = if kd = 0 then (op, textF op out false dt) else if kd = 3 then (op, layF op out false ⟨0, 2, ⟨#[]⟩, dt, []⟩)
    else if kd = 1 then startF op out false nm xa else if kd = 2 then endF op out false nm else (op, out, false) := rfl
   have hO : okT out ⟨kd, nm, dt, xa, sf⟩ = if kd = 0 then szB out dt else if kd = 1 then nmB nm && decide (xa.length ≤ 1000000) else if kd = 2 then nmB nm else true := rfl
   rw [hok] at hO
   generalize stepF op out ⟨kd, nm, dt, xa, sf⟩ = S at *
   clear hok hn
   by_cases k0 : kd = 0
   ·subst k0
    rw [if_pos rfl] at hS hO
    have hz : ∀ x ∈ out, x.f3.size + dt.size ≤ 9223372036854775807 := fun x hx => by
     have := List.all_eq_true.1 hO.symm x hx
     exact of_decide_eq_true this
    have hcall : Hid (Calls Tryz.prog 67 #[.pointer (some ⟨w.heap.size, 0, none⟩), .string dt] (wr.alloc (.cells #[.int .i64 0, .string nm, .string dt, .slice A3 xa.length c3, .bool sf] 65)) fun e W' => e = .returned (.tuple #[]) ∧
     Bd w w.heap.size S.1 S.2.1 S.2.2 W' ∧ Below w.heap.size (wr.alloc (.cells #[.int .i64 0, .string nm, .string dt, .slice A3 xa.length c3, .bool sf] 65)) W' ∧ KeptB w.heap.size (wr.alloc (.cells #[.int .i64 0, .string nm, .string dt, .slice A3 xa.length c3, .bool sf] 65)) W') := by
     apply Lib.hid
     rw [hS]
     exact text_c w w.heap.size op out false dt _ h1 (by omega) (by omega) hz
    clear hS hO
    obtain ⟨op2, out2, big2⟩ := S
    simp only at hcall hsm hq2
    cases big2 with
    | true =>
      rw [if_pos rfl] at hq2
      simp only [Option.some.injEq, Prod.mk.injEq] at hq2
      obtain ⟨rfl, rfl⟩ := hq2
      clear hsm
      go_wp2_with (go_at_call 67; ((with_reducible refine hcall.out.mono ?_); rintro e W2 ⟨rfl, h2, hb2, hk2⟩; obtain ⟨v0, Ar, cr, q0, q1, q2, hC, hcr⟩ := h2.facts))
      go_ret2
      exact ⟨_, rfl, Kd.R_nil _ _ _ _ _, hbw1.trans hb2⟩
    | false =>
      rw [if_neg (by decide)] at hq2
      replace hq2 := Lib.hid hq2
      have hsm2 := hsm rfl
      clear hsm
      go_wp2_with (go_at_call 67; ((with_reducible refine hcall.out.mono ?_); rintro e W2 ⟨rfl, h2, hb2, hk2⟩; obtain ⟨v0, Ar, cr, q0, q1, q2, hC, hcr⟩ := h2.facts))
      exact ⟨⟨i + 1, op2, out2, rfl, by omega, hq2, h2, hsm2.1, hsm2.2, hbw1.trans hb2⟩, by simp [intOf]; omega⟩
   by_cases k3 : kd = 3
   ·subst k3
    rw [if_neg (by decide), if_pos rfl] at hS
    have hcall : Hid (Calls Tryz.prog 68 #[.pointer (some ⟨w.heap.size, 0, none⟩), .agg #[.int .i64 0, .int .i64 2, .string ⟨#[]⟩, .string dt, .slice none 0 0]] (wr.alloc (.cells #[.int .i64 3, .string nm, .string dt, .slice A3 xa.length c3, .bool sf] 65)) fun e W' => e = .returned (.tuple #[]) ∧
     Bd w w.heap.size S.1 S.2.1 S.2.2 W' ∧ Below w.heap.size (wr.alloc (.cells #[.int .i64 3, .string nm, .string dt, .slice A3 xa.length c3, .bool sf] 65)) W' ∧ KeptB w.heap.size (wr.alloc (.cells #[.int .i64 3, .string nm, .string dt, .slice A3 xa.length c3, .bool sf] 65)) W') := by
     apply Lib.hid
     rw [hS]
     exact lay_c w w.heap.size op out false 0 2 ⟨#[]⟩ dt (.slice none 0 0) [] _ h1 (Kd.R_nil _ _ _ _ _) (by omega) (by omega)
    clear hS hO
    obtain ⟨op2, out2, big2⟩ := S
    simp only at hcall hsm hq2
    cases big2 with
    | true =>
      rw [if_pos rfl] at hq2
      simp only [Option.some.injEq, Prod.mk.injEq] at hq2
      obtain ⟨rfl, rfl⟩ := hq2
      clear hsm
      go_wp2_with (go_at_call 68; ((with_reducible refine hcall.out.mono ?_); rintro e W2 ⟨rfl, h2, hb2, hk2⟩; obtain ⟨v0, Ar, cr, q0, q1, q2, hC, hcr⟩ := h2.facts))
      go_ret2
      exact ⟨_, rfl, Kd.R_nil _ _ _ _ _, hbw1.trans hb2⟩
    | false =>
      rw [if_neg (by decide)] at hq2
      replace hq2 := Lib.hid hq2
      have hsm2 := hsm rfl
      clear hsm
      go_wp2_with (go_at_call 68; ((with_reducible refine hcall.out.mono ?_); rintro e W2 ⟨rfl, h2, hb2, hk2⟩; obtain ⟨v0, Ar, cr, q0, q1, q2, hC, hcr⟩ := h2.facts))
      exact ⟨⟨i + 1, op2, out2, rfl, by omega, hq2, h2, hsm2.1, hsm2.2, hbw1.trans hb2⟩, by simp [intOf]; omega⟩
   by_cases k1 : kd = 1
   ·subst k1
    rw [if_neg (by decide), if_neg (by decide), if_pos rfl] at hS
    rw [if_neg (by decide), if_pos rfl] at hO
    have hO2 := hO.symm
    simp only [Bool.and_eq_true, decide_eq_true_eq] at hO2
    have hcall : Hid (Calls Tryz.prog 69 #[.pointer (some ⟨w.heap.size, 0, none⟩), .agg #[.int .i64 1, .string nm, .string dt, .slice A3 xa.length c3, .bool sf]] (wr.alloc (.cells #[.int .i64 1, .string nm, .string dt, .slice A3 xa.length c3, .bool sf] 65)) fun e W' => e = .returned (.tuple #[]) ∧
     Bd w w.heap.size S.1 S.2.1 S.2.2 W' ∧ Below w.heap.size (wr.alloc (.cells #[.int .i64 1, .string nm, .string dt, .slice A3 xa.length c3, .bool sf] 65)) W' ∧ KeptB w.heap.size (wr.alloc (.cells #[.int .i64 1, .string nm, .string dt, .slice A3 xa.length c3, .bool sf] 65)) W') := by
     apply Lib.hid
     rw [hS]
     exact start_c w w.heap.size op out false 1 nm dt sf A3 c3 xa _ h1 hxa hO2.2 (by omega) (by omega) (nmB_ok hO2.1) hP.out
    clear hS hO
    obtain ⟨op2, out2, big2⟩ := S
    simp only at hcall hsm hq2
    cases big2 with
    | true =>
      rw [if_pos rfl] at hq2
      simp only [Option.some.injEq, Prod.mk.injEq] at hq2
      obtain ⟨rfl, rfl⟩ := hq2
      clear hsm
      go_wp2_with (go_at_call 69; ((with_reducible refine hcall.out.mono ?_); rintro e W2 ⟨rfl, h2, hb2, hk2⟩; obtain ⟨v0, Ar, cr, q0, q1, q2, hC, hcr⟩ := h2.facts))
      go_ret2
      exact ⟨_, rfl, Kd.R_nil _ _ _ _ _, hbw1.trans hb2⟩
    | false =>
      rw [if_neg (by decide)] at hq2
      replace hq2 := Lib.hid hq2
      have hsm2 := hsm rfl
      clear hsm
      go_wp2_with (go_at_call 69; ((with_reducible refine hcall.out.mono ?_); rintro e W2 ⟨rfl, h2, hb2, hk2⟩; obtain ⟨v0, Ar, cr, q0, q1, q2, hC, hcr⟩ := h2.facts))
      exact ⟨⟨i + 1, op2, out2, rfl, by omega, hq2, h2, hsm2.1, hsm2.2, hbw1.trans hb2⟩, by simp [intOf]; omega⟩
   by_cases k2 : kd = 2
   ·subst k2
    rw [if_neg (by decide), if_neg (by decide), if_neg (by decide), if_pos rfl] at hS
    rw [if_neg (by decide), if_neg (by decide), if_pos rfl] at hO
    have hcall : Hid (Calls Tryz.prog 70 #[.pointer (some ⟨w.heap.size, 0, none⟩), .string nm] (wr.alloc (.cells #[.int .i64 2, .string nm, .string dt, .slice A3 xa.length c3, .bool sf] 65)) fun e W' => e = .returned (.tuple #[]) ∧
     Bd w w.heap.size S.1 S.2.1 S.2.2 W' ∧ Below w.heap.size (wr.alloc (.cells #[.int .i64 2, .string nm, .string dt, .slice A3 xa.length c3, .bool sf] 65)) W' ∧ KeptB w.heap.size (wr.alloc (.cells #[.int .i64 2, .string nm, .string dt, .slice A3 xa.length c3, .bool sf] 65)) W') := by
     apply Lib.hid
     rw [hS]
     exact end_c w w.heap.size op out false nm _ h1 (by omega) (by omega) (nmB_ok hO.symm) hP.out hT.out hR.out
    clear hS hO
    obtain ⟨op2, out2, big2⟩ := S
    simp only at hcall hsm hq2
    cases big2 with
    | true =>
      rw [if_pos rfl] at hq2
      simp only [Option.some.injEq, Prod.mk.injEq] at hq2
      obtain ⟨rfl, rfl⟩ := hq2
      clear hsm
      go_wp2_with (go_at_call 70; ((with_reducible refine hcall.out.mono ?_); rintro e W2 ⟨rfl, h2, hb2, hk2⟩; obtain ⟨v0, Ar, cr, q0, q1, q2, hC, hcr⟩ := h2.facts))
      go_ret2
      exact ⟨_, rfl, Kd.R_nil _ _ _ _ _, hbw1.trans hb2⟩
    | false =>
      rw [if_neg (by decide)] at hq2
      replace hq2 := Lib.hid hq2
      have hsm2 := hsm rfl
      clear hsm
      go_wp2_with (go_at_call 70; ((with_reducible refine hcall.out.mono ?_); rintro e W2 ⟨rfl, h2, hb2, hk2⟩; obtain ⟨v0, Ar, cr, q0, q1, q2, hC, hcr⟩ := h2.facts))
      exact ⟨⟨i + 1, op2, out2, rfl, by omega, hq2, h2, hsm2.1, hsm2.2, hbw1.trans hb2⟩, by simp [intOf]; omega⟩
   rw [if_neg k0, if_neg k3, if_neg k1, if_neg k2] at hS
   clear hO
   subst hS
   simp only at hsm hq2
   rw [if_neg (by decide)] at hq2
   replace hq2 := Lib.hid hq2
   clear hsm
   obtain ⟨v0, Ar, cr, q0, q1, q2, hC, hcr⟩ := h1.facts
   have e0 : (kd == 0) = false := beq_eq_false_iff_ne.2 k0
   have e1 : (kd == 1) = false := beq_eq_false_iff_ne.2 k1
   have e2 : (kd == 2) = false := beq_eq_false_iff_ne.2 k2
   have e3 : (kd == 3) = false := beq_eq_false_iff_ne.2 k3
   go_wp2
   exact ⟨⟨i + 1, op, out, rfl, by omega, hq2, h1, hol, hpl, hbw1⟩, by simp [intOf]; omega⟩
  ·rw [List.drop_of_length_le (by omega)] at hq2
   simp only [treeG] at hq2
   obtain ⟨ns, hns, hq3⟩ := Option.bind_eq_some_iff.1 hq2
   simp only [Option.some.injEq, Prod.mk.injEq] at hq3
   obtain ⟨rfl, rfl⟩ := hq3
   obtain ⟨v0, Ar, cr, q0, q1, q2, hC, hcr⟩ := hBd.facts
   have hcall := Lib.hid (rows_Normal.calls Ar cr out ns wr hC hcr hns)
   clear hns hq2
   go_wp2_with (go_at_call 41; ((with_reducible refine hcall.out.mono ?_); rintro e W2 ⟨v2, rfl, hR2, hb2⟩))
   go_ret2
   exact ⟨_, rfl, Kd.R_lower hR2 hbw.size, hbw.trans (hb2.mono hbw.size)⟩
end Go.Proofs.YtkcmghlhpbepcaaGreatDoorH.W7

/- Trees of tokens, in lists alone: what the builder comes to has a value, and its rows are normal. -/
namespace Go.Proofs.YtkcmghlhpbepcaaGreatDoorH.W7
open Go.RowKit Go.Proofs Go.Proofs.YtkcmghlhpbepcaaGreatDoorH Go.Proofs.YtkcmghlhpbepcaaGreatDoor Go.Proofs.YtkcmghlhpbepcaaGreatDoorW.PrintWords
def goneT : List ByteArray := [⟨#[98, 111, 100, 121]⟩, ⟨#[102, 114, 97, 109, 101, 115, 101, 116]⟩, ⟨#[104, 101, 97, 100]⟩, ⟨#[104, 116, 109, 108]⟩]
def voidT : List ByteArray := [[97, 114, 101, 97], [98, 97, 115, 101], [98, 114], [99, 111, 108], [101, 109, 98, 101, 100], [104, 114], [105, 109, 103], [105, 110, 112, 117, 116], [108, 105, 110, 107], [109, 101, 116, 97], [112, 97, 114, 97, 109], [115, 111, 117, 114, 99, 101], [116, 114, 97, 99, 107], [119, 98, 114]].map fun l => ⟨l.toArray⟩
theorem goneT_f (s : ByteArray) (k : Nat) (hk : 20 ≤ k) : names_Gone.f k s = some (memS goneT s) := by
 unfold names_Gone.f
 rw [among_f _ _ _ (by simp) (by simp; omega), Option.bind_some]
 rfl
theorem voidT_f (s : ByteArray) (k : Nat) (hk : 20 ≤ k) : names_Void.f k s = some (memS voidT s) := by
 unfold names_Void.f
 rw [among_f _ _ _ (by simp) (by simp; omega), Option.bind_some]
 rfl
theorem nmB_all (s : ByteArray) : nmB s = true := by
 unfold nmB
 obtain ⟨c, hc, -⟩ := closes_some s 200 (by omega)
 obtain ⟨w, hw, -⟩ := walls_some s 200 (by omega)
 obtain ⟨p, hp⟩ := par_some s
 rw [hc, hw, hp, goneT_f _ _ (by omega), voidT_f _ _ (by omega)]
 rfl
theorem goneL_eq (s : ByteArray) : goneL s = memS goneT s := by unfold goneL; rw [goneT_f _ _ (by omega)]; rfl
theorem voidL_eq (s : ByteArray) : voidL s = memS voidT s := by unfold voidL; rw [voidT_f _ _ (by omega)]; rfl
def treeP : List Tk → List ByteArray → List Rw → Option (List Rw)
 | [], _, out => some out
 | t :: r, op, out => if (stepF op out t).2.2 then none else treeP r (stepF op out t).1 (stepF op out t).2.1
inductive Grown (t : Tk) (out : List Rw) : List Rw → Prop
 | same : Grown t out out
 | app (x : Rw) (h0 : 0 ≤ x.f0) (h1 : x.f0 < 60) (hd : dropB out.getLast? x = false) (hs : x.f3.size ≤ t.f2.size) (ha : x.f4.length ≤ t.f3.length) : Grown t out (out ++ [x])
 | text (pre : List Rw) (y : Rw) (he : out = pre ++ [y]) (hy : y.f1 = 1) (hn : t.f2.data.toList ≠ []) : Grown t out (pre ++ [addT y t.f2])
theorem onceG_len : ∀ (l out : List At), (onceG out l).length ≤ out.length + l.length
 | [], out => by simp [onceG]
 | a :: r, out => by
   simp only [onceG]
   have := onceG_len r (if hasN out a then out else out ++ [a])
   split at this
   ·rename_i h
    rw [if_pos h]
    simp only [List.length_cons]
    omega
   ·rename_i h
    rw [if_neg h]
    simp only [List.length_append, List.length_cons, List.length_nil] at this ⊢
    omega
theorem lay_grown (t : Tk) (op : List ByteArray) (out : List Rw) (x : Rw) (h : (layF op out false x).2 = false) (hd : ∀ d, dropB out.getLast? ⟨op.length, x.f1, x.f2, x.f3, d⟩ = false) (hs : x.f3.size ≤ t.f2.size) (ha : x.f4.length ≤ t.f3.length) : Grown t out (layF op out false x).1 := by
 have hl := lay_small op out x h
 unfold layF at h ⊢
 split
 ·rename_i g
  rw [if_pos g] at h
  cases h
 ·exact .app _ (by simp) (by simp; omega) (hd _) hs ha
theorem drop_el (p : Option Rw) (x : Rw) (h : x.f1 ≠ 1) : dropB p x = false := by simp [dropB, h]
theorem step_grown (op : List ByteArray) (out : List Rw) (t : Tk) (h : (stepF op out t).2.2 = false) : Grown t out (stepF op out t).2.1 := by
 unfold stepF at h ⊢
 by_cases k0 : t.f0 = 0
 ·rw [if_pos k0] at h ⊢
  unfold textF at h ⊢
  by_cases e : t.f2.data.toList = []
  ·rw [if_pos e]; exact .same
  rw [if_neg e] at h ⊢
  cases hj : joinB op out with
  | true =>
    rw [if_pos rfl]
    unfold joinB at hj
    cases hL : out.getLast? with
    | none => rw [hL] at hj; cases hj
    | some y =>
      rw [hL] at hj
      simp only [Bool.and_eq_true, decide_eq_true_eq] at hj
      have hpos : 0 < out.length := by cases out with | nil => cases hL | cons a l => simp
      have hr := last_rd out hpos
      rw [hL] at hr
      rw [← Option.some.inj hr]
      obtain ⟨pre, rfl⟩ := List.getLast?_eq_some_iff.1 hL
      have : (pre ++ [y]).set ((pre ++ [y]).length - 1) (addT y t.f2) = pre ++ [addT y t.f2] := by
       simp
      show Grown t _ ((pre ++ [y]).set ((pre ++ [y]).length - 1) (addT y t.f2))
      rw [this]
      exact .text pre y rfl hj.1 e
  | false =>
    rw [hj] at h
    rw [if_neg (by decide)] at h ⊢
    refine lay_grown t op out ⟨0, 1, ⟨#[]⟩, t.f2, []⟩ h ?_ (Nat.le_refl _) (Nat.zero_le _)
    intro d
    unfold joinB at hj
    simp only [dropB, e, decide_true, decide_false, Bool.true_and, Bool.false_or]
    exact hj
 rw [if_neg k0] at h ⊢
 by_cases k3 : t.f0 = 3
 ·rw [if_pos k3] at h ⊢
  exact lay_grown t op out ⟨0, 2, ⟨#[]⟩, t.f2, []⟩ h (fun d => drop_el _ _ (by simp)) (Nat.le_refl _) (Nat.zero_le _)
 rw [if_neg k3] at h ⊢
 by_cases k1 : t.f0 = 1
 ·rw [if_pos k1] at h ⊢
  unfold startF at h ⊢
  by_cases e1 : t.f1.data.toList = []
  ·rw [if_pos e1]; exact .same
  rw [if_neg e1] at h ⊢
  by_cases e2 : goneL t.f1 = true
  ·rw [if_pos e2]; exact .same
  rw [if_neg e2] at h ⊢
  refine lay_grown t _ out ⟨0, 0, t.f1, ⟨#[]⟩, onceA t.f3⟩ h (fun d => drop_el _ _ (by simp)) (Nat.zero_le _) ?_
  have := onceG_len t.f3 []
  simpa [onceA] using this
 rw [if_neg k1] at h ⊢
 by_cases k2 : t.f0 = 2
 ·rw [if_pos k2] at h ⊢
  unfold endF at h ⊢
  by_cases e1 : t.f1.data.toList = []
  ·rw [if_pos e1]; exact .same
  rw [if_neg e1] at h ⊢
  by_cases e2 : goneL t.f1 = true
  ·rw [if_pos e2]; exact .same
  rw [if_neg e2] at h ⊢
  by_cases e3 : voidL t.f1 = true
  ·rw [if_pos e3]; exact .same
  rw [if_neg e3] at h ⊢
  by_cases e4 : 0 ≤ foundK op [t.f1] (endW t.f1) op.length
  ·rw [if_pos e4]; exact .same
  rw [if_neg e4] at h ⊢
  by_cases e5 : t.f1.data.toList = [112]
  ·rw [if_pos e5] at h ⊢
   exact lay_grown t op out ⟨0, 0, t.f1, ⟨#[]⟩, []⟩ h (fun d => drop_el _ _ (by simp)) (Nat.zero_le _) (Nat.zero_le _)
  ·rw [if_neg e5]; exact .same
 rw [if_neg k2]
 exact .same
structure Built (op : List ByteArray) (out : List Rw) (S : Nat) : Prop where
 len : out.length ≤ 4096
 open_ : op.length ≤ 60
 depth : ∀ x ∈ out, 0 ≤ x.f0 ∧ x.f0 < 60
 normal : njGo none out = true
 size : ∀ x ∈ out, x.f3.size ≤ S
 attrs : ∀ x ∈ out, x.f4.length ≤ 1000000
theorem built_nil : Built [] [] 0 := ⟨by simp, by simp, by simp, rfl, by simp, by simp⟩
theorem ba_nil (a : ByteArray) : a.data.toList = [] ↔ a.size = 0 := by
 show _ ↔ a.data.size = 0
 rw [← Array.length_toList, List.length_eq_zero_iff]
theorem built_step {op : List ByteArray} {out : List Rw} {S : Nat} (hB : Built op out S) (t : Tk) (ht : t.f3.length ≤ 1000000) (h : (stepF op out t).2.2 = false) : Built (stepF op out t).1 (stepF op out t).2.1 (S + t.f2.size) := by
 have hs := step_small op out t hB.len hB.open_ h
 have hg := step_grown op out t h
 generalize stepF op out t = R at *
 obtain ⟨op2, out2, big⟩ := R
 simp only at hs hg h ⊢
 cases hg with
 | same => exact ⟨hs.1, hs.2, hB.depth, hB.normal, fun x hx => by have := hB.size x hx; omega, hB.attrs⟩
 | app x h0 h1 hd hz ha =>
   refine ⟨hs.1, hs.2, ?_, ?_, ?_, ?_⟩
   ·intro y hy
    rcases List.mem_append.1 hy with hy | hy
    ·exact hB.depth y hy
    ·obtain rfl := List.mem_singleton.1 hy
     exact ⟨h0, h1⟩
   ·rw [njGo_app, hB.normal]
    simp [njGo, hd]
   ·intro y hy
    rcases List.mem_append.1 hy with hy | hy
    ·have := hB.size y hy; omega
    ·obtain rfl := List.mem_singleton.1 hy
     omega
   ·intro y hy
    rcases List.mem_append.1 hy with hy | hy
    ·exact hB.attrs y hy
    ·obtain rfl := List.mem_singleton.1 hy
     omega
 | text pre y he hy hn =>
   subst he
   have hy0 := hB.depth y (by simp)
   have hy1 := hB.size y (by simp)
   have hy2 := hB.attrs y (by simp)
   refine ⟨hs.1, hs.2, ?_, ?_, ?_, ?_⟩
   ·intro x hx
    rcases List.mem_append.1 hx with hx | hx
    ·exact hB.depth x (by simp [hx])
    ·obtain rfl := List.mem_singleton.1 hx
     exact hy0
   ·have := hB.normal
    rw [njGo_app] at this ⊢
    simp only [Bool.and_eq_true] at this ⊢
    refine ⟨this.1, ?_⟩
    have h2 := this.2
    simp only [njGo, Bool.and_true, Bool.not_eq_true'] at h2 ⊢
    simp only [dropB, hy, addT, decide_true, Bool.true_and, Bool.or_eq_false_iff, decide_eq_false_iff_not] at h2 ⊢
    refine ⟨?_, h2.2⟩
    rw [ba_nil, ByteArray.size_append]
    rw [Ne, ba_nil] at hn
    omega
   ·intro x hx
    rcases List.mem_append.1 hx with hx | hx
    ·have := hB.size x (by simp [hx]); omega
    ·obtain rfl := List.mem_singleton.1 hx
     show (y.f3 ++ t.f2).size ≤ _
     rw [ByteArray.size_append]
     omega
   ·intro x hx
    rcases List.mem_append.1 hx with hx | hx
    ·exact hB.attrs x (by simp [hx])
    ·obtain rfl := List.mem_singleton.1 hx
     exact hy2
def sumT (l : List Tk) : Nat := (l.map fun t => t.f2.size).sum
theorem treeG_val : ∀ (l : List Tk) (op : List ByteArray) (out : List Rw) (S : Nat), Built op out S → S + sumT l ≤ 9223372036854775807 → (∀ t ∈ l, t.f3.length ≤ 1000000) →
 treeG l op out = some (match treeP l op out with | none => ([], 2) | some o => (o, 0)) ∧ ∀ o, treeP l op out = some o → ∃ op2, Built op2 o (S + sumT l)
 | [], op, out, S, hB, _, _ => by
   simp only [treeG, treeP]
   rw [normal_id out (by have := hB.len; omega) (fun x hx => by have := hB.depth x hx; omega) hB.attrs hB.normal, Option.bind_some]
   refine ⟨rfl, fun o ho => ?_⟩
   obtain rfl := Option.some.inj ho
   exact ⟨op, hB⟩
 | t :: r, op, out, S, hB, hS, ha => by
   have e : sumT (t :: r) = t.f2.size + sumT r := by simp [sumT]
   rw [e] at hS ⊢
   have hok : okT out t = true := by
    unfold okT
    split
    ·unfold szB
     rw [List.all_eq_true]
     intro x hx
     have := hB.size x hx
     exact decide_eq_true (by omega)
    ·split
     ·rw [nmB_all, decide_eq_true (ha t (by simp))]
      rfl
     ·split
      ·exact nmB_all _
      ·rfl
   simp only [treeG, treeP]
   rw [if_pos hok]
   cases hb : (stepF op out t).2.2 with
   | true => exact ⟨rfl, fun o ho => by cases ho⟩
   | false =>
     rw [if_neg (by decide), if_neg (by decide)]
     obtain ⟨h1, h2⟩ := treeG_val r _ _ _ (built_step hB t (ha t (by simp)) hb) (by omega) (fun x hx => ha x (List.mem_cons_of_mem _ hx))
     refine ⟨h1, fun o ho => ?_⟩
     obtain ⟨op2, h3⟩ := h2 o ho
     exact ⟨op2, by rw [← Nat.add_assoc]; exact h3⟩
theorem tree_f (l : List Tk) (hS : sumT l ≤ 9223372036854775807) (ha : ∀ t ∈ l, t.f3.length ≤ 1000000) :
 build_Tree.f l = some (match treeP l [] [] with | none => ([], 2) | some o => (o, 0)) := by
 unfold build_Tree.f
 rw [nmB_all, nmB_all, nmB_all]
 exact (treeG_val l [] [] 0 built_nil (by omega) ha).1
theorem tree_built (l : List Tk) (hS : sumT l ≤ 9223372036854775807) (ha : ∀ t ∈ l, t.f3.length ≤ 1000000) (o : List Rw) (h : treeP l [] [] = some o) : ∃ op, Built op o (sumT l) := by
 obtain ⟨op, hb⟩ := (treeG_val l [] [] 0 built_nil (by omega) ha).2 o h
 exact ⟨op, by rwa [Nat.zero_add] at hb⟩
theorem attrs_tree (M : Nat) : ∀ (l : List Tk) (op : List ByteArray) (out : List Rw), (∀ t ∈ l, t.f3.length ≤ M) → (∀ x ∈ out, x.f4.length ≤ M) → ∀ o, treeP l op out = some o → ∀ x ∈ o, x.f4.length ≤ M
 | [], op, out, _, h, o, ho => by
   obtain rfl := Option.some.inj ho
   exact h
 | t :: r, op, out, hl, h, o, ho => by
   simp only [treeP] at ho
   cases hb : (stepF op out t).2.2 with
   | true => rw [hb, if_pos rfl] at ho; cases ho
   | false =>
     rw [hb, if_neg (by decide)] at ho
     have hg := step_grown op out t hb
     refine attrs_tree M r _ _ (fun x hx => hl x (List.mem_cons_of_mem _ hx)) ?_ o ho
     have ht := hl t (by simp)
     generalize (stepF op out t).2.1 = out2 at *
     cases hg with
     | same => exact h
     | app x h0 h1 hd hs ha =>
       intro y hy
       rcases List.mem_append.1 hy with hy | hy
       ·exact h y hy
       ·obtain rfl := List.mem_singleton.1 hy
        omega
     | text pre y he hy hn =>
       subst he
       intro z hz
       rcases List.mem_append.1 hz with hz | hz
       ·exact h z (by simp [hz])
       ·obtain rfl := List.mem_singleton.1 hz
        exact h y (by simp)
theorem tree_built2 (l : List Tk) (hS : sumT l ≤ 9223372036854775807) (M : Nat) (ha : ∀ t ∈ l, t.f3.length ≤ M ∧ M ≤ 1000000) (o : List Rw) (h : treeP l [] [] = some o) : ∃ op, Built op o (sumT l) ∧ ∀ x ∈ o, x.f4.length ≤ M := by
 obtain ⟨op, hb⟩ := tree_built l hS (fun t ht => by have := ha t ht; omega) o h
 exact ⟨op, hb, attrs_tree M l [] [] (fun t ht => (ha t ht).1) (by simp) o h⟩
end Go.Proofs.YtkcmghlhpbepcaaGreatDoorH.W7
