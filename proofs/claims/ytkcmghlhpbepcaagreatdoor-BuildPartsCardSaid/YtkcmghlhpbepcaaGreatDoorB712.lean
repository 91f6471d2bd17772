/- Lemmas and walks, part 12: QE7E, QE7F, QPW7x9, QPW7x12. -/
import Derived.Test.YtkcmghlhpbepcaaGreatDoorB711
import Derived.Test.YtkcmghlhpbepcaaGreatDoorB79
set_option linter.unusedVariables false
set_option linter.unusedSimpArgs false

/- Contract of the tree builder's text: a text is laid, or joined to the one that stands right ahead of it. -/
namespace Go.Proofs.YtkcmghlhpbepcaaGreatDoorH.W7
open Go.RowKit Go.Proofs Go.Proofs.YtkcmghlhpbepcaaGreatDoor Go.Proofs.YtkcmghlhpbepcaaGreatDoorW.PrintWords Go.Proofs.YtkcmghlhpbepcaaGreatDoorW.PrintLast
def joinB (op : List ByteArray) (out : List Rw) : Bool := match out.getLast? with | none => false | some y => decide (y.f1 = 1) && decide (y.f0 = op.length)
def addT (y : Rw) (s : ByteArray) : Rw := ⟨y.f0, y.f1, y.f2, y.f3 ++ s, y.f4⟩
def textF (op : List ByteArray) (out : List Rw) (big : Bool) (s : ByteArray) : List Rw × Bool :=
 if s.data.toList = [] then (out, big)
 else if joinB op out then (out.set (out.length - 1) (addT (rd_T34 out ((out.length : Int) - 1)) s), big)
 else layF op out big ⟨0, 1, ⟨#[]⟩, s, []⟩
set_option maxHeartbeats 400000 in
set_option maxRecDepth 100000 in
theorem text_c (w0 : World) (B : Nat) (op : List ByteArray) (out : List Rw) (big : Bool) (s : ByteArray) (W : World) (h : Bd w0 B op out big W) (hl : out.length ≤ 100000) (ho : op.length ≤ 100000) (hz : ∀ x ∈ out, x.f3.size + s.size ≤ 9223372036854775807) :
 Calls Tryz.prog 67 #[.pointer (some ⟨B, 0, none⟩), .string s] W fun e W' => e = .returned (.tuple #[]) ∧
  Bd w0 B op (textF op out big s).1 (textF op out big s).2 W' ∧ Below w0.heap.size W W' ∧ KeptB B W W' := by
 obtain ⟨vo, vr, h1, h2, h3⟩ := id h.ex
 obtain ⟨Ao, co, rfl⟩ := Kd.R_slice h2
 obtain ⟨Ar, cr, rfl⟩ := Kd.R_slice h3
 obtain ⟨c0, c1, c2, cf⟩ := three_facts h1
 have hlay := Lib.hid (fun X (hX : Bd w0 B op out big X) => lay_c w0 B op out big 0 1 ⟨#[]⟩ s (.slice none 0 0) [] X hX (Kd.R_nil _ _ _ _ _) hl ho)
 by_cases hs : s.data.toList = []
 ·have e1 : (s.toList == []) = true := by rw [Lib.toList_data, hs]; rfl
  rw [show textF op out big s = (out, big) from if_pos hs]
  have hsz : s = ⟨#[]⟩ := by
   obtain ⟨d⟩ := s
   simpa using hs
  subst hsz
  go_enter Tryz.func67, Tryz.ntmps67
  go_wp2
  go_end0
  exact ⟨rfl, h, Below.refl _ _, KeptB.refl _ _⟩
 ·have e0 : ¬ s.toList = [] := by rw [Lib.toList_data]; exact hs
  have e1 : (s.toList == []) = false := beq_eq_false_iff_ne.2 e0
  have e2 : ¬ s = ⟨#[]⟩ := fun e => hs (by rw [e])
  unfold textF
  rw [if_neg hs]
  rcases Nat.eq_zero_or_pos out.length with hn | hn
  ·have hj : joinB op out = false := by
    have : out = [] := List.eq_nil_of_length_eq_zero hn
    rw [this]; rfl
   rw [hj, if_neg (by decide)]
   have e3 : decide ((0 : Int) < (out.length : Int)) = false := decide_eq_false (by omega)
   have e4 : decide (0 < out.length) = false := decide_eq_false (by omega)
   generalize layF op out big ⟨0, 1, ⟨#[]⟩, s, []⟩ = res at *
   go_enter Tryz.func67, Tryz.ntmps67
   go_wp2
   refine start_ (n := 32) (S := fun w' => w'.cell? ⟨B, 1, none⟩ = some (.slice Ar out.length cr)) (ds := []) (bits 32 0) (by kernel_rfl) rfl (by kernel_rfl) c1 (fun hHeld => ?_)
   refine sw 0 18 ?_; refine sw 1 19 ?_; refine sw 2 20 ?_; refine su 3 21 ?_; refine su 4 22 ?_; refine su 5 23 ?_; refine su 6 24 ?_; refine su 7 25 ?_; refine su 8 26 ?_; refine su 9 27 ?_; refine su 10 28 ?_; refine su 11 29 ?_; refine su 12 30 ?_; refine sw 13 31 ?_; refine sw 14 32 ?_; refine su 15 33 ?_; refine su 16 34 ?_; refine su 17 35 ?_; refine su 18 36 ?_; refine su 19 37 ?_; refine su 20 38 ?_; refine su 21 39 ?_; refine su 22 40 ?_; refine su 23 41 ?_; refine su 24 42 ?_; refine su 25 43 ?_; refine su 26 44 ?_; refine su 27 45 ?_; refine su 28 46 ?_; refine su 29 47 ?_; refine sw 30 48 ?_; refine sw 31 17 ?_
   refine done_ (by kernel_rfl) ?_
   go_wp2_with (go_at_call 68; ((with_reducible refine (hlay.out _ (h.step (Go.Proofs.YtkcmghlhpbepcaaGreatDoorW.PrintWords.below_drew (Below.refl _ _)))).mono ?_); rintro e W1 ⟨rfl, hB1, hb1, hk1⟩))
   go_end0
   exact ⟨rfl, hB1, (Go.Proofs.YtkcmghlhpbepcaaGreatDoorW.PrintWords.below_drew (Below.refl _ W)).mono h.below.size |>.trans hb1, ((KeptB.refl B W).below (Go.Proofs.YtkcmghlhpbepcaaGreatDoorW.PrintWords.below_drew (Below.refl _ _))).trans hk1⟩
  ·obtain ⟨m, hm⟩ : ∃ m, out.length = m + 1 := ⟨out.length - 1, by omega⟩
   obtain ⟨go, capo, hv, -, hgo, cellsO, hcO⟩ := Kd.R_form h3 hn
   simp only [Value.slice.injEq, true_and] at hv
   obtain ⟨rfl, rfl⟩ := hv
   obtain ⟨cs, hcl, hMo, hcello, hfzo⟩ := Kd.R_elem h3 (⟨0, 0, ⟨#[]⟩, ⟨#[]⟩, []⟩ : Rw) (m : Int) (by omega) (by omega)
   have hgd : out.getD (m : Int).toNat (⟨0, 0, ⟨#[]⟩, ⟨#[]⟩, []⟩ : Rw) = out[m] := by simp [show m < out.length by omega]
   have hrd : rd_T34 out ((out.length : Int) - 1) = out[m] := by
    rw [show (out.length : Int) - 1 = (m : Int) from by omega]
    simp [rd_T34, show m < out.length by omega]
   have hzm := hz out[m] (List.getElem_mem _)
   have hj : joinB op out = (decide (out[m].f1 = 1) && decide (out[m].f0 = op.length)) := by
    unfold joinB
    rw [List.getLast?_eq_getElem?, show out.length - 1 = m from by omega, List.getElem?_eq_getElem (by omega)]
   rw [hgd] at hMo
   rw [hrd, hj, show out.length - 1 = m from by omega]
   generalize out[m] = y at *
   obtain ⟨w4, rfl, hw4⟩ := k34_openM hMo
   have y0 := hcello 0 _ rfl
   have y1 := hcello 1 _ rfl
   have y3 := hcello 3 _ rfl
   have f3 := hfzo 3
   change World.cell? _ ⟨go, m * 5, none⟩ = _ at y0
   change World.cell? _ ⟨go, m * 5 + 1, none⟩ = _ at y1
   change World.cell? _ ⟨go, m * 5 + 3, none⟩ = _ at y3
   change World.frozen? _ ⟨go, m * 5 + 3, none⟩ = _ at f3
   obtain ⟨yd, yk, yn, yt, ya⟩ := y
   simp only at y0 y1 y3 hzm ⊢
   rw [hm] at c1
   have g1 : decide ((0 : Int) < ((m + 1 : Nat) : Int)) = true := decide_eq_true (by omega)
   have g2 : decide (0 < m + 1) = true := decide_eq_true (by omega)
   have i1 : (0 : Int) ≤ (m : Int) := by omega
   have i2 : (m : Int) < (m : Int) + 1 := by omega
   have iw : wrap64 (m : Int) = (m : Int) := by unfold wrap64; omega
   have hbd : Below W.heap.size W W.drew := Go.Proofs.YtkcmghlhpbepcaaGreatDoorW.PrintWords.below_drew (Below.refl _ _)
   have hkd := (KeptB.refl B W).below hbd
   have hbw : Below w0.heap.size W W.drew := hbd.mono h.below.size
   have hstep := h.step hbd
   by_cases k1 : yk = 1
   ·subst k1
    by_cases k2 : yd = op.length
    ·subst k2
     rw [if_pos (by simp)]
     have a1 : decide (yt.size + s.size ≤ 9223372036854775807) = true := decide_eq_true hzm
     have a2 : (9223372036854775807 < yt.size + s.size) = False := eq_false (by omega)
     go_enter Tryz.func67, Tryz.ntmps67
     go_wp2
     refine start_ (n := 32) (S := fun w' => w'.cell? ⟨B, 1, none⟩ = some (.slice (some ⟨go, 0, none⟩) (m + 1) cr) ∧ w'.cell? ⟨B, 0, none⟩ = some (.slice Ao op.length co) ∧ w'.cell? ⟨go, m * 5, none⟩ = some (.int .i64 op.length) ∧ w'.cell? ⟨go, m * 5 + 1, none⟩ = some (.int .i64 1)) (ds := []) (bits 32 0) (by kernel_rfl) rfl (by kernel_rfl) ⟨c1, c0, y0, y1⟩ (fun hHeld => ?_)
     refine sw 0 18 ?_; refine sw 1 19 ?_; refine sw 2 20 ?_; refine sw 3 21 ?_; refine sw 4 22 ?_; refine sw 5 23 ?_; refine st 6 24 ?_; refine sw 7 25 ?_; refine sw 8 26 ?_; refine sw 9 27 ?_; refine sw 10 28 ?_; refine st 11 29 ?_; refine sw 12 30 ?_; refine sw 13 31 ?_; refine sw 14 32 ?_; refine sw 15 33 ?_; refine sw 16 34 ?_; refine sw 17 35 ?_; refine st 18 36 ?_; refine sw 19 37 ?_; refine sw 20 38 ?_; refine sw 21 39 ?_; refine sw 22 40 ?_; refine st 23 41 ?_; refine sw 24 42 ?_; refine sw 25 43 ?_; refine sw 26 44 ?_; refine st 27 45 ?_; refine sw 28 46 ?_; refine sw 29 47 ?_; refine sw 30 48 ?_; refine sw 31 17 ?_
     refine done_ (by kernel_rfl) ?_
     go_wp2
     go_end0
     have hne := blk_ne h1 hcO (by decide)
     have hbase := Kd.R_base h3 go rfl
     have hS := (Kd.R_seg h3 (m : Int) (by omega) (by omega) (c := [.int .i64 op.length, .int .i64 1, .string yn, .string yt, w4]) (seg := [.string (yt ++ s)]) (j := 3) hcl hcello (by show 3 + 1 ≤ 5; omega) (x' := (⟨op.length, 1, yn, yt ++ s, ya⟩ : Rw)) (okp := fun k => True ∧ k ≠ go) (k34_mkM _ _ _ (⟨op.length, 1, yn, yt ++ s, ya⟩ : Rw) hw4) (fun _ h => h)).1
     have hB' : (W.setCell ⟨go, m * 5 + 3, none⟩ (.string (yt ++ s))).heap[B]? = some (.cells #[.slice Ao op.length co, .slice (some ⟨go, 0, none⟩) out.length cr, .bool big] 73 (0, 0)) := (Below.heap_setCell W ⟨go, m * 5 + 3, none⟩ _ B hne).trans h1
     have hd2 : Below (W.setCell ⟨go, m * 5 + 3, none⟩ (.string (yt ++ s))).heap.size (W.setCell ⟨go, m * 5 + 3, none⟩ (.string (yt ++ s))) (W.setCell ⟨go, m * 5 + 3, none⟩ (.string (yt ++ s))).drew := Go.Proofs.YtkcmghlhpbepcaaGreatDoorW.PrintWords.below_drew (Below.refl _ _)
     have hb2 : Below w0.heap.size W (W.setCell ⟨go, m * 5 + 3, none⟩ (.string (yt ++ s))) := (Below.refl _ W).setCell (p := ⟨go, m * 5 + 3, none⟩) hbase _
     have hfin : Bd w0 B op (out.set m ⟨op.length, 1, yn, yt ++ s, ya⟩) big (W.setCell ⟨go, m * 5 + 3, none⟩ (.string (yt ++ s))) := ⟨h.below.trans hb2, h.base, _, _, hB', Kd.R_set h2 hcO (by decide) (m * 5 + 3) _, hS⟩
     have hkk : KeptB B W (W.setCell ⟨go, m * 5 + 3, none⟩ (.string (yt ++ s))) := fun k o q0 q1 q2 q3 => (Below.heap_setCell W ⟨go, m * 5 + 3, none⟩ _ k (fun e => by subst e; exact q3 cellsO (Option.some.inj (q0.symm.trans hcO)))).trans q0
     exact ⟨rfl, hfin.step hd2, hb2.trans (hd2.mono hfin.below.size), hkk.below hd2⟩
    ·have q1 : (yd == (op.length : Int)) = false := beq_eq_false_iff_ne.2 k2
     rw [if_neg (by simp [k2])]
     generalize layF op out big ⟨0, 1, ⟨#[]⟩, s, []⟩ = res at *
     go_enter Tryz.func67, Tryz.ntmps67
     go_wp2
     refine start_ (n := 32) (S := fun w' => w'.cell? ⟨B, 1, none⟩ = some (.slice (some ⟨go, 0, none⟩) (m + 1) cr) ∧ w'.cell? ⟨B, 0, none⟩ = some (.slice Ao op.length co) ∧ w'.cell? ⟨go, m * 5, none⟩ = some (.int .i64 yd) ∧ w'.cell? ⟨go, m * 5 + 1, none⟩ = some (.int .i64 1)) (ds := []) (bits 32 0) (by kernel_rfl) rfl (by kernel_rfl) ⟨c1, c0, y0, y1⟩ (fun hHeld => ?_)
     refine sw 0 18 ?_; refine sw 1 19 ?_; refine sw 2 20 ?_; refine sw 3 21 ?_; refine sw 4 22 ?_; refine sw 5 23 ?_; refine st 6 24 ?_; refine sw 7 25 ?_; refine sw 8 26 ?_; refine sw 9 27 ?_; refine sw 10 28 ?_; refine st 11 29 ?_; refine sw 12 30 ?_; refine sw 13 31 ?_; refine sw 14 32 ?_; refine sw 15 33 ?_; refine sw 16 34 ?_; refine sw 17 35 ?_; refine st 18 36 ?_; refine sw 19 37 ?_; refine sw 20 38 ?_; refine sw 21 39 ?_; refine sw 22 40 ?_; refine st 23 41 ?_; refine sw 24 42 ?_; refine sw 25 43 ?_; refine sw 26 44 ?_; refine st 27 45 ?_; refine sw 28 46 ?_; refine sw 29 47 ?_; refine sw 30 48 ?_; refine sw 31 17 ?_
     refine done_ (by kernel_rfl) ?_
     go_wp2_with (go_at_call 68; ((with_reducible refine (hlay.out _ hstep).mono ?_); rintro e W1 ⟨rfl, hB1, hb1, hk3⟩))
     go_end0
     exact ⟨rfl, hB1, hbw.trans hb1, hkd.trans hk3⟩
   ·have q1 : (yk == 1) = false := beq_eq_false_iff_ne.2 k1
    rw [if_neg (by simp [k1])]
    generalize layF op out big ⟨0, 1, ⟨#[]⟩, s, []⟩ = res at *
    go_enter Tryz.func67, Tryz.ntmps67
    go_wp2
    refine start_ (n := 32) (S := fun w' => w'.cell? ⟨B, 1, none⟩ = some (.slice (some ⟨go, 0, none⟩) (m + 1) cr) ∧ w'.cell? ⟨B, 0, none⟩ = some (.slice Ao op.length co) ∧ w'.cell? ⟨go, m * 5, none⟩ = some (.int .i64 yd) ∧ w'.cell? ⟨go, m * 5 + 1, none⟩ = some (.int .i64 yk)) (ds := []) (bits 32 0) (by kernel_rfl) rfl (by kernel_rfl) ⟨c1, c0, y0, y1⟩ (fun hHeld => ?_)
    refine sw 0 18 ?_; refine sw 1 19 ?_; refine sw 2 20 ?_; refine sw 3 21 ?_; refine sw 4 22 ?_; refine sw 5 23 ?_; refine st 6 24 ?_; refine sw 7 25 ?_; refine sw 8 26 ?_; refine sw 9 27 ?_; refine sw 10 28 ?_; refine st 11 29 ?_; refine sw 12 30 ?_; refine sw 13 31 ?_; refine sw 14 32 ?_; refine su 15 33 ?_; refine su 16 34 ?_; refine su 17 35 ?_; refine su 18 36 ?_; refine su 19 37 ?_; refine su 20 38 ?_; refine su 21 39 ?_; refine su 22 40 ?_; refine su 23 41 ?_; refine su 24 42 ?_; refine su 25 43 ?_; refine su 26 44 ?_; refine su 27 45 ?_; refine su 28 46 ?_; refine su 29 47 ?_; refine sw 30 48 ?_; refine sw 31 17 ?_
    refine done_ (by kernel_rfl) ?_
    go_wp2_with (go_at_call 68; ((with_reducible refine (hlay.out _ hstep).mono ?_); rintro e W1 ⟨rfl, hB1, hb1, hk3⟩))
    go_end0
    exact ⟨rfl, hB1, hbw.trans hb1, hkd.trans hk3⟩
end Go.Proofs.YtkcmghlhpbepcaaGreatDoorH.W7

/- Contract of build.once: attributes, of one name the first one. -/
namespace Go.Proofs.YtkcmghlhpbepcaaGreatDoorH.W7
open Go.RowKit Go.Proofs Go.Proofs.YtkcmghlhpbepcaaGreatDoor Go.Proofs.YtkcmghlhpbepcaaGreatDoorW.PrintWords
abbrev At := S36
theorem att_at {w : World} {A : Option Addr} {xs : List At} (h : k36.C w A xs.length xs) (i : Nat) (hi : i < xs.length) :
 ∃ g o, A = some ⟨g, o, none⟩ ∧ w.cell? ⟨g, o + i * 2, none⟩ = some (.string xs[i].f0) ∧ w.cell? ⟨g, o + i * 2 + 1, none⟩ = some (.string xs[i].f1) := by
 obtain ⟨ad0, e0, z0, _⟩ := at_T36 h 0 (by omega) (by omega)
 have hs := spot_of (a := ad0) (by simpa [Addr.add] using z0)
 obtain ⟨ad, e, c0, c1⟩ := at_T36 h i (by omega) (by omega)
 obtain rfl : ad0 = ad := Option.some.inj (e0.symm.trans e)
 simp only [Int.toNat_natCast] at c0 c1
 rw [hs, addr_at] at c0 c1
 have er : rd_T36 xs i = xs[i] := by simp [rd_T36, hi]
 rw [er] at c0 c1
 exact ⟨ad0.block, ad0.off, by rw [e0, ← hs], c0, c1⟩
def fO (p : Nat) : Value := .func (.func 151) #[] #[.pointer (some ⟨p, 0, none⟩)]
set_option maxHeartbeats 1000000 in
set_option maxRecDepth 100000 in
theorem once1_c (an av bn bv : ByteArray) (p : Nat) (w : World) (h : w.heap[p]? = some (.cells #[.string an, .string av] 36 (0, 0))) :
 Calls Tryz.prog 151 #[.agg #[.string bn, .string bv], .pointer (some ⟨p, 0, none⟩)] w fun e w' => e = .returned (.bool (an.toList == bn.toList)) ∧ Below w.heap.size w w' := by
 have c0 : w.cell? ⟨p, 0, none⟩ = some (.string an) := (blk_cell h 0).trans rfl
 have d0 := fun o => cell_keep c0 ((Below.refl _ w).alloc (Nat.le_refl _) o)
 obtain ⟨n0, n1, -⟩ := two_facts (new_cells w #[.string bn, .string bv] 36)
 go_enter Tryz.func151, Tryz.ntmps151
 go_wp2
 go_ret
 exact ⟨rfl, (Below.refl _ w).alloc (Nat.le_refl _) _⟩
def eqN (a b : At) : Bool := a.f0.toList == b.f0.toList
def hasN (out : List At) (a : At) : Bool := out.any (eqN a)
set_option maxHeartbeats 1000000 in
set_option maxRecDepth 100000 in
theorem idx_once (xs : List At) (a : At) (A : Option Addr) (c p : Nat) (w : World) (hr : k36.C w A xs.length xs) (hp : w.heap[p]? = some (.cells #[.string a.f0, .string a.f1] 36 (0, 0))) (b : Bool) (hb : hasN xs a = b) :
 Calls Tryz.prog 186 #[.slice A xs.length c, fO p] w fun e w' => ∃ n : Int, e = .returned (.int .i64 n) ∧ (decide (0 ≤ n) = b) ∧ Below w.heap.size w w' := by
 have hxl := hr.2.1
 unfold fO
 unfold hasN at hb
 go_enter Tryz.func186, Tryz.ntmps186
 go_wp2
 go_loopw [5, 8] (fun _ v wr => ∃ (k : Nat), v = .int .i64 k ∧ k ≤ xs.length ∧ Hid (∀ j (h : j < xs.length), j < k → eqN a xs[j] = false) ∧ Below w.heap.size w wr) (fun _ v _ => xs.length - (intOf v).toNat)
 case atStart => exact ⟨0, rfl, by omega, fun j _ h => by omega, Below.refl _ _⟩
 case round =>
  obtain ⟨k, rfl, hk, hno, hB⟩ := hrel
  by_cases hlt : k < xs.length
  ·obtain ⟨g, o, rfl, z0, z1⟩ := att_at (Go.Proofs.YtkcmghlhpbepcaaGreatDoorW.PrintWords.Kd.C_below hr hB) k hlt
   have hyes : Hid (eqN a xs[k] = true → b = true) := fun h => by rw [← hb, List.any_eq_true]; exact ⟨_, List.getElem_mem hlt, h⟩
   have hno2 : Hid (eqN a xs[k] = false → ∀ j (h : j < xs.length), j < k + 1 → eqN a xs[j] = false) := fun h j hj hjk => by
    by_cases e : j = k
    ·subst e; exact h
    ·exact hno.out j hj (by omega)
   have hc1 := Lib.hid (fun (W : World) (hW : Below w.heap.size w W) => once1_c a.f0 a.f1 xs[k].f0 xs[k].f1 p W (heap_below hp hW))
   have hdef : Hid (eqN a xs[k] = (a.f0.toList == xs[k].f0.toList)) := rfl
   generalize eqN a xs[k] = dk at *
   generalize xs[k] = x at *
   rw [← hdef.out] at hc1
   obtain ⟨nm, vl⟩ := x
   simp only at z0 z1
   clear hno hb hdef
   cases dk with
   | true =>
     have hbt := hyes.out rfl
     clear hyes hno2
     subst hbt
     go_wp2_with (go_at_call 151; ((with_reducible refine (hc1.out _ hB).mono ?_); rintro e w1 ⟨rfl, hb1⟩))
     go_ret
     exact ⟨_, rfl, decide_eq_true (by omega), hB.trans (hb1.mono hB.size)⟩
   | false =>
     have hno3 : Hid _ := hno2.out rfl
     clear hyes hno2
     go_wp2_with (go_at_call 151; ((with_reducible refine (hc1.out _ hB).mono ?_); rintro e w1 ⟨rfl, hb1⟩))
     exact ⟨⟨k + 1, rfl, by omega, hno3, hB.trans (hb1.mono hB.size)⟩, by simp [intOf]; omega⟩
  ·have hbf : b = false := by
    rw [← hb, List.any_eq_false]
    intro x hx
    obtain ⟨j, hj, rfl⟩ := List.getElem_of_mem hx
    rw [hno.out j hj (by omega)]
    simp
   subst hbf
   clear hno hb
   go_wp2
   go_ret
   exact ⟨-1, rfl, by decide, hB⟩
set_option maxHeartbeats 1000000 in
set_option maxRecDepth 100000 in
theorem contains_once (xs : List At) (a : At) (A : Option Addr) (c p : Nat) (w : World) (hr : k36.C w A xs.length xs) (hp : w.heap[p]? = some (.cells #[.string a.f0, .string a.f1] 36 (0, 0))) :
 Calls Tryz.prog 150 #[.slice A xs.length c, .func (.func 151) #[] #[.pointer (some ⟨p, 0, none⟩)]] w fun e w' => e = .returned (.bool (hasN xs a)) ∧ Below w.heap.size w w' := by
 have hi := Lib.hid (idx_once xs a A c p w hr hp (hasN xs a) rfl)
 unfold fO at hi
 generalize hasN xs a = b at *
 go_enter Tryz.func150, Tryz.ntmps150
 go_wp2_with (go_at_call 186; ((with_reducible refine hi.out.mono ?_); rintro e w1 ⟨n, rfl, hn, hb1⟩))
 go_ret
 exact ⟨rfl, hb1⟩
def onceG : List At → List At → List At
 | out, [] => out
 | out, a :: r => onceG (if hasN out a then out else out ++ [a]) r
def onceA (l : List At) : List At := onceG [] l
set_option maxHeartbeats 2000000 in
set_option maxRecDepth 100000 in
theorem once_c (A : Option Addr) (c : Nat) (l : List At) (w : World) (hr : k36.C w A l.length l) (hl : l.length ≤ 1000000) :
 Calls Tryz.prog 113 #[.slice A l.length c] w fun e w' => ∃ v, e = .returned v ∧ k36.R 36 w' w.heap.size (fun _ => True) v (onceA l) ∧ Below w.heap.size w w' := by
 have hxl := hr.2.1
 go_enter Tryz.func113, Tryz.ntmps113
 go_wp2
 go_loopw [3, 8] (fun vo vi wr => ∃ (i : Nat) (outs : List At), vi = .int .i64 i ∧ i ≤ l.length ∧ Hid (onceG outs (l.drop i) = onceA l) ∧ k36.R 36 wr w.heap.size (fun _ => True) vo outs ∧ outs.length ≤ i ∧ Below w.heap.size w wr) (fun _ vi _ => l.length - (intOf vi).toNat)
 case atStart => exact ⟨0, [], rfl, Nat.zero_le _, rfl, Kd.R_nil _ _ _ _ _, Nat.le_refl _, Below.refl _ _⟩
 case round =>
  obtain ⟨i, outs, rfl, hi, hq, hO, hol, hB⟩ := hrel
  obtain ⟨A2, c2, rfl⟩ := Kd.R_slice hO
  by_cases hlt : i < l.length
  ·obtain ⟨g, o, rfl, z0, z1⟩ := att_at (Kd.C_below hr hB) i hlt
   have hq2 := hq.out
   rw [List.drop_eq_getElem_cons hlt] at hq2
   simp only [onceG] at hq2
   clear hq
   generalize l[i] = a at *
   have hn := new_cells wr #[.string a.f0, .string a.f1] 36
   obtain ⟨n0, n1, -⟩ := two_facts hn
   have hbA : Below wr.heap.size wr (wr.alloc (.cells #[.string a.f0, .string a.f1] 36)) := (Below.refl _ wr).alloc (Nat.le_refl _) _
   have hOA := Kd.R_below hO hbA
   have hBA := hB.trans (hbA.mono hB.size)
   have hct := Lib.hid (contains_once outs a A2 c2 wr.heap.size _ (Kd.R_reads' hOA).2.2 hn)
   generalize hw1 : wr.alloc (.cells #[.string a.f0, .string a.f1] 36) = W1 at *
   cases hh : hasN outs a with
   | true =>
     rw [hh] at hct hq2
     rw [if_pos rfl] at hq2
     replace hq2 := Lib.hid hq2
     clear hh
     go_wp2_with (go_at_call 150; ((with_reducible refine hct.out.mono ?_); rintro e W2 ⟨rfl, hb2⟩))
     exact ⟨⟨i + 1, outs, rfl, by omega, hq2, Kd.R_below hOA hb2, by omega, hBA.trans (hb2.mono hBA.size)⟩, by simp [intOf]; omega⟩
   | false =>
     rw [hh] at hct hq2
     rw [if_neg (by decide)] at hq2
     replace hq2 := Lib.hid hq2
     clear hh
     go_wp2_with (first
      | (go_at_call 150; ((with_reducible refine hct.out.mono ?_); rintro e W2 ⟨rfl, hb2⟩; have m0 := cell_keep n0 hb2; have m1 := cell_keep n1 hb2; have hO2 := Kd.R_below hOA hb2; have hB2 := hBA.trans (hb2.mono hBA.size)))
      | (at_builtin; refine Kd.R_append k36 (w0 := w) w.heap.size rfl (.tmp 16) (.tmp 18) 32 36 (.agg #[(.string ⟨#[]⟩), (.string ⟨#[]⟩)]) 32 rfl Tryz.underlying32 info36 rfl (by decide) (by omega) (.slice A2 outs.length c2) outs a [.string a.f0, .string a.f1] (fun _ => True) (fun _ => False) rfl rfl (k36_mkM _ _ _ a) (fun _ h => h.elim) (fun _ _ => trivial) hO2 hB2 hB2.size (by omega) ?_; intro v1 w3 hO3 hb3 hg3 hat3; obtain ⟨A3, c3, rfl⟩ := Kd.R_slice hO3; rw [List.length_append, List.length_singleton] at hO3))
     exact ⟨⟨i + 1, outs ++ [a], rfl, by omega, hq2, hO3, by simp; omega, hb3⟩, by simp [intOf]; omega⟩
  ·have hq2 := hq.out
   rw [List.drop_of_length_le (by omega)] at hq2
   simp only [onceG] at hq2
   subst hq2
   clear hq
   go_wp2
   go_ret
   exact ⟨_, rfl, hO, hB⟩
end Go.Proofs.YtkcmghlhpbepcaaGreatDoorH.W7

/- Words and walks used below. -/
namespace Go.Proofs.YtkcmghlhpbepcaaGreatDoorH.W7
open Go.RowKit Go.Proofs.YtkcmghlhpbepcaaGreatDoorW.PrintWords Go.Proofs.YtkcmghlhpbepcaaGreatDoorW.PrintLast Go.Proofs.YtkcmghlhpbepcaaGreatDoorW.PrintMore
attribute [local go_sem] max2_int min2_int max_two min_two max_three min_three max_four min_four   -- for this text's walks alone
def names_among.l0 : Nat → ByteArray → List ByteArray → Int → Int → Option (Bool)
 | 0, _, _, _, _ => none
 | k + 1, x0, x7, x8, x9 => if x9 < x8 then (if 0 ≤ x9 then (if x9 < (x7.length : Int) then (if (rdOf ByteArray.empty x7 x9).toList = x0.toList then (some true) else (names_among.l0 k x0 x7 x8 (wrap64 (x9 + 1)))) else (none)) else (none)) else (some false)
def names_among.f (k : Nat) (a0 : ByteArray) (l1 : List ByteArray) : Option (Bool) := names_among.l0 k a0 l1 (l1.length : Int) 0
theorem names_among.mono_l : ∀ k, (∀ y0 y1 y2 y3, LeO (names_among.l0 k y0 y1 y2 y3) (names_among.l0 (k + 1) y0 y1 y2 y3))
 | 0 => fun _ _ _ _ r h => by simp [names_among.l0] at h
 | k + 1 => by
   have ih0 := names_among.mono_l k
   ·intro y0 y1 y2 y3
    unfold names_among.l0
    repeat' first
    | (with_reducible exact ih0 _ _ _ _)
    | (with_reducible exact LeO.refl _)
    | (with_reducible exact LeO.none _)
    | (with_reducible refine LeO.ite ?_ ?_)
    | (with_reducible refine LeO.bind ?_ (fun _ => ?_))
    | exact ih0 _ _ _ _
    | exact LeO.none _
    | refine LeO.ite ?_ ?_
    | refine LeO.bind ?_ (fun _ => ?_)
theorem names_among.mono : ∀ a0 a1 k, LeO (names_among.f k a0 a1) (names_among.f (k + 1) a0 a1) := by
 intro a0 a1 k
 have ih0 := names_among.mono_l k
 unfold names_among.f
 repeat' first
  | (with_reducible exact ih0 _ _ _ _)
  | (with_reducible exact LeO.refl _)
  | (with_reducible exact LeO.none _)
  | (with_reducible refine LeO.ite ?_ ?_)
  | (with_reducible refine LeO.bind ?_ (fun _ => ?_))
  | exact ih0 _ _ _ _
  | exact LeO.none _
  | refine LeO.ite ?_ ?_
  | refine LeO.bind ?_ (fun _ => ?_)
set_option maxHeartbeats 8000000 in
set_option maxRecDepth 100000 in
theorem names_among.calls (k : Nat) (a0 : ByteArray) (A1 : Option Addr) (c1 : Nat) (l1 : List ByteArray) (r : Bool) (w : World) (hr1 : Kd.C Kd.string w A1 l1.length l1) (hc1 : l1.length ≤ c1) (h : names_among.f k a0 l1 = some r) :
 Calls Tryz.prog 81 #[.string a0, .slice A1 l1.length c1] w fun e w' => e = .returned (.bool r) ∧ Drawn0 w w' := by
 have HR1 := Aside0.mk hr1
 have HC1 := Aside0.mk hc1
 clear hr1 hc1
 have H : (names_among.l0 k a0 l1 (l1.length : Int) 0) = some r := h
 clear h
 have H' := Aside0.mk H
 clear H
 go_enter Tryz.func81, Tryz.ntmps81
 go_wp2
 go_loopg [9] k (fun kq v9 w' => ∃ (x9_1 : Int), v9 = .int .i64 x9_1 ∧ Aside0 (names_among.l0 kq a0 l1 (l1.length : Int) x9_1 = some r) ∧ Aside0 (kq ≤ k) ∧ Drawn0 w w')
 case atStart => exact ⟨(0), (by first | rfl | (simp; done) | (simp [*]; done) | (simp; generalize ByteArray.toList _ = l_; cases l_ <;> rfl)), H', ⟨Nat.le_refl _⟩, by repeat (first | exact Drawn0.refl _ | apply Drawn0.step)⟩
 case round =>
  clear H'
  try clear c1
  try clear p2
  obtain ⟨x9_1, rfl, HA, HK1, ⟨m1, rfl⟩⟩ := hrel
  cases gk with
  | zero => exact absurd HA.out (by simp [names_among.l0])
  | succ k1 =>
    have H := HA.out
    clear HA
    simp only [names_among.l0] at H
    by_cases c3 : x9_1 < (l1.length : Int)
    ·rw [if_pos c3] at H
     have c3b0 : decide (x9_1 < (l1.length : Int)) = true := decide_eq_true c3
     clear c3
     by_cases c4 : 0 ≤ x9_1
     ·rw [if_pos c4] at H
      have c4b0 : decide (0 ≤ x9_1) = true := decide_eq_true c4
      clear c4
      by_cases c5 : x9_1 < (l1.length : Int)
      ·rw [if_pos c5] at H
       have c5b0 : decide (x9_1 < (l1.length : Int)) = true := decide_eq_true c5
       clear c5
       by_cases c6 : (rdOf ByteArray.empty l1 x9_1).toList = a0.toList
       ·rw [if_pos c6] at H
        have c6b0 : ((rdOf ByteArray.empty l1 x9_1).toList == a0.toList) = true := beq_iff_eq.mpr c6
        have c6b1 : ((rdOf ByteArray.empty l1 x9_1).toList != a0.toList) = false := bne_eq_false_iff_eq.mpr c6
        clear c6
        obtain rfl := Option.some.inj H
        have p121 : 0 ≤ (x9_1 : Int) := (by first | exact of_decide_eq_true (by first | (with_reducible assumption) | assumption) | assumption | omega)
        have q121 : x9_1 < (l1.length : Int) := (by first | exact of_decide_eq_true (by first | (with_reducible assumption) | assumption) | assumption | omega)
        obtain ⟨ad121, e121, hx121_0⟩ := Kd.at_string HR1.out x9_1 p121 q121
        cases e121
        replace p121 := eq_true p121
        replace q121 := eq_true q121
        go_wp2
        go_ret
        exact ⟨by first | rfl | (simp; done) | (simp [*]; done) | (simp; generalize ByteArray.toList _ = l_; cases l_ <;> rfl), by repeat (first | exact Drawn0.refl _ | apply Drawn0.step)⟩
       ·rw [if_neg c6] at H
        have c6b0 : ((rdOf ByteArray.empty l1 x9_1).toList == a0.toList) = false := beq_eq_false_iff_ne.mpr c6
        have c6b1 : ((rdOf ByteArray.empty l1 x9_1).toList != a0.toList) = true := bne_iff_ne.mpr c6
        have H' := Aside0.mk H
        clear H
        have p121 : 0 ≤ (x9_1 : Int) := (by first | exact of_decide_eq_true (by first | (with_reducible assumption) | assumption) | assumption | omega)
        have q121 : x9_1 < (l1.length : Int) := (by first | exact of_decide_eq_true (by first | (with_reducible assumption) | assumption) | assumption | omega)
        obtain ⟨ad121, e121, hx121_0⟩ := Kd.at_string HR1.out x9_1 p121 q121
        cases e121
        replace p121 := eq_true p121
        replace q121 := eq_true q121
        go_wp2
        go_roundg k1
        case measure => have := HK1.out; omega
        case rel => exact ⟨(wrap64 (x9_1 + 1)), (by first | rfl | (simp; done) | (simp [*]; done) | (simp; generalize ByteArray.toList _ = l_; cases l_ <;> rfl)), H', ⟨by have := HK1.out; omega⟩, by repeat (first | exact Drawn0.refl _ | apply Drawn0.step)⟩
      ·rw [if_neg c5] at H
       exact absurd H (by simp)
     ·rw [if_neg c4] at H
      exact absurd H (by simp)
    ·rw [if_neg c3] at H
     have c3b0 : decide (x9_1 < (l1.length : Int)) = false := decide_eq_false c3
     clear c3
     obtain rfl := Option.some.inj H
     go_wp2
     go_ret
     exact ⟨by first | rfl | (simp; done) | (simp [*]; done) | (simp; generalize ByteArray.toList _ = l_; cases l_ <;> rfl), by repeat (first | exact Drawn0.refl _ | apply Drawn0.step)⟩
end Go.Proofs.YtkcmghlhpbepcaaGreatDoorH.W7

/- Words and walks used below. -/
namespace Go.Proofs.YtkcmghlhpbepcaaGreatDoorH.W7
open Go.RowKit Go.Proofs.YtkcmghlhpbepcaaGreatDoorW.PrintWords Go.Proofs.YtkcmghlhpbepcaaGreatDoorW.PrintLast Go.Proofs.YtkcmghlhpbepcaaGreatDoorW.PrintMore
attribute [local go_sem] max2_int min2_int max_two min_two max_three min_three max_four min_four   -- for this text's walks alone
def names_table.f (k : Nat) (a0 : ByteArray) : Option (Bool) := (names_among.f k a0 (([(⟨#[116, 114]⟩ : ByteArray), (⟨#[116, 100]⟩ : ByteArray), (⟨#[116, 104]⟩ : ByteArray), (⟨#[116, 98, 111, 100, 121]⟩ : ByteArray), (⟨#[116, 102, 111, 111, 116]⟩ : ByteArray), (⟨#[116, 104, 101, 97, 100]⟩ : ByteArray)] : List ByteArray))).bind fun t129 => (some t129)
theorem names_table.mono : ∀ a0 k, LeO (names_table.f k a0) (names_table.f (k + 1) a0) := by
 intro a0 k
 unfold names_table.f
 repeat' first
  | (with_reducible exact names_among.mono _ _ _)
  | (with_reducible exact LeO.refl _)
  | (with_reducible exact LeO.none _)
  | (with_reducible refine LeO.ite ?_ ?_)
  | (with_reducible refine LeO.bind ?_ (fun _ => ?_))
  | exact names_among.mono _ _ _
  | exact LeO.none _
  | refine LeO.ite ?_ ?_
  | refine LeO.bind ?_ (fun _ => ?_)
set_option maxHeartbeats 8000000 in
set_option maxRecDepth 100000 in
theorem names_table.calls (k : Nat) (a0 : ByteArray) (r : Bool) (w : World) (h : names_table.f k a0 = some r) :
 Calls Tryz.prog 82 #[.string a0] w fun e w' => e = .returned (.bool r) ∧ Below w.heap.size w w' := by
 have HB := Aside0.mk (Below.refl w.heap.size w)
 have H : ((names_among.f k a0 (([(⟨#[116, 114]⟩ : ByteArray), (⟨#[116, 100]⟩ : ByteArray), (⟨#[116, 104]⟩ : ByteArray), (⟨#[116, 98, 111, 100, 121]⟩ : ByteArray), (⟨#[116, 102, 111, 111, 116]⟩ : ByteArray), (⟨#[116, 104, 101, 97, 100]⟩ : ByteArray)] : List ByteArray))).bind fun t129 => (some t129)) = some r := h
 clear h
 obtain ⟨y126, hy126⟩ : ∃ y_ : List ByteArray, y_ = (([(⟨#[116, 114]⟩ : ByteArray), (⟨#[116, 100]⟩ : ByteArray), (⟨#[116, 104]⟩ : ByteArray), (⟨#[116, 98, 111, 100, 121]⟩ : ByteArray), (⟨#[116, 102, 111, 111, 116]⟩ : ByteArray), (⟨#[116, 104, 101, 97, 100]⟩ : ByteArray)] : List ByteArray)) := ⟨_, rfl⟩
 replace H : ((names_among.f k a0 y126).bind fun t129 => (some t129)) = some r := by first | (rw [hy126]; with_reducible exact H) | (have H2_ := (Option.bind_some _ _).symm.trans H; rw [hy126]; with_reducible exact H2_) | (have H2_ := (Option.bind_some _ _).symm.trans H; with_reducible exact H2_) | with_reducible exact H | (rw [hy126]; exact H) | exact H
 have Ny126 := Aside0.mk hy126
 clear hy126
 replace H := Option.bind_eq_some_iff.mp H
 obtain ⟨t129, A20, H⟩ := H
 replace H : (some t129) = some r := H
 have A2 := Aside0.mk A20
 clear A20
 obtain rfl := Option.some.inj H
 go_enter Tryz.func82, Tryz.ntmps82
 go_wp2_with (first | ((with_reducible refine gate_dst (N := 4) rfl ?_); refine Kd.R_lit Kd.string _ 9 ?hg (N := 4) ?hd (xs := ([(⟨#[116, 114]⟩ : ByteArray), (⟨#[116, 100]⟩ : ByteArray), (⟨#[116, 104]⟩ : ByteArray), (⟨#[116, 98, 111, 100, 121]⟩ : ByteArray), (⟨#[116, 102, 111, 111, 116]⟩ : ByteArray), (⟨#[116, 104, 101, 97, 100]⟩ : ByteArray)] : List ByteArray)) (inner := [.string (⟨#[116, 114]⟩ : ByteArray), .string (⟨#[116, 100]⟩ : ByteArray), .string (⟨#[116, 104]⟩ : ByteArray), .string (⟨#[116, 98, 111, 100, 121]⟩ : ByteArray), .string (⟨#[116, 102, 111, 111, 116]⟩ : ByteArray), .string (⟨#[116, 104, 101, 97, 100]⟩ : ByteArray)]) (ok := fun _ => True) (okp := fun _ => True) ?hr ?hp (fun _ hk => hk) trivial (Below.refl _ _) (Nat.le_refl _) (by simp) ?_; (case hd => rfl); (case hg => rfl); (case hr => first | (go_simp; done) | (go_simp; rfl)); (case hp => exact (Reps.one (show Kd.M Kd.string _ _ _ (⟨#[116, 114]⟩ : ByteArray) [.string (⟨#[116, 114]⟩ : ByteArray)] from rfl) (Reps.one (show Kd.M Kd.string _ _ _ (⟨#[116, 100]⟩ : ByteArray) [.string (⟨#[116, 100]⟩ : ByteArray)] from rfl) (Reps.one (show Kd.M Kd.string _ _ _ (⟨#[116, 104]⟩ : ByteArray) [.string (⟨#[116, 104]⟩ : ByteArray)] from rfl) (Reps.one (show Kd.M Kd.string _ _ _ (⟨#[116, 98, 111, 100, 121]⟩ : ByteArray) [.string (⟨#[116, 98, 111, 100, 121]⟩ : ByteArray)] from rfl) (Reps.one (show Kd.M Kd.string _ _ _ (⟨#[116, 102, 111, 111, 116]⟩ : ByteArray) [.string (⟨#[116, 102, 111, 111, 116]⟩ : ByteArray)] from rfl) (Reps.one (show Kd.M Kd.string _ _ _ (⟨#[116, 104, 101, 97, 100]⟩ : ByteArray) [.string (⟨#[116, 104, 101, 97, 100]⟩ : ByteArray)] from rfl) (Reps.none _ _)))))))); intro v127 w3 ho4 hb hg_ hnew_; clear hg_ hnew_; (first | rw [← Ny126.out] at ho4 | (simp only [Int.reduceToNat] at ho4; rw [← Ny126.out] at ho4)); have n0_ := Aside0.mk (Kd.R_lower ho4 (below_size bz)); have n1_ := Aside0.mk (below_step bz hb); clear HB; have HO128 := n0_; have HB := n1_; clear n0_ n1_; clear hb ho4; obtain ⟨Ao5, co5, eo5⟩ := Kd.R_slice HO128.out; subst eo5) | ((with_reducible refine gate_callee (f := 81) rfl ?_); refine goesL_ (some 5) rfl rfl Tryz.func81 (by kernel_rfl) rfl #[.string a0, .slice Ao5 y126.length co5] rfl (by (try simp only [List.map_toArray, List.map_cons, List.map_nil]); first | done | rfl | (simp only [List.length_drop, List.length_take]; rfl)) ?_; (with_reducible refine (names_among.calls k a0 _ _ y126 t129 _ ?side1 ?side2 A2.out).mono ?_); (case side1 => exact cz (Kd.R_reads' HO128.out).2.2); (case side2 => exact (Kd.R_reads' HO128.out).2.1); rintro e w' ⟨rfl, ⟨nd, rfl⟩⟩; refine ⟨_, rfl, ?_⟩))
 go_ret
 exact ⟨by first | rfl | (simp [errW_none, errW_some] <;> rfl) | (simp [*, errW_none, errW_some] <;> rfl), bz⟩
end Go.Proofs.YtkcmghlhpbepcaaGreatDoorH.W7
