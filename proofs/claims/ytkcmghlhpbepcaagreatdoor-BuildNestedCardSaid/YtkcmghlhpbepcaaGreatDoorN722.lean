/- Lemmas and walks, part 22: QKTokN, QE7T, QKOwnN, QNames, QScanA, QScanB. -/
import Derived.Test.YtkcmghlhpbepcaaGreatDoorN73
import Derived.Test.YtkcmghlhpbepcaaGreatDoorN77
import Derived.Test.YtkcmghlhpbepcaaGreatDoorN719
import Derived.Test.YtkcmghlhpbepcaaGreatDoorN720
import Derived.Test.YtkcmghlhpbepcaaGreatDoorN721
import Derived.Test.YtkcmghlhpbepcaaGreatDoorN75
import Derived.Test.YtkcmghlhpbepcaaGreatDoorN76
import Derived.Test.YtkcmghlhpbepcaaGreatDoorN79
import Derived.Deep.RegionLaw
import Derived.RegionTactic
set_option linter.unusedVariables false
set_option linter.unusedSimpArgs false

/- Rows of tokens and of attributes in the words of the printed walks, and in our own. -/
namespace Go.Proofs.YtkcmghlhpbepcaaGreatDoorH.W7
open Go.RowKit Go.Proofs Go.Proofs.YtkcmghlhpbepcaaGreatDoor Go.Proofs.YtkcmghlhpbepcaaGreatDoorW.PrintWords
def pairS (a : S36) : Txt × Txt := (a.f0.data.toList, a.f1.data.toList)
def tokS (x : S65) : Tok := ⟨x.f0, x.f1.data.toList, x.f3.map pairS, x.f2.data.toList, x.f4⟩
def pairT (a : Txt × Txt) : S36 := ⟨⟨a.1.toArray⟩, ⟨a.2.toArray⟩⟩
def tokT (x : Tok) : S65 := ⟨x.kind, ⟨x.name.toArray⟩, ⟨x.data.toArray⟩, x.attrs.map pairT, x.self⟩
theorem pairS_T (a : Txt × Txt) : pairS (pairT a) = a := rfl
theorem pairsS_T (l : List (Txt × Txt)) : (l.map pairT).map pairS = l := by
 induction l with
 | nil => rfl
 | cons a l ih => simp only [List.map_cons, pairS_T, ih]
end Go.Proofs.YtkcmghlhpbepcaaGreatDoorH.W7

/- Contract of build.Tree: token by token. -/
namespace Go.Proofs.YtkcmghlhpbepcaaGreatDoorH.W7
open Go.RowKit Go.Proofs Go.Proofs.YtkcmghlhpbepcaaGreatDoor Go.Proofs.YtkcmghlhpbepcaaGreatDoorW.PrintWords
abbrev Tk := S65
def nmB (s : ByteArray) : Bool := (names_Closes.f 200 s).isSome && (names_Walls.f 200 s).isSome && (names_Gone.f 200 s).isSome && (names_Void.f 200 s).isSome && (build_paragraph.f s).isSome
theorem some_get {α : Type} {o : Option α} (d : α) (h : o.isSome = true) : o = some (o.getD d) := by cases o <;> simp at h ⊢
theorem nmB_ok {s : ByteArray} (h : nmB s = true) : NmOk s := by
 unfold nmB at h
 simp only [Bool.and_eq_true] at h
 obtain ⟨⟨⟨⟨h1, h2⟩, h3⟩, h4⟩, h5⟩ := h
 exact ⟨some_get [] h1, some_get [] h2, some_get false h3, some_get false h4, some_get false h5⟩
def szB (out : List Rw) (s : ByteArray) : Bool := out.all fun x => decide (x.f3.size + s.size ≤ 9223372036854775807)
def stepF (op : List ByteArray) (out : List Rw) (t : Tk) : List ByteArray × List Rw × Bool :=
 if t.f0 = 0 then (op, textF op out false t.f2) else if t.f0 = 3 then (op, layF op out false ⟨0, 2, ⟨#[]⟩, t.f2, []⟩)
 else if t.f0 = 1 then startF op out false t.f1 t.f3 else if t.f0 = 2 then endF op out false t.f1 else (op, out, false)
def okT (out : List Rw) (t : Tk) : Bool :=
 if t.f0 = 0 then szB out t.f2 else if t.f0 = 1 then nmB t.f1 && decide (t.f3.length ≤ 1000000) else if t.f0 = 2 then nmB t.f1 else true
def treeG : List Tk → List ByteArray → List Rw → Option (List Rw × Int)
 | [], _, out => (rows_Normal.f out).bind fun n => some (n, 0)
 | t :: r, op, out => if okT out t then (if (stepF op out t).2.2 then some ([], 2) else treeG r (stepF op out t).1 (stepF op out t).2.1) else none
def build_Tree.f (l : List Tk) : Option (List Rw × Int) := if nmB pN && nmB tbN && nmB trN then treeG l [] [] else none
theorem lay_small (op : List ByteArray) (out : List Rw) (x : Rw) (h : (layF op out false x).2 = false) : (layF op out false x).1.length ≤ 4096 ∧ op.length < 60 := by
 unfold layF at h ⊢
 split at h
 ·cases h
 ·rename_i g
  rw [if_neg g]
  simp
  omega
theorem step_small (op : List ByteArray) (out : List Rw) (t : Tk) (ho : out.length ≤ 4096) (hp : op.length ≤ 60) (h : (stepF op out t).2.2 = false) : (stepF op out t).2.1.length ≤ 4096 ∧ (stepF op out t).1.length ≤ 60 := by
 unfold stepF at h ⊢
 split
 ·rename_i g
  rw [if_pos g] at h
  unfold textF at h ⊢
  split
  ·exact ⟨ho, hp⟩
  ·rename_i g2
   rw [if_neg g2] at h
   split
   ·simpa using ⟨ho, hp⟩
   ·rename_i g3
    rw [if_neg g3] at h
    exact ⟨(lay_small _ _ _ h).1, hp⟩
 ·rename_i g
  rw [if_neg g] at h
  split
  ·rename_i g2
   rw [if_pos g2] at h
   exact ⟨(lay_small _ _ _ h).1, hp⟩
  ·rename_i g2
   rw [if_neg g2] at h
   split
   ·rename_i g3
    rw [if_pos g3] at h
    unfold startF at h ⊢
    have hs := startOp_len op t.f1
    split
    ·exact ⟨ho, hp⟩
    ·rename_i g4
     rw [if_neg g4] at h
     split
     ·exact ⟨ho, hp⟩
     ·rename_i g5
      rw [if_neg g5] at h
      have hl := lay_small _ _ _ h
      refine ⟨hl.1, ?_⟩
      show (if voidL t.f1 = true then startOp op t.f1 else startOp op t.f1 ++ [t.f1]).length ≤ 60
      split
      ·omega
      ·rw [List.length_append]
       have := hl.2
       simp
       omega
   ·rename_i g3
    rw [if_neg g3] at h
    split
    ·rename_i g4
     rw [if_pos g4] at h
     unfold endF at h ⊢
     split
     ·exact ⟨ho, hp⟩
     ·rename_i q1
      rw [if_neg q1] at h
      split
      ·exact ⟨ho, hp⟩
      ·rename_i q2
       rw [if_neg q2] at h
       split
       ·exact ⟨ho, hp⟩
       ·rename_i q3
        rw [if_neg q3] at h
        split
        ·refine ⟨ho, ?_⟩
         show (op.take _).length ≤ 60
         rw [List.length_take]
         omega
        ·rename_i q4
         rw [if_neg q4] at h
         split
         ·rename_i q5
          rw [if_pos q5] at h
          exact ⟨(lay_small _ _ _ h).1, hp⟩
         ·exact ⟨ho, hp⟩
    ·exact ⟨ho, hp⟩
theorem tok_at {w : World} {A : Option Addr} {l : List Tk} (h : k65.C w A l.length l) (i : Nat) (hi : i < l.length) :
  ∃ g o A3 c3, A = some ⟨g, o, none⟩ ∧ w.cell? ⟨g, o + i * 5, none⟩ = some (.int .i64 l[i].f0) ∧ w.cell? ⟨g, o + i * 5 + 1, none⟩ = some (.string l[i].f1) ∧ w.cell? ⟨g, o + i * 5 + 2, none⟩ = some (.string l[i].f2) ∧
   w.cell? ⟨g, o + i * 5 + 3, none⟩ = some (.slice A3 l[i].f3.length c3) ∧ w.cell? ⟨g, o + i * 5 + 4, none⟩ = some (.bool l[i].f4) ∧ k36.C w A3 l[i].f3.length l[i].f3 := by
 obtain ⟨ad, A3, c3, e, c0, c1, c2, c3', c4, l3, g3⟩ := at_T65 h i (by omega) (by omega)
 obtain ⟨ad0, _, _, e0, z0, _⟩ := at_T65 h 0 (by omega) (by omega)
 obtain rfl : ad0 = ad := Option.some.inj (e0.symm.trans e)
 have hs := spot_of (a := ad0) (by simpa [Addr.add] using z0)
 simp only [Int.toNat_natCast] at c0 c1 c2 c3' c4
 rw [hs, addr_at] at c0 c1 c2 c3' c4
 have er : rd_T65 l i = l[i] := by simp [rd_T65, hi]
 rw [er] at c0 c1 c2 c3' c4 g3
 exact ⟨ad0.block, ad0.off, _, _, by rw [e, ← hs], c0, c1, c2, c3', c4, g3⟩
theorem Bd.new (w : World) : Bd w w.heap.size [] [] false (w.alloc (.cells #[.slice none 0 0, .slice none 0 0, .bool false] 73)) :=
 ⟨(Below.refl _ w).alloc (Nat.le_refl _) _, Nat.le_refl _, _, _, new_cells w _ _, Kd.R_nil _ _ _ _ _, Kd.R_nil _ _ _ _ _⟩
theorem Bd.facts {w0 W : World} {B : Nat} {op : List ByteArray} {out : List Rw} {big : Bool} (h : Bd w0 B op out big W) : ∃ v0 Ar cr, W.cell? ⟨B, 0, none⟩ = some v0 ∧ W.cell? ⟨B, 1, none⟩ = some (.slice Ar out.length cr) ∧ W.cell? ⟨B, 2, none⟩ = some (.bool big) ∧ k34.C W Ar out.length out ∧ out.length ≤ cr := by
 obtain ⟨vo, vr, h1, h2, h3⟩ := h.ex
 obtain ⟨Ar, cr, rfl⟩ := Kd.R_slice h3
 obtain ⟨c0, c1, c2, cf⟩ := three_facts h1
 exact ⟨_, Ar, cr, c0, c1, c2, (Kd.R_reads' h3).2.2, (Kd.R_reads' h3).2.1⟩
set_option maxHeartbeats 3200000 in
set_option maxRecDepth 100000 in
theorem build_Tree.calls (A : Option Addr) (c : Nat) (l : List S65) (r1 : List S34) (r2 : Int) (w : World) (hr : k65.C w A l.length l) (hcap : l.length ≤ c) (h : build_Tree.f l = some (r1, r2)) :
  Calls Tryz.prog 21 #[.slice A l.length c] w fun e w' => ∃ v0_ : Value, e = .returned (.tuple #[v0_, .int .i64 r2]) ∧ k34.R 34 w' w.heap.size (fun _ => True) v0_ r1 ∧ Below w.heap.size w w' := by
 unfold build_Tree.f at h
 split at h
 case isFalse => cases h
 rename_i hnm
 simp only [Bool.and_eq_true] at hnm
 have hP := Lib.hid (nmB_ok hnm.1.1)
 have hT := Lib.hid (nmB_ok hnm.1.2)
 have hR := Lib.hid (nmB_ok hnm.2)
 clear hnm
 replace h := Lib.hid h
 have hxl := hr.2.1
 have hnew := Bd.new w
 have hbA : Below w.heap.size w (w.alloc (.cells #[.slice none 0 0, .slice none 0 0, .bool false] 73)) := (Below.refl _ w).alloc (Nat.le_refl _) _
 go_enter Tryz.func21, Tryz.ntmps21
 go_wp2
 go_loopw [11] (fun vi wr => ∃ (i : Nat) (op : List ByteArray) (out : List Rw), vi = .int .i64 i ∧ i ≤ l.length ∧ Hid (treeG (l.drop i) op out = some (r1, r2)) ∧ Bd w w.heap.size op out false wr ∧ out.length ≤ 4096 ∧ op.length ≤ 60 ∧ Below w.heap.size w wr) (fun vi _ => l.length - (intOf vi).toNat)
 case atStart => exact ⟨0, [], [], rfl, Nat.zero_le _, h, hnew, Nat.zero_le _, Nat.zero_le _, hbA⟩
 case round =>
  obtain ⟨i, op, out, rfl, hi, hq, hBd, hol, hpl, hbw⟩ := hrel
  clear hnew hbA h
  have hq2 := hq.out
  clear hq
  by_cases hlt : i < l.length
  ·rw [List.drop_eq_getElem_cons hlt] at hq2
   simp only [treeG] at hq2
   obtain ⟨g, o, A3, c3, rfl, z0, z1, z2, z3, z4, hxa⟩ := tok_at hr i hlt
   replace z0 := cell_keep z0 hbw
   replace z1 := cell_keep z1 hbw
   replace z2 := cell_keep z2 hbw
   replace z3 := cell_keep z3 hbw
   replace z4 := cell_keep z4 hbw
   generalize l[i] = t at *
   obtain ⟨kd, nm, dt, xa, sf⟩ := t
   simp only at z0 z1 z2 z3 z4 hxa
   cases hok : okT out ⟨kd, nm, dt, xa, sf⟩ with
   | false =>
    rw [hok, if_neg (by decide)] at hq2
    cases hq2
   | true =>
   rw [hok, if_pos rfl] at hq2
   have hsm := step_small op out ⟨kd, nm, dt, xa, sf⟩ hol hpl
   have hn := new_cells wr #[.int .i64 kd, .string nm, .string dt, .slice A3 xa.length c3, .bool sf] 65
   obtain ⟨⟨p0, p1, p2, p3, p4⟩, p5⟩ := five_facts hn
   have hbT : Below wr.heap.size wr (wr.alloc (.cells #[.int .i64 kd, .string nm, .string dt, .slice A3 xa.length c3, .bool sf] 65)) := (Below.refl _ wr).alloc (Nat.le_refl _) _
   have h1 := hBd.step hbT
   have hbw1 := hbw.trans (hbT.mono hbw.size)
   have hS : stepF op out ⟨kd, nm, dt, xa, sf⟩ = if kd = 0 then (op, textF op out false dt) else if kd = 3 then (op, layF op out false ⟨0, 2, ⟨#[]⟩, dt, []⟩)
     else if kd = 1 then startF op out false nm xa else if kd = 2 then endF op out false nm else (op, out, false) := rfl
   have hO : okT out ⟨kd, nm, dt, xa, sf⟩ = if kd = 0 then szB out dt else if kd = 1 then nmB nm && decide (xa.length ≤ 1000000) else if kd = 2 then nmB nm else true := rfl
   rw [hok] at hO
   generalize stepF op out ⟨kd, nm, dt, xa, sf⟩ = S at *
   clear hok hn
   by_cases k0 : kd = 0
   ·subst k0
    rw [if_pos rfl] at hS hO
    have hz : ∀ x ∈ out, x.f3.size + dt.size ≤ 9223372036854775807 := fun x hx => by
     have := List.all_eq_true.1 hO.symm x hx
     exact of_decide_eq_true this
    have hcall : Hid (Calls Tryz.prog 67 #[.pointer (some ⟨w.heap.size, 0, none⟩), .string dt] (wr.alloc (.cells #[.int .i64 0, .string nm, .string dt, .slice A3 xa.length c3, .bool sf] 65)) fun e W' => e = .returned (.tuple #[]) ∧
      Bd w w.heap.size S.1 S.2.1 S.2.2 W' ∧ Below w.heap.size (wr.alloc (.cells #[.int .i64 0, .string nm, .string dt, .slice A3 xa.length c3, .bool sf] 65)) W' ∧ KeptB w.heap.size (wr.alloc (.cells #[.int .i64 0, .string nm, .string dt, .slice A3 xa.length c3, .bool sf] 65)) W') := by
     apply Lib.hid
     rw [hS]
     exact text_c w w.heap.size op out false dt _ h1 (by omega) (by omega) hz
    clear hS hO
    obtain ⟨op2, out2, big2⟩ := S
    simp only at hcall hsm hq2
    cases big2 with
    | true =>
     rw [if_pos rfl] at hq2
     simp only [Option.some.injEq, Prod.mk.injEq] at hq2
     obtain ⟨rfl, rfl⟩ := hq2
     clear hsm
     go_wp2_with (go_at_call 67; ((with_reducible refine hcall.out.mono ?_); rintro e W2 ⟨rfl, h2, hb2, hk2⟩; obtain ⟨v0, Ar, cr, q0, q1, q2, hC, hcr⟩ := h2.facts))
     go_ret2
     exact ⟨_, rfl, Kd.R_nil _ _ _ _ _, hbw1.trans hb2⟩
    | false =>
     rw [if_neg (by decide)] at hq2
     replace hq2 := Lib.hid hq2
     have hsm2 := hsm rfl
     clear hsm
     go_wp2_with (go_at_call 67; ((with_reducible refine hcall.out.mono ?_); rintro e W2 ⟨rfl, h2, hb2, hk2⟩; obtain ⟨v0, Ar, cr, q0, q1, q2, hC, hcr⟩ := h2.facts))
     exact ⟨⟨i + 1, op2, out2, rfl, by omega, hq2, h2, hsm2.1, hsm2.2, hbw1.trans hb2⟩, by simp [intOf]; omega⟩
   by_cases k3 : kd = 3
   ·subst k3
    rw [if_neg (by decide), if_pos rfl] at hS
    have hcall : Hid (Calls Tryz.prog 68 #[.pointer (some ⟨w.heap.size, 0, none⟩), .agg #[.int .i64 0, .int .i64 2, .string ⟨#[]⟩, .string dt, .slice none 0 0]] (wr.alloc (.cells #[.int .i64 3, .string nm, .string dt, .slice A3 xa.length c3, .bool sf] 65)) fun e W' => e = .returned (.tuple #[]) ∧
      Bd w w.heap.size S.1 S.2.1 S.2.2 W' ∧ Below w.heap.size (wr.alloc (.cells #[.int .i64 3, .string nm, .string dt, .slice A3 xa.length c3, .bool sf] 65)) W' ∧ KeptB w.heap.size (wr.alloc (.cells #[.int .i64 3, .string nm, .string dt, .slice A3 xa.length c3, .bool sf] 65)) W') := by
     apply Lib.hid
     rw [hS]
     exact lay_c w w.heap.size op out false 0 2 ⟨#[]⟩ dt (.slice none 0 0) [] _ h1 (Kd.R_nil _ _ _ _ _) (by omega) (by omega)
    clear hS hO
    obtain ⟨op2, out2, big2⟩ := S
    simp only at hcall hsm hq2
    cases big2 with
    | true =>
     rw [if_pos rfl] at hq2
     simp only [Option.some.injEq, Prod.mk.injEq] at hq2
     obtain ⟨rfl, rfl⟩ := hq2
     clear hsm
     go_wp2_with (go_at_call 68; ((with_reducible refine hcall.out.mono ?_); rintro e W2 ⟨rfl, h2, hb2, hk2⟩; obtain ⟨v0, Ar, cr, q0, q1, q2, hC, hcr⟩ := h2.facts))
     go_ret2
     exact ⟨_, rfl, Kd.R_nil _ _ _ _ _, hbw1.trans hb2⟩
    | false =>
     rw [if_neg (by decide)] at hq2
     replace hq2 := Lib.hid hq2
     have hsm2 := hsm rfl
     clear hsm
     go_wp2_with (go_at_call 68; ((with_reducible refine hcall.out.mono ?_); rintro e W2 ⟨rfl, h2, hb2, hk2⟩; obtain ⟨v0, Ar, cr, q0, q1, q2, hC, hcr⟩ := h2.facts))
     exact ⟨⟨i + 1, op2, out2, rfl, by omega, hq2, h2, hsm2.1, hsm2.2, hbw1.trans hb2⟩, by simp [intOf]; omega⟩
   by_cases k1 : kd = 1
   ·subst k1
    rw [if_neg (by decide), if_neg (by decide), if_pos rfl] at hS
    rw [if_neg (by decide), if_pos rfl] at hO
    have hO2 := hO.symm
    simp only [Bool.and_eq_true, decide_eq_true_eq] at hO2
    have hcall : Hid (Calls Tryz.prog 69 #[.pointer (some ⟨w.heap.size, 0, none⟩), .agg #[.int .i64 1, .string nm, .string dt, .slice A3 xa.length c3, .bool sf]] (wr.alloc (.cells #[.int .i64 1, .string nm, .string dt, .slice A3 xa.length c3, .bool sf] 65)) fun e W' => e = .returned (.tuple #[]) ∧
      Bd w w.heap.size S.1 S.2.1 S.2.2 W' ∧ Below w.heap.size (wr.alloc (.cells #[.int .i64 1, .string nm, .string dt, .slice A3 xa.length c3, .bool sf] 65)) W' ∧ KeptB w.heap.size (wr.alloc (.cells #[.int .i64 1, .string nm, .string dt, .slice A3 xa.length c3, .bool sf] 65)) W') := by
     apply Lib.hid
     rw [hS]
     exact start_c w w.heap.size op out false 1 nm dt sf A3 c3 xa _ h1 hxa hO2.2 (by omega) (by omega) (nmB_ok hO2.1) hP.out
    clear hS hO
    obtain ⟨op2, out2, big2⟩ := S
    simp only at hcall hsm hq2
    cases big2 with
    | true =>
     rw [if_pos rfl] at hq2
     simp only [Option.some.injEq, Prod.mk.injEq] at hq2
     obtain ⟨rfl, rfl⟩ := hq2
     clear hsm
     go_wp2_with (go_at_call 69; ((with_reducible refine hcall.out.mono ?_); rintro e W2 ⟨rfl, h2, hb2, hk2⟩; obtain ⟨v0, Ar, cr, q0, q1, q2, hC, hcr⟩ := h2.facts))
     go_ret2
     exact ⟨_, rfl, Kd.R_nil _ _ _ _ _, hbw1.trans hb2⟩
    | false =>
     rw [if_neg (by decide)] at hq2
     replace hq2 := Lib.hid hq2
     have hsm2 := hsm rfl
     clear hsm
     go_wp2_with (go_at_call 69; ((with_reducible refine hcall.out.mono ?_); rintro e W2 ⟨rfl, h2, hb2, hk2⟩; obtain ⟨v0, Ar, cr, q0, q1, q2, hC, hcr⟩ := h2.facts))
     exact ⟨⟨i + 1, op2, out2, rfl, by omega, hq2, h2, hsm2.1, hsm2.2, hbw1.trans hb2⟩, by simp [intOf]; omega⟩
   by_cases k2 : kd = 2
   ·subst k2
    rw [if_neg (by decide), if_neg (by decide), if_neg (by decide), if_pos rfl] at hS
    rw [if_neg (by decide), if_neg (by decide), if_pos rfl] at hO
    have hcall : Hid (Calls Tryz.prog 70 #[.pointer (some ⟨w.heap.size, 0, none⟩), .string nm] (wr.alloc (.cells #[.int .i64 2, .string nm, .string dt, .slice A3 xa.length c3, .bool sf] 65)) fun e W' => e = .returned (.tuple #[]) ∧
      Bd w w.heap.size S.1 S.2.1 S.2.2 W' ∧ Below w.heap.size (wr.alloc (.cells #[.int .i64 2, .string nm, .string dt, .slice A3 xa.length c3, .bool sf] 65)) W' ∧ KeptB w.heap.size (wr.alloc (.cells #[.int .i64 2, .string nm, .string dt, .slice A3 xa.length c3, .bool sf] 65)) W') := by
     apply Lib.hid
     rw [hS]
     exact end_c w w.heap.size op out false nm _ h1 (by omega) (by omega) (nmB_ok hO.symm) hP.out hT.out hR.out
    clear hS hO
    obtain ⟨op2, out2, big2⟩ := S
    simp only at hcall hsm hq2
    cases big2 with
    | true =>
     rw [if_pos rfl] at hq2
     simp only [Option.some.injEq, Prod.mk.injEq] at hq2
     obtain ⟨rfl, rfl⟩ := hq2
     clear hsm
     go_wp2_with (go_at_call 70; ((with_reducible refine hcall.out.mono ?_); rintro e W2 ⟨rfl, h2, hb2, hk2⟩; obtain ⟨v0, Ar, cr, q0, q1, q2, hC, hcr⟩ := h2.facts))
     go_ret2
     exact ⟨_, rfl, Kd.R_nil _ _ _ _ _, hbw1.trans hb2⟩
    | false =>
     rw [if_neg (by decide)] at hq2
     replace hq2 := Lib.hid hq2
     have hsm2 := hsm rfl
     clear hsm
     go_wp2_with (go_at_call 70; ((with_reducible refine hcall.out.mono ?_); rintro e W2 ⟨rfl, h2, hb2, hk2⟩; obtain ⟨v0, Ar, cr, q0, q1, q2, hC, hcr⟩ := h2.facts))
     exact ⟨⟨i + 1, op2, out2, rfl, by omega, hq2, h2, hsm2.1, hsm2.2, hbw1.trans hb2⟩, by simp [intOf]; omega⟩
   rw [if_neg k0, if_neg k3, if_neg k1, if_neg k2] at hS
   clear hO
   subst hS
   simp only at hsm hq2
   rw [if_neg (by decide)] at hq2
   replace hq2 := Lib.hid hq2
   clear hsm
   obtain ⟨v0, Ar, cr, q0, q1, q2, hC, hcr⟩ := h1.facts
   have e0 : (kd == 0) = false := beq_eq_false_iff_ne.2 k0
   have e1 : (kd == 1) = false := beq_eq_false_iff_ne.2 k1
   have e2 : (kd == 2) = false := beq_eq_false_iff_ne.2 k2
   have e3 : (kd == 3) = false := beq_eq_false_iff_ne.2 k3
   go_wp2
   exact ⟨⟨i + 1, op, out, rfl, by omega, hq2, h1, hol, hpl, hbw1⟩, by simp [intOf]; omega⟩
  ·rw [List.drop_of_length_le (by omega)] at hq2
   simp only [treeG] at hq2
   obtain ⟨ns, hns, hq3⟩ := Option.bind_eq_some_iff.1 hq2
   simp only [Option.some.injEq, Prod.mk.injEq] at hq3
   obtain ⟨rfl, rfl⟩ := hq3
   obtain ⟨v0, Ar, cr, q0, q1, q2, hC, hcr⟩ := hBd.facts
   have hcall := Lib.hid (rows_Normal.calls Ar cr out ns wr hC hcr hns)
   clear hns hq2
   go_wp2_with (go_at_call 41; ((with_reducible refine hcall.out.mono ?_); rintro e W2 ⟨v2, rfl, hR2, hb2⟩))
   go_ret2
   exact ⟨_, rfl, Kd.R_lower hR2 hbw.size, hbw.trans (hb2.mono hbw.size)⟩
end Go.Proofs.YtkcmghlhpbepcaaGreatDoorH.W7

/- Rows of tokens and of attributes of the call's own, in the words of the printed walks, and in our own. -/
namespace Go.Proofs.YtkcmghlhpbepcaaGreatDoorH.W7
open Go.RowKit Go.Proofs Go.Proofs.YtkcmghlhpbepcaaGreatDoor Go.Proofs.YtkcmghlhpbepcaaGreatDoorW.PrintWords
theorem flat_reps {α : Type} {R : α → List Value → Prop} {size : Nat} (g : α → List Value) : ∀ (ps : List α), (∀ p ∈ ps, R p (g p) ∧ (g p).length = size) → Reps R size ps (ps.flatMap g)
 | [], _ => by simpa using Reps.none R size
 | p :: ps, h => by
  have ih := flat_reps g ps (fun q hq => h q (by simp [hq]))
  obtain ⟨h1, h2⟩ := h p (by simp)
  refine ⟨by rw [List.flatMap_cons, List.length_append, ih.1, h2, List.length_cons, Nat.succ_mul, Nat.add_comm], fun j q hq => ?_⟩
  cases j with
  | zero =>
   simp at hq
   subst hq
   rw [Nat.zero_mul, List.drop_zero, List.flatMap_cons, List.take_append_of_le_length (by omega), List.take_of_length_le (by omega)]
   exact h1
  | succ j =>
   have := ih.2 j q (by simpa using hq)
   rw [List.flatMap_cons, Nat.succ_mul, Nat.add_comm, ← List.drop_drop, List.drop_left' h2]
   exact this
theorem flat_pair (l : List S36) : (l.flatMap fun a => [Value.string a.f0, .string a.f1]) = attrV (l.map pairS) := by
 induction l with
 | nil => rfl
 | cons a l ih => rw [List.flatMap_cons, ih]; rfl
theorem R_of_atts {w : World} {base : Nat} {ok : Nat → Prop} {v : Value} {l : List (Txt × Txt)} (h : Atts w base v l) (hok : ∀ k, v.ownBlock = some k → ok k) : k36.R 36 w base ok v (l.map pairT) := by
 refine ⟨hok, attrV l, ?_, ?_⟩
 ·rw [List.length_map]; exact h
 ·have := flat_pair (l.map pairT)
  rw [pairsS_T] at this
  rw [← this]
  exact flat_reps _ _ (fun p _ => ⟨k36_mkM _ _ _ _, rfl⟩)
theorem R_of_toks {w : World} {base : Nat} {v : Value} {l : List Tok} (h : Toks w base v l) : k65.R 65 w base (fun _ => True) v (l.map tokT) := by
 obtain ⟨ps, h1, h2, h3⟩ := h
 refine ⟨fun _ _ => trivial, ps.flatMap (fun p => tokV p.1 p.2), by rw [List.length_map]; exact h2, ?_⟩
 have hl : l.map tokT = ps.map (fun p => tokT p.1) := by rw [← h1, List.map_map]; rfl
 rw [hl]
 have key : ∀ (ps : List (Tok × Value)), (∀ p ∈ ps, Atts w base p.2 p.1.attrs) → Reps (k65.M w base (fun k => True ∧ some k ≠ v.ownBlock)) 5 (ps.map fun p => tokT p.1) (ps.flatMap fun p => tokV p.1 p.2) := by
  intro ps
  induction ps with
  | nil => intro _; exact Reps.none _ _
  | cons p ps ih =>
   intro hp
   have ih := ih (fun q hq => hp q (by simp [hq]))
   have hA := hp p (by simp)
   have hR := R_of_atts (ok := fun k => True ∧ some k ≠ v.ownBlock) hA (fun k hk => ⟨trivial, fun e => by
    obtain ⟨c1, e1⟩ := own_cells hA hk
    obtain ⟨c2, e2⟩ := own_cells h2 e.symm
    rw [e1] at e2
    injection e2 with e2
    injection e2 with _ e2
    exact absurd e2 (by decide)⟩)
   have hM := k65_mkM w base (fun k => True ∧ some k ≠ v.ownBlock) (tokT p.1) hR
   refine ⟨by rw [List.map_cons, List.flatMap_cons, List.length_append, ih.1, List.length_cons, Nat.succ_mul, Nat.add_comm]; rfl, fun j q hq => ?_⟩
   cases j with
   | zero =>
    simp at hq
    subst hq
    exact hM
   | succ j =>
    have := ih.2 j q (by simpa using hq)
    rw [List.flatMap_cons, Nat.succ_mul, Nat.add_comm, ← List.drop_drop]
    exact this
 exact key ps h3
end Go.Proofs.YtkcmghlhpbepcaaGreatDoorH.W7

/- Contracts of package names: among, Raw, Soft. Nothing that lay in memory turns. -/
namespace Go.Proofs.YtkcmghlhpbepcaaGreatDoor
open Go.RowKit Go.Proofs
theorem among_yes {L : List Txt} {l : Txt} {k : Nat} (hk : k < L.length) (h : L.getD k [] = l) : inB L l = true := by
 unfold inB
 rw [List.contains_iff_mem, ← h]
 simp [List.getD, List.getElem?_eq_getElem hk]
theorem among_no {L : List Txt} {l : Txt} (h : ∀ k, k < L.length → L.getD k [] ≠ l) : inB L l = false := by
 unfold inB
 cases hc : L.contains l with
 | false => rfl
 | true =>
  rw [List.contains_iff_mem] at hc
  obtain ⟨k, hk, e⟩ := List.getElem_of_mem hc
  exact absurd (by simp [List.getD, List.getElem?_eq_getElem hk, e]) (h k hk)
set_option maxHeartbeats 1000000 in
set_option maxRecDepth 100000 in
theorem among_c (b n : Nat) (L : List Txt) (l : Txt) (hn : n = L.length) (hN : n ≤ 1000000) (w : World) (ht : TextsAt b n L w) :
  Calls Tryz.prog 81 #[.string ⟨l.toArray⟩, .slice (some ⟨b, 0, none⟩) n n] w fun e w' => e = .returned (.bool (inB L l)) ∧ w = w' := by
 go_enter Tryz.func81, Tryz.ntmps81
 go_wp2
 go_loop [6, 9] (fun _ v => ∃ (k : Nat), v = .int .i64 k ∧ k ≤ n ∧ Hid (∀ j, j < k → L.getD j [] ≠ l)) (fun _ v => n - (intOf v).toNat)
 case atStart => exact ⟨0, rfl, by omega, fun j h => by omega⟩
 case round =>
  obtain ⟨k, rfl, hk, hno⟩ := hrel
  by_cases hlt : k < n
  ·have c1 := ht k hlt
   by_cases he : L.getD k [] = l
   ·have hy := Lib.hid (among_yes (by omega) he)
    rw [he] at c1
    have hbe : (l == l) = true := by simp
    clear he
    go_wp2
    go_ret
    rw [hy.out]
    exact ⟨rfl, rfl⟩
   ·have hno2 := Lib.hid (show ∀ j, j < k + 1 → L.getD j [] ≠ l by
     intro j hj
     by_cases e : j = k
     ·subst e; exact he
     ·exact hno.out j (by omega))
    have hbe : (L.getD k [] == l) = false := by simpa using he
    clear he
    generalize L.getD k [] = nm at *
    go_wp2
    refine ⟨⟨k + 1, rfl, by omega, hno2⟩, by simp [intOf]; omega⟩
  ·have hm := Lib.hid (among_no (L := L) (l := l) fun k hk => hno.out k (by omega))
   go_wp2
   go_ret
   rw [hm.out]
   exact ⟨rfl, rfl⟩
set_option maxRecDepth 100000 in
theorem raw_c (l : Txt) (w : World) :
  Calls Tryz.prog 32 #[.string ⟨l.toArray⟩] w fun e w' => e = .returned (.bool (rawB l)) ∧ Below w.heap.size w w' := by
 go_enter Tryz.func32, Tryz.ntmps32
 go_wp2_with (go_at_call 81; ((refine (among_c _ 6 rawsL _ (by rfl) (by decide) _ (TextsAt.of (new_cells _ _ _) (by rfl) (by decide))).mono ?_); rintro e w1 ⟨rfl, rfl⟩))
 go_ret
 exact ⟨rfl, (Below.refl _ w).alloc (Nat.le_refl _) _⟩
set_option maxRecDepth 100000 in
theorem soft_c (l : Txt) (w : World) :
  Calls Tryz.prog 33 #[.string ⟨l.toArray⟩] w fun e w' => e = .returned (.bool (softB l)) ∧ Below w.heap.size w w' := by
 go_enter Tryz.func33, Tryz.ntmps33
 go_wp2_with (go_at_call 81; ((refine (among_c _ 2 softsL _ (by rfl) (by decide) _ (TextsAt.of (new_cells _ _ _) (by rfl) (by decide))).mono ?_); rintro e w1 ⟨rfl, rfl⟩))
 go_ret
 exact ⟨rfl, (Below.refl _ w).alloc (Nat.le_refl _) _⟩
end Go.Proofs.YtkcmghlhpbepcaaGreatDoor

/- Contracts of token's scanner: until, isDoctype. What lay below the scanner's own blocks does not turn. -/
namespace Go.Proofs.YtkcmghlhpbepcaaGreatDoor
open Go.RowKit Go.Proofs
def Env (w : World) (base : Nat) : Prop := ∃ w0, Std w0 ∧ w0.heap.size = base ∧ Below base w0 w
theorem Env.std {w : World} {base : Nat} (h : Env w base) : Std w := by
 obtain ⟨w0, h1, rfl, h3⟩ := h
 exact h1.below h3
theorem Env.below {w w' : World} {base : Nat} (h : Env w base) (hb : Below base w w') : Env w' base := by
 obtain ⟨w0, h1, h2, h3⟩ := h
 exact ⟨w0, h1, h2, h3.trans hb⟩
theorem Env.le {w : World} {base : Nat} (h : Env w base) : base ≤ w.heap.size := by
 obtain ⟨w0, h1, rfl, h3⟩ := h
 exact h3.size
theorem below_up {w w' : World} {base : Nat} (hb : Below w.heap.size w w') (h : base ≤ w.heap.size) : Below base w w' := ⟨hb.os, hb.tape, hb.output, hb.size, fun i hi => hb.block i (by omega)⟩
theorem three_facts {w : World} {b : Nat} {v0 v1 v2 : Value} {t : TypeId} (h : w.heap[b]? = some (.cells #[v0, v1, v2] t (0, 0))) :
  (w.cell? ⟨b, 0, none⟩ = some v0 ∧ w.cell? ⟨b, 1, none⟩ = some v1 ∧ w.cell? ⟨b, 2, none⟩ = some v2) ∧ (∀ j, w.frozen? ⟨b, j, none⟩ = false) := by
 refine ⟨⟨?_, ?_, ?_⟩, fun j => frozen_of_row w b j _ _ h⟩ <;> (rw [Lib.cell_of_heap h]; rfl)
theorem cutg_c (s e : Txt) (hs : s.length ≤ 1000000000) (w : World) (hS : Std w) :
  Calls Tryz.prog 188 #[.string ⟨s.toArray⟩, .string ⟨e.toArray⟩] w fun r w' => r = .returned (.tuple #[.string ⟨(Lib.cut s e).1.toArray⟩, .string ⟨(Lib.cut s e).2.1.toArray⟩, .bool (Lib.cut s e).2.2]) ∧ Below w.heap.size w w' := by
 obtain ⟨m, hm⟩ := hS.maxLen
 refine (Tryz.strings_Cut ⟨s.toArray⟩ ⟨e.toArray⟩ m w (by rw [mk_size]; omega) hm).mono ?_
 rintro e w' ⟨rfl, n, rfl⟩
 refine ⟨?_, below_drewN (Below.refl _ _) n⟩
 rw [mk_data_list, mk_data_list]
theorem cut_false {s e : Txt} (h : (Lib.cut s e).2.2 = false) : Lib.cut s e = (s, [], false) := by
 unfold Lib.cut at *
 split
 ·rename_i h0
  rw [if_pos h0] at h
  simp at h
 ·rfl
set_option maxHeartbeats 1000000 in
set_option maxRecDepth 100000 in
theorem until_c (base b : Nat) (s t e : Txt) (l : List Tok) (hs : s.length ≤ 1000000000) (w : World) (hsc : Sc w base b s t l) (hE : Env w base) :
  Calls Tryz.prog 214 #[.pointer (some ⟨b, 0, none⟩), .string ⟨e.toArray⟩] w fun r w' => r = .returned (.string ⟨(untilF s e).1.toArray⟩) ∧ Sc w' base b (untilF s e).2 t l ∧ Below base w w' := by
 have hS := hE.std
 have hle := hE.le
 have hbb := hsc.1
 have hcut := Lib.hid (fun W hS => cutg_c s e hs W hS)
 unfold untilF
 have hcf := Lib.hid (fun h => cut_false (s := s) (e := e) h)
 generalize Lib.cut s e = c at *
 obtain ⟨v1, v2, fd⟩ := c
 obtain ⟨_, v, hh, hT⟩ := id hsc
 obtain ⟨⟨c0, c1, c2⟩, c5⟩ := three_facts hh
 cases fd with
 | true =>
  go_enter Tryz.func214, Tryz.ntmps214
  go_wp2_with (go_at_call 188; ((with_reducible refine (hcut.out _ hS).mono ?_); rintro e w2 ⟨rfl, hb2⟩; have hsc2 := hsc.below hb2; obtain ⟨_, v2', hh2, hT2⟩ := id hsc2; obtain ⟨⟨d0, d1, d2⟩, d5⟩ := three_facts hh2))
  go_ret
  exact ⟨rfl, hsc2.set_s v2, below_set (below_up hb2 hle) hbb _⟩
 | false =>
  have hcc := hcf.out rfl
  simp only [Prod.mk.injEq] at hcc
  obtain ⟨rfl, rfl, _⟩ := hcc
  go_enter Tryz.func214, Tryz.ntmps214
  go_wp2_with (go_at_call 188; ((with_reducible refine (hcut.out _ hS).mono ?_); rintro e w2 ⟨rfl, hb2⟩; have hsc2 := hsc.below hb2; obtain ⟨_, v2', hh2, hT2⟩ := id hsc2; obtain ⟨⟨d0, d1, d2⟩, d5⟩ := three_facts hh2))
  go_ret
  exact ⟨rfl, hsc2.set_s [], below_set (below_up hb2 hle) hbb _⟩
set_option maxHeartbeats 1000000 in
set_option maxRecDepth 100000 in
theorem isDoctype_c (s : Txt) (hs : s.length ≤ 1000000000) (w : World) :
  Calls Tryz.prog 193 #[.string ⟨s.toArray⟩] w fun r w' => r = .returned (.bool (isDoctypeB s)) ∧ Below w.heap.size w w' := by
 have h1 := Lib.hid (fun W => fsame_c (s.take 8) [33, 100, 111, 99, 116, 121, 112, 101] (by simp; omega) (by simp) W)
 have h2 := Lib.hid (fun W => letter_c (s.drop 8) W)
 have hd : Hid (isDoctypeB s = (decide (8 ≤ s.length) && sameB (s.take 8) [33, 100, 111, 99, 116, 121, 112, 101] && !letterL (s.drop 8))) := rfl
 generalize isDoctypeB s = r at *
 generalize sameB (s.take 8) [33, 100, 111, 99, 116, 121, 112, 101] = q at *
 generalize letterL (s.drop 8) = p at *
 by_cases hl : 8 ≤ s.length
 ·have hlI : (8 : Int) ≤ s.length := by omega
  cases q with
  | true =>
   have hr := hd.out
   simp only [hl, decide_true, Bool.true_and] at hr
   have hr := Lib.hid hr
   rename_i hr0
   clear hr0
   go_enter Tryz.func193, Tryz.ntmps193
   go_wp2_with (first
    | (go_at_call 153; ((with_reducible refine (h1.out _).mono ?_); rintro e w1 ⟨rfl, hb⟩))
    | (go_at_call 190; ((with_reducible refine (h2.out _).mono ?_); rintro e w2 ⟨rfl, rfl⟩)))
   go_ret
   rw [hr.out]
   exact ⟨rfl, hb⟩
  | false =>
   have hr := hd.out
   simp only [Bool.and_false, Bool.false_and] at hr
   subst hr
   go_enter Tryz.func193, Tryz.ntmps193
   go_wp2_with (first
    | (go_at_call 153; ((with_reducible refine (h1.out _).mono ?_); rintro e w1 ⟨rfl, hb⟩))
    | (go_at_call 190; ((with_reducible refine (h2.out _).mono ?_); rintro e w2 ⟨rfl, rfl⟩)))
   go_ret
   exact ⟨rfl, hb⟩
 ·have hlI : ¬ (8 : Int) ≤ s.length := by omega
  have hr := hd.out
  simp only [hl, decide_false, Bool.false_and] at hr
  subst hr
  go_enter Tryz.func193, Tryz.ntmps193
  go_wp2
  go_ret
  exact ⟨rfl, Below.refl _ _⟩
end Go.Proofs.YtkcmghlhpbepcaaGreatDoor

/- Contract of token's scanner: tell: the text that was gone over becomes a token. What lay below the scanner's own blocks does not turn. -/
namespace Go.Proofs.YtkcmghlhpbepcaaGreatDoor
open Go.RowKit Go.Proofs
theorem Toks.len {w : World} {base : Nat} {v : Value} {l : List Tok} (h : Toks w base v l) : ∃ a c, v = .slice a l.length c := by
 obtain ⟨ps, h1, h2, h3⟩ := h
 rcases h2.2 with ⟨rfl, h0⟩ | ⟨g, cap, cur, rfl, _⟩
 ·exact ⟨none, 0, by rw [h0]⟩
 ·exact ⟨_, _, rfl⟩
theorem Toks.alloc {w : World} {base : Nat} {v : Value} {l : List Tok} (h : Toks w base v l) (o : Obj) : Toks (w.alloc o) base v l := h.below ((Below.refl _ _).alloc (Nat.le_refl _) o)
theorem step_tok {w : World} {ops : Array Oper} {o : Oper} {a : Act} {K : Act → World → Prop} {Q : Exit → Act → World → Prop} {E : Prop} (hgd : o.guard = none) (sl x : Operand)
  (ho : o.op = .call { callee := .builtin .append, args := #[sl, x], argTypes := #[26, 26] })
  (base g : Nat) (v va : Value) (l : List Tok) (t : Tok) (hs : a.eval sl = v) (hown : Toks w base v l) (hx : a.eval x = .slice (some ⟨g, 0, none⟩) 1 1)
  (hc0 : w.cell? ⟨g, 0, none⟩ = some (.int .i64 t.kind)) (hc1 : w.cell? ⟨g, 1, none⟩ = some (.string ⟨t.name.toArray⟩)) (hc2 : w.cell? ⟨g, 2, none⟩ = some (.string ⟨t.data.toArray⟩)) (hc3 : w.cell? ⟨g, 3, none⟩ = some va) (hc4 : w.cell? ⟨g, 4, none⟩ = some (.bool t.self))
  (hat : Atts w base va t.attrs) (hlen : l.length + 1 ≤ 1000000000000) (hbase : base ≤ w.heap.size)
  (h : ∀ v' w', Toks w' base v' (l ++ [t]) → w.grownBy w' v.ownBlock → Below base w w' → (∀ (b : Nat) (cur : Array Value) (e : TypeId) (fz : Nat × Nat), w.heap[b]? = some (.cells cur e fz) → e ≠ 65 → w'.heap[b]? = some (.cells cur e fz)) → K (a.put o.dst v') w') : if Region.wanted o (yielded ops a.tmps) = true then Oper.wp Tryz.prog o a w K Q else E := by
 have hw : Region.wanted o (yielded ops a.tmps) = true := by simp [Region.wanted, hgd]
 rw [if_pos hw]
 obtain ⟨i, z, hi, hz, h2, h3, hzs⟩ := tokInfo
 obtain ⟨ps, k1, k2, k3⟩ := hown
 refine wp_append_own _ sl x 26 ho base 65 i z 5 72 Tryz.underlying26 hi hz h2 h3 hzs (by decide) v l.length _ hs k2 ⟨g, 0, none⟩ 1 1 (tokV t va) hx rfl ?_ ?_ (by unfold maxLen; omega) (by omega) hbase ?_
 ·intro j u hj
  rw [addr_add]
  match j, hj with
  | 0, hj => simp [tokV] at hj; subst hj; exact hc0
  | 1, hj => simp [tokV] at hj; subst hj; exact hc1
  | 2, hj => simp [tokV] at hj; subst hj; exact hc2
  | 3, hj => simp [tokV] at hj; subst hj; exact hc3
  | 4, hj => simp [tokV] at hj; subst hj; exact hc4
 ·intro u hu
  simp [tokV] at hu
  rcases hu with rfl | rfl | rfl | rfl | rfl
  ·rfl
  ·rfl
  ·rfl
  ·exact own_one hat
  ·rfl
 ·intro v' w' hown' hgrow _
  refine h v' w' ⟨ps ++ [(t, va)], by simp [k1], by simpa using hown', ?_⟩ hgrow ((Below.refl base w).grown hgrow hbase (fun k hk => own_base k2 hk)) ?_
  ·intro p hp
   rw [List.mem_append] at hp
   rcases hp with hp | hp
   ·exact own_apart (k3 p hp) k2 hgrow (by decide)
   ·simp at hp
    subst hp
    exact own_apart hat k2 hgrow (by decide)
  ·intro b cur e fz hb hne
   rw [hgrow.block b (Array.getElem?_eq_some_iff.1 hb).1 (fun e0 => own_ne k2 hb hne e0.symm)]
   exact hb
set_option maxHeartbeats 2000000 in
set_option maxRecDepth 100000 in
theorem tell_c (base b : Nat) (s t : Txt) (l : List Tok) (ht : t.length ≤ 1000000000) (hl : l.length ≤ 100000000000) (w : World) (hsc : Sc w base b s t l) (hE : Env w base) :
  Calls Tryz.prog 159 #[.pointer (some ⟨b, 0, none⟩)] w fun r w' => r = .returned (.tuple #[]) ∧ Sc w' base b s [] (l ++ tellF t) ∧ Below base w w' := by
 have hS := hE.std
 have hle := hE.le
 have hbb := hsc.1
 obtain ⟨_, v, hh, hT⟩ := id hsc
 obtain ⟨ad, cp, rfl⟩ := hT.len
 obtain ⟨⟨c0, c1, c2⟩, c5⟩ := three_facts hh
 cases t with
 | nil =>
  go_enter Tryz.func159, Tryz.ntmps159
  go_wp2
  go_end0
  refine ⟨rfl, ?_, below_set (Below.refl _ _) hbb _⟩
  have := hsc.set_t []
  simpa [tellF] using this
 | cons c u =>
  obtain ⟨q, hq⟩ : ∃ q, c :: u = q := ⟨_, rfl⟩
  have htl : tellF (c :: u) = [⟨0, [], [], decL (c :: u), false⟩] := by simp [tellF]
  have hne : (q == []) = false := by rw [← hq]; rfl
  rw [htl]
  rw [hq] at hsc hh c1 ht ⊢
  clear htl hq
  have hdec := Lib.hid (fun W hS => decode_c q ht W hS)
  generalize decL q = dq at *
  have hSd := hS.drew
  have hscd := hsc.below (Below.refl _ w).drew
  go_enter Tryz.func159, Tryz.ntmps159
  go_wp2
  go_region_law (first
   | (refine step_tok rfl (.tmp 11) (.tmp 18) rfl base w2.heap.size (.slice ad l.length cp) (.slice none 0 0) l ⟨0, [], [], dq, false⟩ rfl hT3 rfl k0 k1 k2 k3 k4 (Atts.nil _ _) (by omega) hle3 ?_; intro v5 w5 hT5 hg5 hb5 hk5; obtain ⟨ad5, cp5, rfl⟩ := hT5.len; rw [show (l ++ [(⟨0, [], [], dq, false⟩ : Tok)]).length = l.length + 1 from List.length_append] at hT5; have hh5 := hk5 _ _ _ _ hh3 (by decide); obtain ⟨⟨e0, e1, e2⟩, e5⟩ := three_facts hh5; have hB5 := hB3.trans hb5)
   | (go_simp; go_at_call 155; ((with_reducible refine (hdec.out _ hSd).mono ?_); rintro e w2 ⟨rfl, hb2⟩; have hh2 := heap_below (w := w.drew) hh hb2; have hT2 := (hT.below (Below.refl _ w).drew).below hb2; obtain ⟨⟨d0, d1, d2⟩, d5⟩ := three_facts hh2; have hT3 := hT2.alloc (.cells #[.int .i64 0, .string ⟨#[]⟩, .string ⟨dq.toArray⟩, .slice none 0 0, .bool false] 65); have hh3 := heap_old hh2 (.cells #[.int .i64 0, .string ⟨#[]⟩, .string ⟨dq.toArray⟩, .slice none 0 0, .bool false] 65); obtain ⟨⟨k0, k1, k2, k3, k4⟩, k5⟩ := five_facts (new_cells w2 #[.int .i64 0, .string ⟨#[]⟩, .string ⟨dq.toArray⟩, .slice none 0 0, .bool false] 65); obtain ⟨⟨f0, f1, f2⟩, f5⟩ := three_facts hh3; have hB2 := below_then ((Below.refl base w).drew) hle hb2; have hle2 : base ≤ w2.heap.size := Nat.le_trans hle hB2.size; have hB3 := hB2.alloc hle2 (.cells #[.int .i64 0, .string ⟨#[]⟩, .string ⟨dq.toArray⟩, .slice none 0 0, .bool false] 65); have hle3 : base ≤ (w2.alloc (.cells #[.int .i64 0, .string ⟨#[]⟩, .string ⟨dq.toArray⟩, .slice none 0 0, .bool false] 65)).heap.size := (by rw [World.size_alloc]; omega))))
  all_goals
   have hfin := (Sc.set_o (l := l) hbb hh5 hT5).set_t []
   have hbf := fun x y => below_set (j := 1) (below_set (j := 2) hB5 hbb x) hbb y
   go_wp2
   go_end0
   exact ⟨rfl, hfin, hbf _ _⟩
end Go.Proofs.YtkcmghlhpbepcaaGreatDoor
