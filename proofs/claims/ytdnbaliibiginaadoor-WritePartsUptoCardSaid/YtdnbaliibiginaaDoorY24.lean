/- Lemmas and walks, part 24: QE8L, QNames, QScanA, QScanB, QScanC, QScanD, QTokR, QTokW, QTokT, QTokS, QTokG, QScanE, QScanF, QScanG, QScanH, QScanI, QSame, QPW8x1. -/
import Derived.Deep.RegionHeld3
import Derived.Test.YtdnbaliibiginaaDoorY8
import Derived.Test.YtdnbaliibiginaaDoorY23
import Derived.Test.YtdnbaliibiginaaDoorY4
import Derived.Test.YtdnbaliibiginaaDoorY9
import Derived.Test.YtdnbaliibiginaaDoorY19
import Derived.Test.YtdnbaliibiginaaDoorY5
import Derived.Test.YtdnbaliibiginaaDoorY6
import Derived.Deep.RegionLaw
import Derived.RegionTactic
import Derived.Test.YtdnbaliibiginaaDoorY12
set_option linter.unusedVariables false
set_option linter.unusedSimpArgs false

/- Contract of write.within: whether what an element has comes back. Nothing that lay in memory turns. -/
namespace Go.Proofs.YtdnbaliibiginaaDoorH.W8
open Go.RowKit Go.Proofs Go.Proofs.YtdnbaliibiginaaDoor Go.Proofs.YtdnbaliibiginaaDoorW.PrintWords
def wiOne (l0 : List Rw) (k : Int) (sf : Bool) : Option Bool :=
 if h : 0 ≤ k ∧ k.toNat < l0.length then
  if l0[k.toNat].f1 = 1 then
   if sf then some true
   else (strings_Contains.f l0[k.toNat].f3 ⟨#[60, 47]⟩).bind fun c => if c then some false else (strings_HasSuffix.f l0[k.toNat].f3 ⟨#[60]⟩).bind fun h => some (!h)
  else some false
 else none
def wiF (l0 : List Rw) (v rw sf : Bool) : List Int → Option Bool
 | [] => some true
 | k :: ks => if v then some false else if (rw || sf) = false then some true else match ks with
  | [] => wiOne l0 k sf
  | _ :: _ => some false
def write_within.f (l0 : List Rw) (i : Int) : Option Bool :=
 if h : 0 ≤ i ∧ i.toNat < l0.length then
  (rows_Kids.f l0 i).bind fun ks => (names_Void.f 100 l0[i.toNat].f2).bind fun v => (names_Raw.f 100 l0[i.toNat].f2).bind fun rw => (names_Soft.f 100 l0[i.toNat].f2).bind fun sf => wiF l0 v rw sf ks
 else none
theorem keep5 {w W : World} {p : Addr} {v0 v1 v2 v3 v4 : Value} (h : Below w.heap.size w W) (z0 : w.cell? p = some v0) (z1 : w.cell? ⟨p.block, p.off + 1, none⟩ = some v1) (z2 : w.cell? ⟨p.block, p.off + 2, none⟩ = some v2) (z3 : w.cell? ⟨p.block, p.off + 3, none⟩ = some v3) (z4 : w.cell? ⟨p.block, p.off + 4, none⟩ = some v4) :
  W.cell? p = some v0 ∧ W.cell? ⟨p.block, p.off + 1, none⟩ = some v1 ∧ W.cell? ⟨p.block, p.off + 2, none⟩ = some v2 ∧ W.cell? ⟨p.block, p.off + 3, none⟩ = some v3 ∧ W.cell? ⟨p.block, p.off + 4, none⟩ = some v4 :=
 ⟨cell_keep z0 h, cell_keep z1 h, cell_keep z2 h, cell_keep z3 h, cell_keep z4 h⟩
theorem put5 {W : World} {b : Nat} {u0 u1 u2 u3 u4 : Value} {t : TypeId} (h : W.heap[b]? = some (.cells #[u0, u1, u2, u3, u4] t (0, 0))) (v0 v1 v2 v3 v4 : Value) : (((((W.setCell ⟨b, 0, none⟩ v0).setCell ⟨b, 1, none⟩ v1).setCell ⟨b, 2, none⟩ v2).setCell ⟨b, 3, none⟩ v3).setCell ⟨b, 4, none⟩ v4).heap[b]? = some (.cells #[v0, v1, v2, v3, v4] t (0, 0)) :=
 blk_put (blk_put (blk_put (blk_put (blk_put h 0 v0 rfl) 1 v1 rfl) 2 v2 rfl) 3 v3 rfl) 4 v4 rfl
theorem put5R {W : World} {b n : Nat} {cs : Array Value} {v : Value} {ks : List Int} {ok : Nat → Prop} (h : W.heap[b]? = some (.cells cs 35 (0, 0))) (hR : (Kd.int .i64).R 3 W n ok v ks) (v0 v1 v2 v3 v4 : Value) : (Kd.int .i64).R 3 (((((W.setCell ⟨b, 0, none⟩ v0).setCell ⟨b, 1, none⟩ v1).setCell ⟨b, 2, none⟩ v2).setCell ⟨b, 3, none⟩ v3).setCell ⟨b, 4, none⟩ v4) n (fun _ => True) v ks :=
 Kd.R_mono (Kd.R_far (Kd.R_far (Kd.R_far (Kd.R_far (Kd.R_far (Kd.R_types hR h (by decide)) (fun _ hk => hk.2) v0) (fun _ hk => hk.2) v1) (fun _ hk => hk.2) v2) (fun _ hk => hk.2) v3) (fun _ hk => hk.2) v4) (fun _ _ => trivial)
theorem put5B {w W : World} {b : Nat} (h : Below w.heap.size w W) (hb : w.heap.size ≤ b) (v0 v1 v2 v3 v4 : Value) : Below w.heap.size w (((((W.setCell ⟨b, 0, none⟩ v0).setCell ⟨b, 1, none⟩ v1).setCell ⟨b, 2, none⟩ v2).setCell ⟨b, 3, none⟩ v3).setCell ⟨b, 4, none⟩ v4) :=
 below_set (below_set (below_set (below_set (below_set h hb) hb) hb) hb) hb
theorem put5all {w W : World} {b n : Nat} {v : Value} {ks : List Int} {ok : Nat → Prop} {u0 u1 u2 u3 u4 : Value} (h : W.heap[b]? = some (.cells #[u0, u1, u2, u3, u4] 35 (0, 0))) (hR : (Kd.int .i64).R 3 W n ok v ks) (hB : Below w.heap.size w W) (hb : w.heap.size ≤ b) (v0 v1 v2 v3 v4 : Value) :
  ∀ W5, W5 = (((((W.setCell ⟨b, 0, none⟩ v0).setCell ⟨b, 1, none⟩ v1).setCell ⟨b, 2, none⟩ v2).setCell ⟨b, 3, none⟩ v3).setCell ⟨b, 4, none⟩ v4) → W5.heap[b]? = some (.cells #[v0, v1, v2, v3, v4] 35 (0, 0)) ∧ (Kd.int .i64).R 3 W5 n (fun _ => True) v ks ∧ Below w.heap.size w W5 :=
 fun _ e => e ▸ ⟨put5 h _ _ _ _ _, put5R h hR _ _ _ _ _, put5B hB hb _ _ _ _ _⟩
theorem alloc5all {w W : World} {n : Nat} {v : Value} {ks : List Int} {ok : Nat → Prop} {z : Obj} {x : Option Obj} (_ : (W.alloc z).heap[W.heap.size]? = x) (hR : (Kd.int .i64).R 3 W n ok v ks) (hB : Below w.heap.size w W) (v0 v1 v2 v3 v4 : Value) :
  ∀ W5, W5 = W.alloc (.cells #[v0, v1, v2, v3, v4] 35) → W5.heap[W.heap.size]? = some (.cells #[v0, v1, v2, v3, v4] 35 (0, 0)) ∧ (Kd.int .i64).R 3 W5 n (fun _ => True) v ks ∧ Below w.heap.size w W5 :=
 fun _ e => e ▸ ⟨new_cells W _ _, Kd.R_mono (Kd.R_alloc hR _) (fun _ _ => trivial), hB.alloc hB.size _⟩
set_option maxHeartbeats 3200000 in
set_option maxRecDepth 100000 in
theorem wi_calls (A : Option Addr) (c : Nat) (xs : List Rw) (hcap : xs.length ≤ c) (m : Nat) (hm : m < xs.length) (ks : List Int) (hks : rows_Kids.f xs m = some ks) (v rw sf r : Bool) (hv : names_Void.f 100 xs[m].f2 = some v) (hrw : names_Raw.f 100 xs[m].f2 = some rw) (hsf : names_Soft.f 100 xs[m].f2 = some sf) (hf : wiF xs v rw sf ks = some r) (w : World) (hr : k35.C w A xs.length xs) (hS : Std8 w) :
  Calls Tryd.prog 38 #[.slice A xs.length c, .int .i64 m] w fun e w' => e = .returned (.bool r) ∧ Below w.heap.size w w' := by
 have hxl := hr.2.1
 obtain ⟨g, o, A4, c4, rfl, z0, z1, z2, z3, z4, l4, hat⟩ := row_at hr m hm
 generalize xs[m] = x at z0 z1 z2 z3 z4 l4 hat hv hrw hsf
 obtain ⟨xd, xk, xn, xt, xa⟩ := x
 simp only at z0 z1 z2 z3 z4 l4 hat hv hrw hsf
 have hvo := Lib.hid (fun W => names_Void.calls 100 xn v W hv)
 have hra := Lib.hid (fun W => names_Raw.calls 100 xn rw W hrw)
 have hso := Lib.hid (fun W => names_Soft.calls 100 xn sf W hsf)
 clear hv hrw hsf
 have hkd := Lib.hid (fun (W : World) (hW : Below w.heap.size w W) => rows_Kids.calls (some ⟨g, o, none⟩) c xs m ks W (Kd.C_below hr hW) hcap hks)
 have hbd : Below w.heap.size w w.drew := Go.Proofs.YtdnbaliibiginaaDoorW.PrintWords.below_drew (Below.refl _ _)
 have hsz := hbd.size
 have K := Lib.hid (fun (W : World) (h : Below w.heap.size w W) => keep5 (p := ⟨g, o + m * 5, none⟩) h z0 z1 z2 z3 z4)
 have hn0 := new_cells w #[.int .i64 0, .int .i64 0, .string ⟨#[]⟩, .string ⟨#[]⟩, .slice none 0 0] 35
 obtain ⟨⟨p0, p1, p2, p3, p4⟩, p5⟩ := five_facts hn0
 go_enter Tryd.func38, Tryd.ntmps38
 go_wp2
 first
  | go_region_held3 (fun w' => w'.cell? ⟨g, o + m * 5, none⟩ = some (.int .i64 xd) ∧ w'.cell? ⟨g, o + m * 5 + 1, none⟩ = some (.int .i64 xk) ∧ w'.cell? ⟨g, o + m * 5 + 2, none⟩ = some (.string xn) ∧ w'.cell? ⟨g, o + m * 5 + 3, none⟩ = some (.string xt) ∧ w'.cell? ⟨g, o + m * 5 + 4, none⟩ = some (.slice A4 xa.length c4)) (first | with_reducible exact K.out _ hbd | with_reducible exact K.out _ hX1 | (refine K.out _ ?_; repeat (first | with_reducible exact hX1 | with_reducible exact hbd | with_reducible exact Go.Proofs.YtdnbaliibiginaaDoorW.PrintWords.below_drew ((Below.refl w.heap.size w).alloc (Nat.le_refl _) _) | with_reducible exact (hbd.alloc hbd.size _) | with_reducible exact (hX1.alloc hX1.size _) | (refine below_set ?_ ?_; rotate_left; first | exact Nat.le_refl _ | exact hX1.size)))) ((go_at_call 49; go_loud ((refine (hkd.out _ (by first | exact hbd | exact hbd.alloc hbd.size _)).mono ?_); rintro e W1 ⟨v0, rfl, hR, hb1⟩; have hX1 : Below w.heap.size w W1 := (by first | exact hbd.trans (hb1.mono hbd.size) | exact (hbd.alloc hbd.size _).trans (hb1.mono (hbd.alloc hbd.size _).size)); first | (have hn1 := heap_below (w := (w.alloc _).drew) hn0 hb1; obtain ⟨⟨q0, q1, q2, q3, q4⟩, q5⟩ := five_facts hn1) | (have hn1 := new_cells W1 #[.int .i64 0, .int .i64 0, .string ⟨#[]⟩, .string ⟨#[]⟩, .slice none 0 0] 35; obtain ⟨⟨q0, q1, q2, q3, q4⟩, q5⟩ := five_facts hn1))))

 all_goals (
  first
   | (with_reducible have hF := alloc5all (w := w) hn1 hR hX1 (.int .i64 xd) (.int .i64 xk) (.string xn) (.string xt) (.slice A4 xa.length c4) _ rfl; revert hF; generalize World.alloc W1 _ = W5)
   | (have hF := put5all (w := w) hn1 hR hX1 (Nat.le_refl _) (.int .i64 xd) (.int .i64 xk) (.string xn) (.string xt) (.slice A4 xa.length c4) _ rfl; revert hF; generalize World.setCell _ _ _ = W5)
  rintro ⟨hP, hR5, hX5⟩
  clear hn1 q0 q1 q2 q3 q4 q5 hn0 p0 p1 p2 p3 p4 p5 hR hX1 hb1
  obtain ⟨⟨q0, q1, q2, q3, q4⟩, q5⟩ := five_facts hP
  obtain ⟨Ak, ck, rfl⟩ := Kd.R_slice hR5
  rcases ks with _ | ⟨k0, _ | ⟨k1, ks⟩⟩
  case cons.nil =>
   obtain ⟨gk, capk, hk, -, -, -⟩ := Kd.R_form hR5 (by simp)
   simp only [Value.slice.injEq, true_and] at hk
   obtain ⟨rfl, rfl⟩ := hk
   obtain ⟨zk, -⟩ := Kd.R_celln (0 : Int) hR5 0 (by simp) (by simp)
   replace zk : W5.cell? ⟨gk, 0, none⟩ = some (.int .i64 k0) := zk
   by_cases hk : v = false ∧ (rw || sf) = true
   case neg =>
    have y1 := zk
    have y3 := zk
    revert hk
    cases v <;> cases rw <;> cases sf <;> intro hk <;> first | exact absurd ⟨rfl, rfl⟩ hk | (
     obtain rfl := Option.some.inj hf
     go_wp2_with (first
     | (go_at_call 31; ((with_reducible refine (hvo.out _).mono ?_); rintro e W6 ⟨rfl, hb6⟩; replace hP := heap_below hP hb6; replace hX5 := hX5.trans (hb6.mono hX5.size); clear q0 q1 q2 q3 q4 q5; obtain ⟨⟨q0, q1, q2, q3, q4⟩, q5⟩ := five_facts hP; replace zk := cell_keep zk hb6; replace y1 := cell_keep y1 hb6; replace y3 := cell_keep y3 hb6))
     | (go_at_call 42; ((with_reducible refine (hra.out _).mono ?_); rintro e W6 ⟨rfl, hb6⟩; replace hP := heap_below hP hb6; replace hX5 := hX5.trans (hb6.mono hX5.size); clear q0 q1 q2 q3 q4 q5; obtain ⟨⟨q0, q1, q2, q3, q4⟩, q5⟩ := five_facts hP; replace zk := cell_keep zk hb6; replace y1 := cell_keep y1 hb6; replace y3 := cell_keep y3 hb6))
     | (go_at_call 67; ((with_reducible refine (hso.out _).mono ?_); rintro e W6 ⟨rfl, hb6⟩; replace hP := heap_below hP hb6; replace hX5 := hX5.trans (hb6.mono hX5.size); clear q0 q1 q2 q3 q4 q5; obtain ⟨⟨q0, q1, q2, q3, q4⟩, q5⟩ := five_facts hP; replace zk := cell_keep zk hb6; replace y1 := cell_keep y1 hb6; replace y3 := cell_keep y3 hb6)))
     go_ret
     exact ⟨rfl, hX5⟩)
   obtain ⟨rfl, hk⟩ := hk
   replace hf : wiOne xs k0 sf = some r := by rw [← hf]; revert hk; cases rw <;> cases sf <;> intro hk <;> first | rfl | exact absurd hk (by decide)
   unfold wiOne at hf
   by_cases hj : 0 ≤ k0 ∧ k0.toNat < xs.length
   case neg => rw [dif_neg hj] at hf; cases hf
   rw [dif_pos hj] at hf
   obtain ⟨j, rfl⟩ : ∃ j : Nat, k0 = j := ⟨k0.toNat, by omega⟩
   replace hj : j < xs.length := hj.2
   obtain ⟨g', o', A5, c5, he, -, y1, -, y3, -, -, -⟩ := row_at hr j hj
   cases he
   replace hf : (if xs[j].f1 = 1 then if sf then some true else (strings_Contains.f xs[j].f3 ⟨#[60, 47]⟩).bind fun c => if c then some false else (strings_HasSuffix.f xs[j].f3 ⟨#[60]⟩).bind fun h => some (!h) else some false) = some r := hf
   generalize xs[j] = y at y1 y3 hf
   obtain ⟨yd, yk, yn, yt, ya⟩ := y
   simp only at y1 y3 hf
   replace y1 := cell_keep y1 hX5
   replace y3 := cell_keep y3 hX5
   by_cases hy : yk = 1
   case neg =>
    rw [if_neg hy] at hf
    obtain rfl := Option.some.inj hf
    have e1 : (yk == 1) = false := beq_eq_false_iff_ne.mpr hy
    have e2 : (yk != 1) = true := bne_iff_ne.mpr hy
    have e3 : decide (yk = 1) = false := decide_eq_false hy
    revert hk
    cases rw <;> cases sf <;> intro hk <;> first | exact absurd hk (by decide) | (
     go_wp2_with (first
     | (go_at_call 31; ((with_reducible refine (hvo.out _).mono ?_); rintro e W6 ⟨rfl, hb6⟩; replace hP := heap_below hP hb6; replace hX5 := hX5.trans (hb6.mono hX5.size); clear q0 q1 q2 q3 q4 q5; obtain ⟨⟨q0, q1, q2, q3, q4⟩, q5⟩ := five_facts hP; replace zk := cell_keep zk hb6; replace y1 := cell_keep y1 hb6; replace y3 := cell_keep y3 hb6))
     | (go_at_call 42; ((with_reducible refine (hra.out _).mono ?_); rintro e W6 ⟨rfl, hb6⟩; replace hP := heap_below hP hb6; replace hX5 := hX5.trans (hb6.mono hX5.size); clear q0 q1 q2 q3 q4 q5; obtain ⟨⟨q0, q1, q2, q3, q4⟩, q5⟩ := five_facts hP; replace zk := cell_keep zk hb6; replace y1 := cell_keep y1 hb6; replace y3 := cell_keep y3 hb6))
     | (go_at_call 67; ((with_reducible refine (hso.out _).mono ?_); rintro e W6 ⟨rfl, hb6⟩; replace hP := heap_below hP hb6; replace hX5 := hX5.trans (hb6.mono hX5.size); clear q0 q1 q2 q3 q4 q5; obtain ⟨⟨q0, q1, q2, q3, q4⟩, q5⟩ := five_facts hP; replace zk := cell_keep zk hb6; replace y1 := cell_keep y1 hb6; replace y3 := cell_keep y3 hb6))
     | (go_at_call 61; ((with_reducible refine (hct.out _ hX5).mono ?_); rintro e W6 ⟨rfl, hb6⟩; replace hP := heap_below hP hb6; replace hX5 := hX5.trans (hb6.mono hX5.size); clear q0 q1 q2 q3 q4 q5; obtain ⟨⟨q0, q1, q2, q3, q4⟩, q5⟩ := five_facts hP; replace zk := cell_keep zk hb6; replace y1 := cell_keep y1 hb6; replace y3 := cell_keep y3 hb6))
     | (go_at_call 68; ((with_reducible refine (hsu.out _).mono ?_); rintro e W6 ⟨rfl, hb6⟩; replace hP := heap_below hP hb6; replace hX5 := hX5.trans (hb6.mono hX5.size); clear q0 q1 q2 q3 q4 q5; obtain ⟨⟨q0, q1, q2, q3, q4⟩, q5⟩ := five_facts hP; replace zk := cell_keep zk hb6; replace y1 := cell_keep y1 hb6; replace y3 := cell_keep y3 hb6)))
     go_ret
     exact ⟨rfl, hX5⟩)
   subst hy
   rw [if_pos rfl] at hf
   cases sf
   case true =>
    obtain rfl := Option.some.inj hf
    cases rw <;> (
     go_wp2_with (first
     | (go_at_call 31; ((with_reducible refine (hvo.out _).mono ?_); rintro e W6 ⟨rfl, hb6⟩; replace hP := heap_below hP hb6; replace hX5 := hX5.trans (hb6.mono hX5.size); clear q0 q1 q2 q3 q4 q5; obtain ⟨⟨q0, q1, q2, q3, q4⟩, q5⟩ := five_facts hP; replace zk := cell_keep zk hb6; replace y1 := cell_keep y1 hb6; replace y3 := cell_keep y3 hb6))
     | (go_at_call 42; ((with_reducible refine (hra.out _).mono ?_); rintro e W6 ⟨rfl, hb6⟩; replace hP := heap_below hP hb6; replace hX5 := hX5.trans (hb6.mono hX5.size); clear q0 q1 q2 q3 q4 q5; obtain ⟨⟨q0, q1, q2, q3, q4⟩, q5⟩ := five_facts hP; replace zk := cell_keep zk hb6; replace y1 := cell_keep y1 hb6; replace y3 := cell_keep y3 hb6))
     | (go_at_call 67; ((with_reducible refine (hso.out _).mono ?_); rintro e W6 ⟨rfl, hb6⟩; replace hP := heap_below hP hb6; replace hX5 := hX5.trans (hb6.mono hX5.size); clear q0 q1 q2 q3 q4 q5; obtain ⟨⟨q0, q1, q2, q3, q4⟩, q5⟩ := five_facts hP; replace zk := cell_keep zk hb6; replace y1 := cell_keep y1 hb6; replace y3 := cell_keep y3 hb6))
     | (go_at_call 61; ((with_reducible refine (hct.out _ hX5).mono ?_); rintro e W6 ⟨rfl, hb6⟩; replace hP := heap_below hP hb6; replace hX5 := hX5.trans (hb6.mono hX5.size); clear q0 q1 q2 q3 q4 q5; obtain ⟨⟨q0, q1, q2, q3, q4⟩, q5⟩ := five_facts hP; replace zk := cell_keep zk hb6; replace y1 := cell_keep y1 hb6; replace y3 := cell_keep y3 hb6))
     | (go_at_call 68; ((with_reducible refine (hsu.out _).mono ?_); rintro e W6 ⟨rfl, hb6⟩; replace hP := heap_below hP hb6; replace hX5 := hX5.trans (hb6.mono hX5.size); clear q0 q1 q2 q3 q4 q5; obtain ⟨⟨q0, q1, q2, q3, q4⟩, q5⟩ := five_facts hP; replace zk := cell_keep zk hb6; replace y1 := cell_keep y1 hb6; replace y3 := cell_keep y3 hb6)))
     go_ret
     exact ⟨rfl, hX5⟩)
   obtain rfl : rw = true := by revert hk; cases rw <;> intro hk <;> first | rfl | exact absurd hk (by decide)
   rw [if_neg (by decide)] at hf
   obtain ⟨b1, h1, hf⟩ := Option.bind_eq_some_iff.1 hf
   have hct := Lib.hid (fun (W : World) (h : Below w.heap.size w W) => strings_Contains.calls yt ⟨#[60, 47]⟩ b1 W h1 (hS.below h))
   cases b1
   case true =>
    obtain rfl := Option.some.inj hf
    go_wp2_with (first
     | (go_at_call 31; ((with_reducible refine (hvo.out _).mono ?_); rintro e W6 ⟨rfl, hb6⟩; replace hP := heap_below hP hb6; replace hX5 := hX5.trans (hb6.mono hX5.size); clear q0 q1 q2 q3 q4 q5; obtain ⟨⟨q0, q1, q2, q3, q4⟩, q5⟩ := five_facts hP; replace zk := cell_keep zk hb6; replace y1 := cell_keep y1 hb6; replace y3 := cell_keep y3 hb6))
     | (go_at_call 42; ((with_reducible refine (hra.out _).mono ?_); rintro e W6 ⟨rfl, hb6⟩; replace hP := heap_below hP hb6; replace hX5 := hX5.trans (hb6.mono hX5.size); clear q0 q1 q2 q3 q4 q5; obtain ⟨⟨q0, q1, q2, q3, q4⟩, q5⟩ := five_facts hP; replace zk := cell_keep zk hb6; replace y1 := cell_keep y1 hb6; replace y3 := cell_keep y3 hb6))
     | (go_at_call 67; ((with_reducible refine (hso.out _).mono ?_); rintro e W6 ⟨rfl, hb6⟩; replace hP := heap_below hP hb6; replace hX5 := hX5.trans (hb6.mono hX5.size); clear q0 q1 q2 q3 q4 q5; obtain ⟨⟨q0, q1, q2, q3, q4⟩, q5⟩ := five_facts hP; replace zk := cell_keep zk hb6; replace y1 := cell_keep y1 hb6; replace y3 := cell_keep y3 hb6))
     | (go_at_call 61; ((with_reducible refine (hct.out _ hX5).mono ?_); rintro e W6 ⟨rfl, hb6⟩; replace hP := heap_below hP hb6; replace hX5 := hX5.trans (hb6.mono hX5.size); clear q0 q1 q2 q3 q4 q5; obtain ⟨⟨q0, q1, q2, q3, q4⟩, q5⟩ := five_facts hP; replace zk := cell_keep zk hb6; replace y1 := cell_keep y1 hb6; replace y3 := cell_keep y3 hb6))
     | (go_at_call 68; ((with_reducible refine (hsu.out _).mono ?_); rintro e W6 ⟨rfl, hb6⟩; replace hP := heap_below hP hb6; replace hX5 := hX5.trans (hb6.mono hX5.size); clear q0 q1 q2 q3 q4 q5; obtain ⟨⟨q0, q1, q2, q3, q4⟩, q5⟩ := five_facts hP; replace zk := cell_keep zk hb6; replace y1 := cell_keep y1 hb6; replace y3 := cell_keep y3 hb6)))
    go_ret
    exact ⟨rfl, hX5⟩
   rw [if_neg (by decide)] at hf
   obtain ⟨b2, h2, hf⟩ := Option.bind_eq_some_iff.1 hf
   obtain rfl := Option.some.inj hf
   have hsu := Lib.hid (fun (W : World) => strings_HasSuffix.calls yt ⟨#[60]⟩ b2 W h2)
   cases b2 <;> (
    go_wp2_with (first
     | (go_at_call 31; ((with_reducible refine (hvo.out _).mono ?_); rintro e W6 ⟨rfl, hb6⟩; replace hP := heap_below hP hb6; replace hX5 := hX5.trans (hb6.mono hX5.size); clear q0 q1 q2 q3 q4 q5; obtain ⟨⟨q0, q1, q2, q3, q4⟩, q5⟩ := five_facts hP; replace zk := cell_keep zk hb6; replace y1 := cell_keep y1 hb6; replace y3 := cell_keep y3 hb6))
     | (go_at_call 42; ((with_reducible refine (hra.out _).mono ?_); rintro e W6 ⟨rfl, hb6⟩; replace hP := heap_below hP hb6; replace hX5 := hX5.trans (hb6.mono hX5.size); clear q0 q1 q2 q3 q4 q5; obtain ⟨⟨q0, q1, q2, q3, q4⟩, q5⟩ := five_facts hP; replace zk := cell_keep zk hb6; replace y1 := cell_keep y1 hb6; replace y3 := cell_keep y3 hb6))
     | (go_at_call 67; ((with_reducible refine (hso.out _).mono ?_); rintro e W6 ⟨rfl, hb6⟩; replace hP := heap_below hP hb6; replace hX5 := hX5.trans (hb6.mono hX5.size); clear q0 q1 q2 q3 q4 q5; obtain ⟨⟨q0, q1, q2, q3, q4⟩, q5⟩ := five_facts hP; replace zk := cell_keep zk hb6; replace y1 := cell_keep y1 hb6; replace y3 := cell_keep y3 hb6))
     | (go_at_call 61; ((with_reducible refine (hct.out _ hX5).mono ?_); rintro e W6 ⟨rfl, hb6⟩; replace hP := heap_below hP hb6; replace hX5 := hX5.trans (hb6.mono hX5.size); clear q0 q1 q2 q3 q4 q5; obtain ⟨⟨q0, q1, q2, q3, q4⟩, q5⟩ := five_facts hP; replace zk := cell_keep zk hb6; replace y1 := cell_keep y1 hb6; replace y3 := cell_keep y3 hb6))
     | (go_at_call 68; ((with_reducible refine (hsu.out _).mono ?_); rintro e W6 ⟨rfl, hb6⟩; replace hP := heap_below hP hb6; replace hX5 := hX5.trans (hb6.mono hX5.size); clear q0 q1 q2 q3 q4 q5; obtain ⟨⟨q0, q1, q2, q3, q4⟩, q5⟩ := five_facts hP; replace zk := cell_keep zk hb6; replace y1 := cell_keep y1 hb6; replace y3 := cell_keep y3 hb6)))
    go_ret
    exact ⟨rfl, hX5⟩)
  all_goals (
   try have hg1 : decide ((1 : Int) < ↑ks.length + 1 + 1) = true := decide_eq_true (by omega)
   try have hg2 : ((1 : Int) < ↑ks.length + 1 + 1) = True := eq_true (by omega)
   cases v <;> cases rw <;> cases sf <;> (
    obtain rfl := Option.some.inj hf
    go_wp2_with (first
    | (go_at_call 31; ((with_reducible refine (hvo.out _).mono ?_); rintro e W6 ⟨rfl, hb6⟩; replace hP := heap_below hP hb6; replace hX5 := hX5.trans (hb6.mono hX5.size); clear q0 q1 q2 q3 q4 q5; obtain ⟨⟨q0, q1, q2, q3, q4⟩, q5⟩ := five_facts hP; (try (replace zk := cell_keep zk hb6; replace y1 := cell_keep y1 hb6; replace y3 := cell_keep y3 hb6))))
    | (go_at_call 42; ((with_reducible refine (hra.out _).mono ?_); rintro e W6 ⟨rfl, hb6⟩; replace hP := heap_below hP hb6; replace hX5 := hX5.trans (hb6.mono hX5.size); clear q0 q1 q2 q3 q4 q5; obtain ⟨⟨q0, q1, q2, q3, q4⟩, q5⟩ := five_facts hP; (try (replace zk := cell_keep zk hb6; replace y1 := cell_keep y1 hb6; replace y3 := cell_keep y3 hb6))))
    | (go_at_call 67; ((with_reducible refine (hso.out _).mono ?_); rintro e W6 ⟨rfl, hb6⟩; replace hP := heap_below hP hb6; replace hX5 := hX5.trans (hb6.mono hX5.size); clear q0 q1 q2 q3 q4 q5; obtain ⟨⟨q0, q1, q2, q3, q4⟩, q5⟩ := five_facts hP; (try (replace zk := cell_keep zk hb6; replace y1 := cell_keep y1 hb6; replace y3 := cell_keep y3 hb6))))
    | (go_at_call 61; ((with_reducible refine (hct.out _ hX5).mono ?_); rintro e W6 ⟨rfl, hb6⟩; replace hP := heap_below hP hb6; replace hX5 := hX5.trans (hb6.mono hX5.size); clear q0 q1 q2 q3 q4 q5; obtain ⟨⟨q0, q1, q2, q3, q4⟩, q5⟩ := five_facts hP; (try (replace zk := cell_keep zk hb6; replace y1 := cell_keep y1 hb6; replace y3 := cell_keep y3 hb6))))
    | (go_at_call 68; ((with_reducible refine (hsu.out _).mono ?_); rintro e W6 ⟨rfl, hb6⟩; replace hP := heap_below hP hb6; replace hX5 := hX5.trans (hb6.mono hX5.size); clear q0 q1 q2 q3 q4 q5; obtain ⟨⟨q0, q1, q2, q3, q4⟩, q5⟩ := five_facts hP; (try (replace zk := cell_keep zk hb6; replace y1 := cell_keep y1 hb6; replace y3 := cell_keep y3 hb6)))))
    go_ret
    exact ⟨rfl, hX5⟩)))
theorem write_within.calls (A : Option Addr) (c : Nat) (xs : List Rw) (i : Int) (r : Bool) (w : World) (hr : k35.C w A xs.length xs) (hcap : xs.length ≤ c) (h : write_within.f xs i = some r) (hS : Std8 w) :
  Calls Tryd.prog 38 #[.slice A xs.length c, .int .i64 i] w fun e w' => e = .returned (.bool r) ∧ Below w.heap.size w w' := by
 unfold write_within.f at h
 by_cases hi : 0 ≤ i ∧ i.toNat < xs.length
 ·rw [dif_pos hi] at h
  obtain ⟨ks, h1, e1⟩ := Option.bind_eq_some_iff.1 h
  obtain ⟨v, h2, e2⟩ := Option.bind_eq_some_iff.1 e1
  obtain ⟨rw0, h3, e3⟩ := Option.bind_eq_some_iff.1 e2
  obtain ⟨sf, h4, e4⟩ := Option.bind_eq_some_iff.1 e3
  obtain ⟨m, rfl⟩ : ∃ m : Nat, i = m := ⟨i.toNat, by omega⟩
  exact wi_calls A c xs hcap m hi.2 ks h1 v rw0 sf r h2 h3 h4 e4 w hr hS
 ·rw [dif_neg hi] at h
  cases h
end Go.Proofs.YtdnbaliibiginaaDoorH.W8

/- Contracts of package names: among, Raw, Soft. Nothing that lay in memory turns. -/
namespace Go.Proofs.YtdnbaliibiginaaDoor
open Go.RowKit Go.Proofs
end Go.Proofs.YtdnbaliibiginaaDoor

/- Contracts of token's scanner: until, isDoctype. What lay below the scanner's own blocks does not turn. -/
namespace Go.Proofs.YtdnbaliibiginaaDoor
open Go.RowKit Go.Proofs
def Env (w : World) (base : Nat) : Prop := ∃ w0, Std w0 ∧ w0.heap.size = base ∧ Below base w0 w
theorem Env.below {w w' : World} {base : Nat} (h : Env w base) (hb : Below base w w') : Env w' base := by
 obtain ⟨w0, h1, h2, h3⟩ := h
 exact ⟨w0, h1, h2, h3.trans hb⟩
theorem Env.le {w : World} {base : Nat} (h : Env w base) : base ≤ w.heap.size := by
 obtain ⟨w0, h1, rfl, h3⟩ := h
 exact h3.size
end Go.Proofs.YtdnbaliibiginaaDoor

/- Contract of token's scanner: tell: the text that was gone over becomes a token. What lay below the scanner's own blocks does not turn. -/
namespace Go.Proofs.YtdnbaliibiginaaDoor
open Go.RowKit Go.Proofs
theorem Toks.len {w : World} {base : Nat} {v : Value} {l : List Tok} (h : Toks w base v l) : ∃ a c, v = .slice a l.length c := by
 obtain ⟨ps, h1, h2, h3⟩ := h
 rcases h2.2 with ⟨rfl, h0⟩ | ⟨g, cap, cur, rfl, _⟩
 ·exact ⟨none, 0, by rw [h0]⟩
 ·exact ⟨_, _, rfl⟩
theorem Toks.alloc {w : World} {base : Nat} {v : Value} {l : List Tok} (h : Toks w base v l) (o : Obj) : Toks (w.alloc o) base v l := h.below ((Below.refl _ _).alloc (Nat.le_refl _) o)
end Go.Proofs.YtdnbaliibiginaaDoor

/- Contract of token's scanner: note: a comment or a doctype. What lay below the scanner's own blocks does not turn. -/
namespace Go.Proofs.YtdnbaliibiginaaDoor
open Go.RowKit Go.Proofs
end Go.Proofs.YtdnbaliibiginaaDoor

/- Contract of token's scanner: comment: one that begins as it should. What lay below the scanner's own blocks does not turn. -/
namespace Go.Proofs.YtdnbaliibiginaaDoor
open Go.RowKit Go.Proofs
end Go.Proofs.YtdnbaliibiginaaDoor

/- Plain: TokenEnds, TokenRaw, TokenComments: what the cut makes of texts of these shapes. No program in sight. -/
namespace Go.Proofs.YtdnbaliibiginaaDoor
open Go.Proofs
def quietB : Txt → Bool
 | [] => true
 | [c] => c != 60
 | c :: d :: r => !(c == 60 && d == 47) && quietB (d :: r)
end Go.Proofs.YtdnbaliibiginaaDoor

/- Plain: tokens, written; TokenBack: a start tag whose names may be, written, is cut as it was. No program in sight. -/
namespace Go.Proofs.YtdnbaliibiginaaDoor
open Go.Proofs
def attrsW (l : List (Txt × Txt)) : Txt := l.flatMap fun a => 32 :: (a.1 ++ 61 :: 34 :: (wrL true a.2 ++ [34]))
def selfW (b : Bool) : Txt := if b then [32, 47] else []
def taggedW (o : Txt) (t : Tok) : Txt := o ++ t.name ++ attrsW t.attrs ++ selfW t.self ++ [62]
def tokW (raw : Bool) (t : Tok) : Txt :=
 if t.kind = 0 then (if raw then t.data else wrL false t.data)
 else if t.kind = 1 then taggedW [60] t
 else if t.kind = 2 then taggedW [60, 47] ⟨0, t.name, [], [], false⟩
 else if t.kind = 3 then [60, 33, 45, 45] ++ t.data ++ [45, 45, 62]
 else if t.kind = 4 then [60, 33, 100, 111, 99, 116, 121, 112, 101, 32] ++ t.data ++ [62]
 else []
def rawT (t : Tok) : Bool := t.kind == 1 && rawB t.name
def writeN (raw : Bool) : List Tok → Txt
 | [] => []
 | t :: r => tokW raw t ++ writeN (rawT t) r
def writeL (l : List Tok) : Txt := writeN false l
structure AttrName (s : Txt) : Prop where
 ne : s ≠ []
 low : lowL s = s
 first : ∀ c r, s = c :: r → spaceB c = false ∧ c ≠ 47 ∧ c ≠ 62
 rest : ∀ x ∈ s.tail, slashedB x = false ∧ x ≠ 61
structure TagName (s : Txt) : Prop where
 low : lowL s = s
 letter : letterL s = true
 all : ∀ x ∈ s, slashedB x = false
def plainB (s but : Txt) : Bool := s.all (fun c => !(spaceB c || (decide (65 ≤ c.toNat) && decide (c.toNat ≤ 90)) || c == 0 || but.contains c)) && !s.isEmpty
def rightB (s : Txt) : Bool := plainB s [47, 62] && letterL s
def attrB (s : Txt) : Bool := plainB s [47, 62, 34, 39, 60, 61]
end Go.Proofs.YtdnbaliibiginaaDoor

/- Plain: TokenShapes: each token of any bytes has what its kind has, and nothing else. No program in sight. -/
namespace Go.Proofs.YtdnbaliibiginaaDoor
open Go.Proofs
def okB (c : UInt8) : Bool := !((decide (65 ≤ c.toNat) && decide (c.toNat ≤ 90)) || c == 32 || c == 9 || c == 10 || c == 12 || c == 13 || c == 62)
def lowerOK (s : Txt) : Bool := s.all okB
structure NameOK (s : Txt) : Prop where
 ne : s ≠ []
 ok : lowerOK s = true
structure AttrsOK (l : List (Txt × Txt)) : Prop where
 each : ∀ a ∈ l, NameOK a.1
 once : (l.map Prod.fst).Nodup
structure ShapeOK (t : Tok) : Prop where
 ge : 0 ≤ t.kind
 le : t.kind ≤ 4
 tag : t.kind = 1 ∨ t.kind = 2 → NameOK t.name ∧ t.data = []
 other : t.kind ≠ 1 → t.kind ≠ 2 → t.name = []
 start : t.kind ≠ 1 → t.attrs = [] ∧ t.self = false
 text : t.kind = 0 → t.data ≠ []
 attrs : AttrsOK t.attrs
end Go.Proofs.YtdnbaliibiginaaDoor

/- Plain: TokenComments: a comment's text without > comes back; a doctype's is no longer than it was. No program in sight. -/
namespace Go.Proofs.YtdnbaliibiginaaDoor
open Go.Proofs
end Go.Proofs.YtdnbaliibiginaaDoor

/- Plain: TokenAgain, first part: what the tokens of any bytes are like. No program in sight. -/
namespace Go.Proofs.YtdnbaliibiginaaDoor
open Go.Proofs
structure NoteOK (d : Txt) : Prop where
 no1 : ∀ j, Lib.occAt d [45, 45, 62] j = false
 no2 : ∀ j, Lib.occAt d [45, 45, 33, 62] j = false
 gt : Lib.hasPrefix d [62] = false
 arrow : Lib.hasPrefix d [45, 62] = false
structure DocOK (d : Txt) : Prop where
 no : (62 : UInt8) ∉ d
 trim : trimL (32 :: d) = d
structure StartOK (nm : Txt) (l : List (Txt × Txt)) : Prop where
 name : TagName nm
 attrs : ∀ a ∈ l, AttrName a.1
 once : (l.map Prod.fst).Nodup
def Closed (nm : Txt) (r : List Tok) : Prop := r = [] ∨ ∃ q, r = ⟨2, nm, [], [], false⟩ :: q
def RawOK (nm d : Txt) : Prop := ∀ j, j < d.length → closesB nm (d.drop j) = false
inductive Good : List Tok → Prop
 | nil : Good []
 | text {d : Txt} {r : List Tok} : d ≠ [] → Good r → Good (⟨0, [], [], d, false⟩ :: r)
 | start {nm : Txt} {l : List (Txt × Txt)} {b : Bool} {r : List Tok} : StartOK nm l → (rawB nm || softB nm) = false → Good r → Good (⟨1, nm, l, [], b⟩ :: r)
 | shut {nm : Txt} {l : List (Txt × Txt)} {b : Bool} {r : List Tok} : StartOK nm l → (rawB nm || softB nm) = true → Closed nm r → Good r → Good (⟨1, nm, l, [], b⟩ :: r)
 | full {nm : Txt} {l : List (Txt × Txt)} {b : Bool} {d : Txt} {r : List Tok} : StartOK nm l → (rawB nm || softB nm) = true → d ≠ [] → (rawB nm = true → RawOK nm d) → Closed nm r → Good r → Good (⟨1, nm, l, [], b⟩ :: ⟨0, [], [], d, false⟩ :: r)
 | shuts {nm : Txt} {r : List Tok} : TagName nm → Good r → Good (⟨2, nm, [], [], false⟩ :: r)
 | note {d : Txt} {r : List Tok} : NoteOK d → Good r → Good (⟨3, [], [], d, false⟩ :: r)
 | doct {d : Txt} {r : List Tok} : DocOK d → Good r → Good (⟨4, [], [], d, false⟩ :: r)
end Go.Proofs.YtdnbaliibiginaaDoor

/- Contract of token's scanner: inside: the text within an element that has text alone. What lay below the scanner's own blocks does not turn. -/
namespace Go.Proofs.YtdnbaliibiginaaDoor
open Go.RowKit Go.Proofs
end Go.Proofs.YtdnbaliibiginaaDoor

/- Contract of token's scanner: tag: a tag, whose letter stands at a place. What lay below the scanner's own blocks does not turn. -/
namespace Go.Proofs.YtdnbaliibiginaaDoor
open Go.RowKit Go.Proofs
theorem Atts.mono {w : World} {base base' : Nat} {v : Value} {l : List (Txt × Txt)} (h : Atts w base' v l) (hb : base ≤ base') : Atts w base v l := by
 obtain ⟨h1, h2⟩ := h
 refine ⟨h1, ?_⟩
 rcases h2 with h2 | ⟨g, cap, cur, e1, e2, e3⟩
 ·exact .inl h2
 ·exact .inr ⟨g, cap, cur, e1, Nat.le_trans hb e2, e3⟩
theorem Atts.set {w : World} {base b j : Nat} {v x : Value} {l : List (Txt × Txt)} {cur : Array Value} {e' : TypeId} {fz : Nat × Nat} (h : Atts w base v l) (hb : w.heap[b]? = some (.cells cur e' fz)) (hne : e' ≠ 45) : Atts (w.setCell ⟨b, j, none⟩ x) base v l := own_other h (grown_set w ⟨b, j, none⟩ x) hb hne
structure TagLay (w2 W : World) (base b tb : Nat) (r : Txt) (v1 : Value) (l1 : List Tok) (k : Int) (nm : Txt) (va : Value) (at0 : List (Txt × Txt)) (sf : Bool) : Prop where
 hb : W.heap[b]? = some (.cells #[.string ⟨r.toArray⟩, .string ⟨#[]⟩, v1] 80 (0, 0))
 ht : W.heap[tb]? = some (.cells #[.int .i64 k, .string ⟨nm.toArray⟩, .string ⟨#[]⟩, va, .bool sf] 56 (0, 0))
 toks : Toks W base v1 l1
 atts : Atts W base va at0
 below : Below base w2 W
 ne : v1.ownBlock ≠ some tb
end Go.Proofs.YtdnbaliibiginaaDoor

/- Contracts of token's scanner: tag, opens: what begins with a < . What lay below the scanner's own blocks does not turn. -/
namespace Go.Proofs.YtdnbaliibiginaaDoor
open Go.RowKit Go.Proofs
def OpenPost (o : Option (List Tok × Txt)) (w' : World) (base b : Nat) (s t : Txt) (l : List Tok) : Prop :=
 match o with
 | none => Sc w' base b s (t ++ [60]) l
 | some (ts, r) => Sc w' base b r [] ((l ++ tellF t) ++ ts)
end Go.Proofs.YtdnbaliibiginaaDoor

/- Contracts of token's scanner: all; of Cut and In. What lay in memory does not turn. -/
namespace Go.Proofs.YtdnbaliibiginaaDoor
open Go.RowKit Go.Proofs
end Go.Proofs.YtdnbaliibiginaaDoor

/- Contracts of token.Cut and In: the tokens lie in blocks that the call made. What lay in memory does not turn. -/
namespace Go.Proofs.YtdnbaliibiginaaDoor
open Go.RowKit Go.Proofs
end Go.Proofs.YtdnbaliibiginaaDoor

/- Rows of tokens that can be read; contract of the reference's Same: the same tokens are the same. Nothing that lay in memory turns. -/
namespace Go.Proofs.YtdnbaliibiginaaDoor
open Go.RowKit Go.Proofs
def RdA (w : World) (va : Value) (l : List (Txt × Txt)) : Prop :=
 ∃ ad cp, va = .slice ad l.length cp ∧ ∀ i (hi : i < l.length), ∃ g o, ad = some ⟨g, o, none⟩ ∧ w.cell? ⟨g, o + i * 2, none⟩ = some (.string ⟨l[i].1.toArray⟩) ∧ w.cell? ⟨g, o + i * 2 + 1, none⟩ = some (.string ⟨l[i].2.toArray⟩)
def RdT (w : World) (v : Value) (l : List Tok) : Prop :=
 ∃ ad cp, v = .slice ad l.length cp ∧ ∀ i (hi : i < l.length), ∃ g o va, ad = some ⟨g, o, none⟩ ∧ w.cell? ⟨g, o + i * 5, none⟩ = some (.int .i64 l[i].kind) ∧ w.cell? ⟨g, o + i * 5 + 1, none⟩ = some (.string ⟨l[i].name.toArray⟩) ∧ w.cell? ⟨g, o + i * 5 + 2, none⟩ = some (.string ⟨l[i].data.toArray⟩) ∧ w.cell? ⟨g, o + i * 5 + 3, none⟩ = some va ∧ w.cell? ⟨g, o + i * 5 + 4, none⟩ = some (.bool l[i].self) ∧ RdA w va l[i].attrs
theorem RdA.below {w w' : World} {va : Value} {l : List (Txt × Txt)} (h : RdA w va l) (hb : Below w.heap.size w w') : RdA w' va l := by
 obtain ⟨ad, cp, h1, h2⟩ := h
 refine ⟨ad, cp, h1, fun i hi => ?_⟩
 obtain ⟨g, o, h3, h4, h5⟩ := h2 i hi
 exact ⟨g, o, h3, cell_keep h4 hb, cell_keep h5 hb⟩
theorem RdT.below {w w' : World} {v : Value} {l : List Tok} (h : RdT w v l) (hb : Below w.heap.size w w') : RdT w' v l := by
 obtain ⟨ad, cp, h1, h2⟩ := h
 refine ⟨ad, cp, h1, fun i hi => ?_⟩
 obtain ⟨g, o, va, h3, h4, h5, h6, h7, h8, h9⟩ := h2 i hi
 exact ⟨g, o, va, h3, cell_keep h4 hb, cell_keep h5 hb, cell_keep h6 hb, cell_keep h7 hb, cell_keep h8 hb, h9.below hb⟩
theorem Atts.rd {w : World} {base : Nat} {va : Value} {l : List (Txt × Txt)} (h : Atts w base va l) : RdA w va l := by
 obtain ⟨ad, cp, rfl⟩ := h.len
 refine ⟨ad, cp, rfl, fun i hi => ?_⟩
 obtain ⟨g, cap, e, h2, h3, h4, h5⟩ := h.at hi
 simp only [Value.slice.injEq] at e
 exact ⟨g, 0, e.1, by rw [Nat.zero_add]; exact h4, by rw [Nat.zero_add]; exact h5⟩
theorem Toks.rd {w : World} {base : Nat} {v : Value} {l : List Tok} (h : Toks w base v l) : RdT w v l := by
 obtain ⟨ad, cp, rfl⟩ := h.len
 refine ⟨ad, cp, rfl, fun i hi => ?_⟩
 obtain ⟨ps, k1, k2, k3⟩ := h
 subst k1
 rw [List.length_map] at hi k2
 rcases k2.2 with ⟨e, h0⟩ | ⟨g, cap, cur, e, hg, hh, hn, hc, hs, ht⟩
 ·omega
 ·simp only [Value.slice.injEq] at e
  have key : ∀ j, j < 5 → w.cell? ⟨g, i * 5 + j, none⟩ = (ps.flatMap fun p => tokV p.1 p.2)[i * 5 + j]? := by
   intro j hj
   rw [Lib.cell_of_heap hh, ← Array.getElem?_toList, ← ht, List.getElem?_take, if_pos (by omega)]
  have hv : ∀ (l : List (Tok × Value)) (i : Nat) (hi : i < l.length) (j : Nat), j < 5 → (l.flatMap fun p => tokV p.1 p.2)[i * 5 + j]? = (tokV l[i].1 l[i].2)[j]? := by
   intro l
   induction l with
   | nil => intro i hi; simp at hi
   | cons a l ih =>
    intro i hi j hj
    have hlen : (tokV a.1 a.2).length = 5 := rfl
    cases i with
    | zero =>
     rw [List.flatMap_cons, List.getElem?_append_left (by omega), Nat.zero_mul, Nat.zero_add]
     rfl
    | succ i =>
     have := ih i (by simpa using hi) j hj
     rw [show (i + 1) * 5 + j = 5 + (i * 5 + j) from by omega, List.flatMap_cons, List.getElem?_append_right (by omega), hlen, Nat.add_sub_cancel_left, this]
     rfl
  have hk := fun j hj => (key j hj).trans (hv ps i hi j hj)
  have h0 := hk 0 (by omega)
  have h1 := hk 1 (by omega)
  have h2 := hk 2 (by omega)
  have h3 := hk 3 (by omega)
  have h4 := hk 4 (by omega)
  rw [List.getElem_map]
  refine ⟨g, 0, ps[i].2, by rw [← e.1], ?_, ?_, ?_, ?_, ?_, (k3 _ (List.getElem_mem hi)).rd⟩ <;> rw [Nat.zero_add]
  ·exact h0
  ·exact h1
  ·exact h2
  ·exact h3
  ·exact h4
theorem cell_al {w : World} {a : Addr} {v : Value} (h : w.cell? a = some v) : ∀ o, (w.alloc o).cell? a = some v := fun o => cell_keep h ((Below.refl _ w).alloc (Nat.le_refl _) o)
end Go.Proofs.YtdnbaliibiginaaDoor

/- Words and walks used below. -/
namespace Go.Proofs.YtdnbaliibiginaaDoorH.W8
open Go.RowKit Go.Proofs.YtdnbaliibiginaaDoorW.PrintWords Go.Proofs.YtdnbaliibiginaaDoorW.PrintLast Go.Proofs.YtdnbaliibiginaaDoorW.PrintMore
attribute [local go_sem] max2_int min2_int max_two min_two max_three min_three max_four min_four   -- for this text's walks alone
theorem eqA45 (d : Nat) (w : World) (x0 y0 : ByteArray) (x1 y1 : ByteArray) :
  (Op.equalIn (d + 2) 45 (.agg #[.string x0, .string x1]) (.agg #[.string y0, .string y1])).run Tryd.prog w = .ok (x0.toList == y0.toList && (x1.toList == y1.toList)) w := by
 refine eqA_of Tryd.underlying45 (by kernel_rfl) ?_
 refine eqf_cons (by rfl) (by go_simp; rfl) (by go_simp; rfl) (by go_simp) ?_
 exact eqf_last (by rfl) (by go_simp; rfl) (by go_simp; rfl) (by go_simp)
end Go.Proofs.YtdnbaliibiginaaDoorH.W8
