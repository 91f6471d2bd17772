/- Lemmas and walks, part 18: QE8J. -/
import Derived.Deep.RegionHeld3
import Derived.Test.YtdnbaliibiginaaDoorV13
import Derived.Test.YtdnbaliibiginaaDoorV8
import Derived.Test.YtdnbaliibiginaaDoorV11
import Derived.Test.YtdnbaliibiginaaDoorV12
set_option linter.unusedVariables false
set_option linter.unusedSimpArgs false

/- Contract of the document's Within: what a node has, written. Nothing that lay in memory turns. -/
namespace Go.Proofs.YtdnbaliibiginaaDoorH.W8
open Go.RowKit Go.Proofs Go.Proofs.YtdnbaliibiginaaDoor Go.Proofs.YtdnbaliibiginaaDoorW.PrintWords Go.Proofs.YtdnbaliibiginaaDoorW.PrintLast Go.Proofs.YtdnbaliibiginaaDoorW.PrintMore
open Go.Proofs.YtdnbaliibiginaaDoorW.PrintLast (i64_w i32_w)
def loopB (f : Int → Option ByteArray) : ByteArray → List Int → Option ByteArray
 | acc, [] => some acc
 | acc, j :: js => (f j).bind fun t => if acc.size + t.size ≤ 9223372036854775807 then loopB f (acc ++ t) js else none
def nodeB (xs : List Rw) (raw : Bool) (again : Int → Option ByteArray) (j : Int) : Option ByteArray :=
 if 0 ≤ j ∧ j < (xs.length : Int) then
  if (rd_T35 xs j).f1 = 1 then (if raw then some (rd_T35 xs j).f3 else boltingref03_Write.f (rd_T35 xs j).f3 false)
  else if (rd_T35 xs j).f1 = 2 then (if (rd_T35 xs j).f3.size ≤ 1000000000000 then some (((⟨#[60, 33, 45, 45]⟩ : ByteArray) ++ (rd_T35 xs j).f3) ++ (⟨#[45, 45, 62]⟩ : ByteArray)) else none)
  else (boltingref05_Void.f).bind fun vs => (boltingref02_Has.f 100 vs (rd_T35 xs j).f2).bind fun v =>
   (boltingref08_tag.f ((rd_T35 xs j).f4.length + 1) (rd_T35 xs j).f0 (rd_T35 xs j).f1 (rd_T35 xs j).f2 (rd_T35 xs j).f3 (rd_T35 xs j).f4).bind fun t =>
    if v then some t else (again j).bind fun u => if t.size + u.size + (rd_T35 xs j).f2.size ≤ 1000000000000 then some ((((t ++ u) ++ (⟨#[60, 47]⟩ : ByteArray)) ++ (rd_T35 xs j).f2) ++ (⟨#[62]⟩ : ByteArray)) else none
 else none
def rawW (xs : List Rw) (i : Int) : Option Bool := if 0 ≤ i then (if i < (xs.length : Int) then (boltingref05_Raw.f).bind fun rs => boltingref02_Has.f 100 rs (rd_T35 xs i).f2 else none) else if i = -1 then some false else none
def withN (xs : List Rw) : Nat → Int → Option ByteArray
 | 0, _ => none
 | d + 1, i => (boltingref04_Kids.f xs i).bind fun ks => (rawW xs i).bind fun raw => loopB (nodeB xs raw (withN xs d)) ⟨#[]⟩ ks
def boltingref08_Within.f (l0 : List Rw) (a1 : Int) : Option ByteArray := withN l0 (l0.length + 1) a1
theorem loopB_cons {f : Int → Option ByteArray} {acc r : ByteArray} {j : Int} {js : List Int} (h : loopB f acc (j :: js) = some r) : ∃ t, f j = some t ∧ acc.size + t.size ≤ 9223372036854775807 ∧ loopB f (acc ++ t) js = some r := by
 simp only [loopB] at h
 obtain ⟨t, ht, h⟩ := Option.bind_eq_some_iff.1 h
 split at h
 ·exact ⟨t, ht, by assumption, h⟩
 ·cases h
def WithC (A : Option Addr) (c : Nat) (xs : List Rw) (w0 : World) (f : Int → Option ByteArray) : Prop := ∀ (j : Int) (r : ByteArray) (W : World), Below w0.heap.size w0 W → f j = some r →
 Calls Tryd.prog 11 #[.slice A xs.length c, .int .i64 j] W fun e w' => e = .returned (.string r) ∧ Below W.heap.size W w'
def wi_T3 : Bool × List (List Nat × List Nat) := (true, [([], []), ([0], [0]), ([1], [1]), ([2, 2], [2]), ([2], [2]), ([2], [2]), ([4, 5, 2], [2, 4, 5]), ([6, 2], [2, 6]), ([7, 2], [2, 7]), ([3, 8, 3, 2], [2, 3, 8]), ([2, 9], [2, 9]), ([10, 9, 0, 1, 2, 3, 4, 5, 6, 7, 8, 9, 10], [10])])
def wi_B3 : List Nat := [0, 1, 3, 7, 7, 7, 55, 119, 247, 511, 1023, 2047]
theorem wi_tab3 : rtab .any (opsOf Tryd.f11 3) = wi_T3 := by kernel_rfl
theorem wi_bits3 : waitsOk wi_T3.2 wi_B3 = true := by kernel_rfl
set_option maxHeartbeats 1600000 in
set_option maxRecDepth 100000 in
theorem with_step (A : Option Addr) (c : Nat) (xs : List Rw) (hcap : xs.length ≤ c) (w0 : World) (hr : k35.C w0 A xs.length xs) (f : Int → Option ByteArray) (hf : WithC A c xs w0 f) (i : Int) (ks : List Int) (hks : boltingref04_Kids.f xs i = some ks) (raw : Bool) (hraw : rawW xs i = some raw) (r : ByteArray) (hl : loopB (nodeB xs raw f) ⟨#[]⟩ ks = some r) (w : World) (hw : Below w0.heap.size w0 w) :
  Calls Tryd.prog 11 #[.slice A xs.length c, .int .i64 i] w fun e w' => e = .returned (.string r) ∧ Below w.heap.size w w' := by
 have hkd := Lib.hid (boltingref04_Kids.calls A c xs i ks w (Kd.C_below hr hw) hcap hks)
 have hl2 := Lib.hid hl
 have hf2 := Lib.hid hf
 have hxl := hr.2.1
 clear hl hf hks
 unfold rawW at hraw
 by_cases h0 : 0 ≤ i
 ·rw [if_pos h0] at hraw
  by_cases h1 : i < (xs.length : Int)
  ·rw [if_pos h1] at hraw
   obtain ⟨rs, hrs, hraw⟩ := Option.bind_eq_some_iff.1 hraw
   obtain ⟨m, rfl⟩ : ∃ m : Nat, i = m := ⟨i.toNat, by omega⟩
   have hm : m < xs.length := by omega
   have hrd : rd_T35 xs (m : Int) = xs[m] := by simp [rd_T35, hm]
   rw [hrd] at hraw
   obtain ⟨g, o, A4, c4, rfl, -, -, z2, -, -, -, -⟩ := row_at (Kd.C_below hr hw) m hm
   have i5 : decide ((0 : Int) ≤ (m : Int)) = true := decide_eq_true (by omega)
   go_enter Tryd.func11, Tryd.ntmps11
   go_wp2_with (go_at_call 14; ((with_reducible refine hkd.out.mono ?_); rintro e w1 ⟨vk, rfl, hRk, hb1⟩; obtain ⟨Ak, ck, rfl⟩ := Kd.R_slice hRk))
   have hvo := Lib.hid (boltingref05_Raw.calls rs (w1.drew) hrs)
   have z2' := cell_keep z2 hb1
   first
    | go_region_held3 (fun w' => w'.cell? ⟨g, o + m * 5 + 2, none⟩ = some (.string xs[m].f2)) (first | exact z2' | exact cell_keep z2' hb3' | exact cell_keep z2' (pw_below_drewN hb3' _)) ((first
      | (go_at_call 27; ((with_reducible refine hvo.out.mono ?_); rintro e W3 ⟨vv, rfl, hRv, hb3⟩; obtain ⟨Av, cv, rfl⟩ := Kd.R_slice hRv; have hb3' : Below w1.heap.size w1 W3 := Go.Proofs.YtdnbaliibiginaaDoor.below_then (below_drew (Below.refl _ w1)) (Nat.le_refl _) hb3; have hrd2 := Kd.R_reads' hRv; have hhas := Lib.hid (boltingref02_Has.calls 100 Av cv rs xs[m].f2 raw W3 hrd2.2.2 hrd2.2.1 hraw)))
      | (go_at_call 26; ((with_reducible refine hhas.out.mono ?_); rintro e W4 ⟨rfl, hd4⟩; obtain ⟨m4, rfl⟩ := hd4.out))))
    | fail
   all_goals (
    have hBx : Below w1.heap.size w1 (W3.drewN m4) := pw_below_drewN hb3' m4
    -- ROUND L1
    have hkl := (Kd.R_reads' hRk).2.2.2.1
    go_wp2
    go_loopw [5, 8] (fun vs vj wr => ∃ (p : Nat) (acc : ByteArray), vj = .int .i64 p ∧ vs = .string acc ∧ p ≤ ks.length ∧ Hid (loopB (nodeB xs raw f) acc (ks.drop p) = some r) ∧ Below w1.heap.size w1 wr) (fun _ vj _ => ks.length - (intOf vj).toNat)
    case atStart => exact ⟨0, ⟨#[]⟩, rfl, rfl, Nat.zero_le _, hl2, hBx⟩
    case round =>
     obtain ⟨p, acc, rfl, rfl, hp, hinv, hB1⟩ := hrel
     have hBw : Below w.heap.size w wr := Go.Proofs.YtdnbaliibiginaaDoor.below_then hb1 hb1.size hB1
     have hBr : Below w0.heap.size w0 wr := Go.Proofs.YtdnbaliibiginaaDoor.below_then hw hw.size (hBw.mono (Nat.le_refl _))
     have hRr := Kd.R_below hRk hB1
     by_cases hlt : p < ks.length
     ·obtain ⟨gk, capk, hv, -, -, -⟩ := Kd.R_form hRr (by omega)
      simp only [Value.slice.injEq, true_and] at hv
      obtain ⟨rfl, rfl⟩ := hv
      obtain ⟨zk, -⟩ := Kd.R_celln (0 : Int) hRr p (by omega) (by omega)
      have hd : rdOf (0 : Int) ks p = ks[p] := by simp [rdOf, hlt]
      rw [hd] at zk
      simp only [Int.toNat_natCast] at zk
      have hinv2 := hinv.out
      rw [List.drop_eq_getElem_cons hlt] at hinv2
      obtain ⟨t, ht, hsz, hnx⟩ := loopB_cons hinv2
      have hnx2 := Lib.hid hnx
      clear hinv hinv2 hnx hd
      generalize ks[p] = kj at *
      unfold nodeB at ht
      by_cases hj : 0 ≤ kj ∧ kj < (xs.length : Int)
      ·rw [if_pos hj] at ht
       obtain ⟨j, rfl⟩ : ∃ j : Nat, kj = j := ⟨kj.toNat, by omega⟩
       have hjx : j < xs.length := by omega
       have hrdj : rd_T35 xs (j : Int) = xs[j] := by simp [rd_T35, hjx]
       rw [hrdj] at ht
       obtain ⟨gx, ox, A5, c5, ex, x0, x1, x2, x3, x4, l5, hat⟩ := row_at (Kd.C_below hr hBr) j hjx
       clear hrdj hj
       generalize xs[j] = x at *
       obtain ⟨xd, xk, xn, xt, xa⟩ := x
       simp only at x0 x1 x2 x3 x4 l5 hat ht
       first
        | subst ex
        | (simp only [Option.some.injEq, Addr.mk.injEq, and_true] at ex; obtain ⟨rfl, rfl⟩ := ex)
       have hnt := new_cells wr #[.int .i64 xd, .int .i64 xk, .string xn, .string xt, .slice A5 xa.length c5] 35
       obtain ⟨⟨p0, p1, p2, p3, p4⟩, p5⟩ := five_facts hnt
       have hBD : Below (wr.alloc (.cells #[.int .i64 xd, .int .i64 xk, .string xn, .string xt, .slice A5 xa.length c5] 35)).heap.size (wr.alloc (.cells #[.int .i64 xd, .int .i64 xk, .string xn, .string xt, .slice A5 xa.length c5] 35)) (wr.alloc (.cells #[.int .i64 xd, .int .i64 xk, .string xn, .string xt, .slice A5 xa.length c5] 35)).drew := below_drew (Below.refl _ _)
       have hBA := hB1.alloc hB1.size (.cells #[.int .i64 xd, .int .i64 xk, .string xn, .string xt, .slice A5 xa.length c5] 35)
       have a1 : decide (acc.size + t.size ≤ 9223372036854775807) = true := decide_eq_true hsz
       have a2 : (9223372036854775807 < acc.size + t.size) = False := eq_false (by omega)
       by_cases k1 : xk = 1
       ·subst k1
        rw [if_pos rfl] at ht
        cases raw with
        | true =>
         rw [if_pos rfl] at ht
         obtain rfl := Option.some.inj ht
         clear ht
         go_wp2
         exact ⟨⟨p + 1, acc ++ xt, rfl, rfl, by omega, hnx2, hBA⟩, by simp [intOf]; omega⟩
        | false =>
         rw [if_neg (by decide)] at ht
         have hwr := Lib.hid (fun W => boltingref03_Write.calls xt false t W ht)
         clear ht
         go_wp2_with (go_at_call 28; ((with_reducible refine (hwr.out _).mono ?_); rintro e W3 ⟨rfl, hb3⟩; have hB3 := Go.Proofs.YtdnbaliibiginaaDoor.below_then hBA hBA.size hb3))
         exact ⟨⟨p + 1, acc ++ t, rfl, rfl, by omega, hnx2, hB3⟩, by simp [intOf]; omega⟩
       ·rw [if_neg k1] at ht
        have k1b : (xk == 1) = false := beq_eq_false_iff_ne.2 k1
        by_cases k2 : xk = 2
        ·subst k2
         rw [if_pos rfl] at ht
         by_cases hs3 : xt.size ≤ 1000000000000
         ·rw [if_pos hs3] at ht
          obtain rfl := Option.some.inj ht
          clear ht
          have e0 : ((⟨#[60, 33, 45, 45]⟩ : ByteArray) ++ xt).size = 4 + xt.size := ByteArray.size_append
          have e1 : (((⟨#[60, 33, 45, 45]⟩ : ByteArray) ++ xt) ++ (⟨#[45, 45, 62]⟩ : ByteArray)).size = 4 + xt.size + 3 := by rw [ByteArray.size_append, e0]; rfl
          have b1 : decide (4 + xt.size ≤ 9223372036854775807) = true := decide_eq_true (by omega)
          have b2 : (9223372036854775807 < 4 + xt.size) = False := eq_false (by omega)
          have b3 : decide (((⟨#[60, 33, 45, 45]⟩ : ByteArray) ++ xt).size + 3 ≤ 9223372036854775807) = true := decide_eq_true (by omega)
          have b4 : (9223372036854775807 < ((⟨#[60, 33, 45, 45]⟩ : ByteArray) ++ xt).size + 3) = False := eq_false (by omega)
          have b5 : (9223372036854775807 < 4 + xt.size + 3) = False := eq_false (by omega)
          have b6 : (9223372036854775807 < acc.size + (4 + xt.size + 3)) = False := eq_false (by omega)
          have b7 : (acc.size + (4 + xt.size + 3) ≤ 9223372036854775807) = True := eq_true (by omega)
          clear e0 e1
          go_wp2
          exact ⟨⟨p + 1, acc ++ (((⟨#[60, 33, 45, 45]⟩ : ByteArray) ++ xt) ++ (⟨#[45, 45, 62]⟩ : ByteArray)), rfl, rfl, by omega, hnx2, hBA⟩, by simp [intOf]; omega⟩
         ·rw [if_neg hs3] at ht
          cases ht
        ·rw [if_neg k2] at ht
         have k2b : (xk == 2) = false := beq_eq_false_iff_ne.2 k2
         obtain ⟨vs, hvs, ht⟩ := Option.bind_eq_some_iff.1 ht
         obtain ⟨v, hv, ht⟩ := Option.bind_eq_some_iff.1 ht
         obtain ⟨tg, htg, ht⟩ := Option.bind_eq_some_iff.1 ht
         have hvo2 := Lib.hid (fun W => boltingref05_Void.calls vs W hvs)
         have htag := Lib.hid (fun (W : World) (hW : Below wr.heap.size wr W) => boltingref08_tag.calls (xa.length + 1) xd xk xn xt A5 c5 xa tg W (Kd.C_below hat hW) l5 htg)
         cases v with
         | true =>
          rw [if_pos rfl] at ht
          obtain rfl := Option.some.inj ht
          clear ht
          go_wp2
          first
           | go_region_held3 (fun w' => w'.cell? ⟨wr.heap.size, 2, none⟩ = some (.string xn)) (first | exact p2 | exact q2) ((first
             | (go_at_call 29; ((with_reducible refine (hvo2.out _).mono ?_); rintro e W3 ⟨vv2, rfl, hRv2, hb3⟩; obtain ⟨Av2, cv2, rfl⟩ := Kd.R_slice hRv2; have hbA3 := Go.Proofs.YtdnbaliibiginaaDoor.below_then hBD (Nat.le_refl _) hb3; have hB3 := Go.Proofs.YtdnbaliibiginaaDoor.below_then hBA hBA.size hbA3; have hn3 := heap_below hnt hbA3; have hrd3 := Kd.R_reads' hRv2; have hhas2 := Lib.hid (boltingref02_Has.calls 100 Av2 cv2 vs xn true W3 hrd3.2.2 hrd3.2.1 hv); obtain ⟨⟨q0, q1, q2, q3, q4⟩, q5⟩ := five_facts hn3; have hX3 : Below wr.heap.size wr W3 := (((Below.refl _ wr).alloc (Nat.le_refl _) _).trans (hbA3.mono (by rw [World.size_alloc]; omega)))))
             | (go_at_call 26; ((with_reducible refine hhas2.out.mono ?_); rintro e W4 ⟨rfl, hd4⟩; obtain ⟨m5, rfl⟩ := hd4.out))))
           | fail
          go_wp2_with (go_at_call 30; ((with_reducible refine (htag.out _ (pw_below_drewN hX3 m5)).mono ?_); rintro e W5 ⟨rfl, hb5⟩))
          exact ⟨⟨p + 1, acc ++ tg, rfl, rfl, by omega, hnx2, Go.Proofs.YtdnbaliibiginaaDoor.below_then (pw_below_drewN hB3 m5) (pw_below_drewN hB3 m5).size hb5⟩, by simp [intOf]; omega⟩
         | false =>
          rw [if_neg (by decide)] at ht
          obtain ⟨u, hu, ht⟩ := Option.bind_eq_some_iff.1 ht
          by_cases hs4 : tg.size + u.size + xn.size ≤ 1000000000000
          ·rw [if_pos hs4] at ht
           obtain rfl := Option.some.inj ht
           clear ht
           have e1 : (tg ++ u).size = tg.size + u.size := ByteArray.size_append
           have e2 : ((tg ++ u) ++ (⟨#[60, 47]⟩ : ByteArray)).size = tg.size + u.size + 2 := by rw [ByteArray.size_append, e1]; rfl
           have e3 : (((tg ++ u) ++ (⟨#[60, 47]⟩ : ByteArray)) ++ xn).size = tg.size + u.size + 2 + xn.size := by rw [ByteArray.size_append, e2]
           have e4 : ((((tg ++ u) ++ (⟨#[60, 47]⟩ : ByteArray)) ++ xn) ++ (⟨#[62]⟩ : ByteArray)).size = tg.size + u.size + 2 + xn.size + 1 := by rw [ByteArray.size_append, e3]; rfl
           have f1a : (9223372036854775807 < tg.size + u.size) = False := eq_false (by omega)
           have f1b : (tg.size + u.size ≤ 9223372036854775807) = True := eq_true (by omega)
           have f1c : decide (tg.size + u.size ≤ 9223372036854775807) = true := decide_eq_true (by omega)
           have f2a : (9223372036854775807 < (tg ++ u).size + 2) = False := eq_false (by omega)
           have f2b : ((tg ++ u).size + 2 ≤ 9223372036854775807) = True := eq_true (by omega)
           have f2c : decide ((tg ++ u).size + 2 ≤ 9223372036854775807) = true := decide_eq_true (by omega)
           have f3a : (9223372036854775807 < tg.size + u.size + 2) = False := eq_false (by omega)
           have f3b : (tg.size + u.size + 2 ≤ 9223372036854775807) = True := eq_true (by omega)
           have f3c : decide (tg.size + u.size + 2 ≤ 9223372036854775807) = true := decide_eq_true (by omega)
           have f4a : (9223372036854775807 < ((tg ++ u) ++ (⟨#[60, 47]⟩ : ByteArray)).size + xn.size) = False := eq_false (by omega)
           have f4b : (((tg ++ u) ++ (⟨#[60, 47]⟩ : ByteArray)).size + xn.size ≤ 9223372036854775807) = True := eq_true (by omega)
           have f4c : decide (((tg ++ u) ++ (⟨#[60, 47]⟩ : ByteArray)).size + xn.size ≤ 9223372036854775807) = true := decide_eq_true (by omega)
           have f5a : (9223372036854775807 < tg.size + u.size + 2 + xn.size) = False := eq_false (by omega)
           have f5b : (tg.size + u.size + 2 + xn.size ≤ 9223372036854775807) = True := eq_true (by omega)
           have f5c : decide (tg.size + u.size + 2 + xn.size ≤ 9223372036854775807) = true := decide_eq_true (by omega)
           have f6a : (9223372036854775807 < (((tg ++ u) ++ (⟨#[60, 47]⟩ : ByteArray)) ++ xn).size + 1) = False := eq_false (by omega)
           have f6b : ((((tg ++ u) ++ (⟨#[60, 47]⟩ : ByteArray)) ++ xn).size + 1 ≤ 9223372036854775807) = True := eq_true (by omega)
           have f6c : decide ((((tg ++ u) ++ (⟨#[60, 47]⟩ : ByteArray)) ++ xn).size + 1 ≤ 9223372036854775807) = true := decide_eq_true (by omega)
           have f7a : (9223372036854775807 < tg.size + u.size + 2 + xn.size + 1) = False := eq_false (by omega)
           have f7b : (tg.size + u.size + 2 + xn.size + 1 ≤ 9223372036854775807) = True := eq_true (by omega)
           have f7c : decide (tg.size + u.size + 2 + xn.size + 1 ≤ 9223372036854775807) = true := decide_eq_true (by omega)
           have f8a : (9223372036854775807 < acc.size + (tg.size + u.size + 2 + xn.size + 1)) = False := eq_false (by omega)
           have f8b : (acc.size + (tg.size + u.size + 2 + xn.size + 1) ≤ 9223372036854775807) = True := eq_true (by omega)
           have f8c : decide (acc.size + (tg.size + u.size + 2 + xn.size + 1) ≤ 9223372036854775807) = true := decide_eq_true (by omega)
           clear e1 e2 e3 e4
           go_wp2
           first
            | go_region_held3 (fun w' => w'.cell? ⟨wr.heap.size, 2, none⟩ = some (.string xn)) (first | exact p2 | exact q2) ((first
              | (go_at_call 29; ((with_reducible refine (hvo2.out _).mono ?_); rintro e W3 ⟨vv2, rfl, hRv2, hb3⟩; obtain ⟨Av2, cv2, rfl⟩ := Kd.R_slice hRv2; have hbA3 := Go.Proofs.YtdnbaliibiginaaDoor.below_then hBD (Nat.le_refl _) hb3; have hB3 := Go.Proofs.YtdnbaliibiginaaDoor.below_then hBA hBA.size hbA3; have hn3 := heap_below hnt hbA3; have hrd3 := Kd.R_reads' hRv2; have hhas2 := Lib.hid (boltingref02_Has.calls 100 Av2 cv2 vs xn false W3 hrd3.2.2 hrd3.2.1 hv); obtain ⟨⟨q0, q1, q2, q3, q4⟩, q5⟩ := five_facts hn3; have hX3 : Below wr.heap.size wr W3 := (((Below.refl _ wr).alloc (Nat.le_refl _) _).trans (hbA3.mono (by rw [World.size_alloc]; omega)))))
              | (go_at_call 26; ((with_reducible refine hhas2.out.mono ?_); rintro e W4 ⟨rfl, hd4⟩; obtain ⟨m5, rfl⟩ := hd4.out))))
            | fail
           have zk3 := cell_keep zk hX3
           go_wp2
           first
            | go_region_held3 (fun w' => w'.cell? ⟨gk, p, none⟩ = some (.int .i64 (j : Nat)) ∧ w'.cell? ⟨wr.heap.size, 0, none⟩ = some (.int .i64 xd) ∧ w'.cell? ⟨wr.heap.size, 1, none⟩ = some (.int .i64 xk) ∧ w'.cell? ⟨wr.heap.size, 2, none⟩ = some (.string xn) ∧ w'.cell? ⟨wr.heap.size, 3, none⟩ = some (.string xt) ∧ w'.cell? ⟨wr.heap.size, 4, none⟩ = some (.slice A5 xa.length c5)) (first | exact ⟨zk3, q0, q1, q2, q3, q4⟩ | exact ⟨zk5, t0, t1, t2, t3, t4⟩ | exact ⟨zk6, u0, u1, u2, u3, u4⟩) ((first
              | (go_at_call 30; ((refine (htag.out _ ?bb).mono ?_); (case bb => first | with_reducible exact below_drew (pw_below_drewN hX3 m5) | with_reducible exact pw_below_drewN hX3 _); rintro e W5 ⟨rfl, hb5⟩; have hX5 : Below wr.heap.size wr W5 := ⟨hb5.os.trans hX3.os, hb5.tape.trans hX3.tape, hb5.output.trans hX3.output, Nat.le_trans hX3.size hb5.size, fun q hq => (hb5.block q (Nat.lt_of_lt_of_le hq hX3.size)).trans (hX3.block q hq)⟩; have zk5 := cell_keep zk hX5; have hn5 := (hb5.block wr.heap.size (heap_lt hn3)).trans hn3; obtain ⟨⟨t0, t1, t2, t3, t4⟩, t5⟩ := five_facts hn5; have hY5 := hBr.trans (hX5.mono hBr.size); have hwi5 := Lib.hid (hf2.out (j : Int) u W5 hY5 hu)))
              | (go_at_call 11; ((with_reducible refine hwi5.out.mono ?_); rintro e W6 ⟨rfl, hb6⟩; have zk6 := cell_keep zk5 hb6; have hn6 := heap_below hn5 hb6; obtain ⟨⟨u0, u1, u2, u3, u4⟩, u5⟩ := five_facts hn6; have hX6 := hX5.trans (hb6.mono hX5.size)))))
            | fail
           go_wp2
           exact ⟨⟨p + 1, acc ++ ((((tg ++ u) ++ (⟨#[60, 47]⟩ : ByteArray)) ++ xn) ++ (⟨#[62]⟩ : ByteArray)), rfl, rfl, by omega, hnx2, hB1.trans (hX6.mono hB1.size)⟩, by simp [intOf]; omega⟩
          ·rw [if_neg hs4] at ht
           cases ht
      ·rw [if_neg hj] at ht
       cases ht
     ·have hr0 : acc = r := by
       have h1 := hinv.out
       rw [List.drop_of_length_le (by omega)] at h1
       exact Option.some.inj h1
      subst hr0
      clear hinv
      go_wp2
      go_ret
      exact ⟨rfl, hBw⟩
    -- END L1
    )
  ·rw [if_neg h1] at hraw
   cases hraw
 ·rw [if_neg h0] at hraw
  by_cases h1 : i = -1
  ·subst h1
   rw [if_pos rfl] at hraw
   obtain rfl := Option.some.inj hraw
   go_enter Tryd.func11, Tryd.ntmps11
   go_wp2_with (go_at_call 14; ((with_reducible refine hkd.out.mono ?_); rintro e w1 ⟨vk, rfl, hRk, hb1⟩; obtain ⟨Ak, ck, rfl⟩ := Kd.R_slice hRk))
   -- ROUND C
   refine start_ (n := 12) (S := fun w' => True) (ds := []) (fl 12 0) (by kernel_rfl) rfl rfl trivial (fun hHeld => ?_); refine with_tabW wi_tab3 wi_bits3 (fun HT_ HW_ => ?_)
   refine pure_ (i := 0) (N := some 13) (v := ?_) (a' := ?_) (fl 12 1) rfl rfl (any_of HT_.out (by kernel_rfl)) (fun _ _ _ h => h) (Or.inl ⟨by rfl, ?_⟩) ?_ ?_
   rotate_left
   ·intro w'
    go_simp
    with_reducible rfl
   rotate_left
   ·simp only [Act.put, List.setIfInBounds_toArray, List.set_cons_zero, List.set_cons_succ, i64_w, i32_w]
    rfl
   refine pure_ (i := 1) (N := some 14) (v := ?_) (a' := ?_) (fl 12 2) rfl rfl (any_of HT_.out (by kernel_rfl)) (fun _ _ _ h => h) (Or.inl ⟨by rfl, ?_⟩) ?_ ?_
   rotate_left
   ·intro w'
    go_simp
    with_reducible rfl
   rotate_left
   ·simp only [Act.put, List.setIfInBounds_toArray, List.set_cons_zero, List.set_cons_succ, i64_w, i32_w]
    rfl
   refine pure_ (i := 2) (N := some 15) (v := ?_) (a' := ?_) (fl 12 3) rfl rfl (any_of HT_.out (by kernel_rfl)) (fun _ _ _ h => h) (Or.inl ⟨by rfl, ?_⟩) ?_ ?_
   rotate_left
   ·intro w'
    go_simp
    with_reducible rfl
   rotate_left
   ·simp only [Act.put, List.setIfInBounds_toArray, List.set_cons_zero, List.set_cons_succ, i64_w, i32_w]
    rfl
   refine pure_ (i := 3) (N := some 16) (v := undef) (a' := ?_) (fl 12 4) rfl rfl (any_of HT_.out (by kernel_rfl)) (fun _ _ _ h => h) (Or.inr ⟨by rfl, rfl⟩) ?_ ?_
   rotate_left
   ·simp only [Act.put, List.setIfInBounds_toArray, List.set_cons_zero, List.set_cons_succ, i64_w, i32_w]
    rfl
   refine pure_ (i := 4) (N := some 17) (v := undef) (a' := ?_) (fl 12 5) rfl rfl (any_of HT_.out (by kernel_rfl)) (fun _ _ _ h => h) (Or.inr ⟨by rfl, rfl⟩) ?_ ?_
   rotate_left
   ·simp only [Act.put, List.setIfInBounds_toArray, List.set_cons_zero, List.set_cons_succ, i64_w, i32_w]
    rfl
   refine pure_ (i := 5) (N := some 18) (v := undef) (a' := ?_) (fl 12 6) rfl rfl (any_of HT_.out (by kernel_rfl)) (fun _ _ _ h => h) (Or.inr ⟨by rfl, rfl⟩) ?_ ?_
   rotate_left
   ·simp only [Act.put, List.setIfInBounds_toArray, List.set_cons_zero, List.set_cons_succ, i64_w, i32_w]
    rfl
   refine pure_ (i := 6) (N := some 19) (v := undef) (a' := ?_) (fl 12 7) rfl rfl (any_of HT_.out (by kernel_rfl)) (fun _ _ _ h => h) (Or.inr ⟨by rfl, rfl⟩) ?_ ?_
   rotate_left
   ·simp only [Act.put, List.setIfInBounds_toArray, List.set_cons_zero, List.set_cons_succ, i64_w, i32_w]
    rfl
   refine pure_ (i := 7) (N := some 20) (v := undef) (a' := ?_) (fl 12 8) rfl rfl (any_of HT_.out (by kernel_rfl)) (fun _ _ _ h => h) (Or.inr ⟨by rfl, rfl⟩) ?_ ?_
   rotate_left
   ·simp only [Act.put, List.setIfInBounds_toArray, List.set_cons_zero, List.set_cons_succ, i64_w, i32_w]
    rfl
   refine pure_ (i := 8) (N := some 21) (v := undef) (a' := ?_) (fl 12 9) rfl rfl (any_of HT_.out (by kernel_rfl)) (fun _ _ _ h => h) (Or.inr ⟨by rfl, rfl⟩) ?_ ?_
   rotate_left
   ·simp only [Act.put, List.setIfInBounds_toArray, List.set_cons_zero, List.set_cons_succ, i64_w, i32_w]
    rfl
   refine pure_ (i := 9) (N := some 22) (v := undef) (a' := ?_) (fl 12 10) rfl rfl (any_of HT_.out (by kernel_rfl)) (fun _ _ _ h => h) (Or.inr ⟨by rfl, rfl⟩) ?_ ?_
   rotate_left
   ·simp only [Act.put, List.setIfInBounds_toArray, List.set_cons_zero, List.set_cons_succ, i64_w, i32_w]
    rfl
   refine pure_ (i := 10) (N := some 23) (v := ?_) (a' := ?_) (fl 12 11) rfl rfl (any_of HT_.out (by kernel_rfl)) (fun _ _ _ h => h) (Or.inl ⟨by rfl, ?_⟩) ?_ ?_
   rotate_left
   ·intro w'
    go_simp
    with_reducible rfl
   rotate_left
   ·simp only [Act.put, List.setIfInBounds_toArray, List.set_cons_zero, List.set_cons_succ, i64_w, i32_w]
    rfl
   refine pure_ (i := 11) (N := some 7) (v := ?_) (a' := ?_) (fl 12 12) rfl rfl (any_of HT_.out (by kernel_rfl)) (fun _ _ _ h => h) (Or.inl ⟨by rfl, ?_⟩) ?_ ?_
   rotate_left
   ·intro w'
    go_simp
    with_reducible rfl
   rotate_left
   ·simp only [Act.put, List.setIfInBounds_toArray, List.set_cons_zero, List.set_cons_succ, i64_w, i32_w]
    rfl
   refine done_ (done_of HT_.out (by kernel_rfl)) ?_
   -- END C
   have hBx : Below w1.heap.size w1 w1.drew := below_drew (Below.refl _ _)
   -- ROUND L2
   have hkl := (Kd.R_reads' hRk).2.2.2.1
   go_wp2
   go_loopw [5, 8] (fun vs vj wr => ∃ (p : Nat) (acc : ByteArray), vj = .int .i64 p ∧ vs = .string acc ∧ p ≤ ks.length ∧ Hid (loopB (nodeB xs false f) acc (ks.drop p) = some r) ∧ Below w1.heap.size w1 wr) (fun _ vj _ => ks.length - (intOf vj).toNat)
   case atStart => exact ⟨0, ⟨#[]⟩, rfl, rfl, Nat.zero_le _, hl2, hBx⟩
   case round =>
    obtain ⟨p, acc, rfl, rfl, hp, hinv, hB1⟩ := hrel
    have hBw : Below w.heap.size w wr := Go.Proofs.YtdnbaliibiginaaDoor.below_then hb1 hb1.size hB1
    have hBr : Below w0.heap.size w0 wr := Go.Proofs.YtdnbaliibiginaaDoor.below_then hw hw.size (hBw.mono (Nat.le_refl _))
    have hRr := Kd.R_below hRk hB1
    by_cases hlt : p < ks.length
    ·obtain ⟨gk, capk, hv, -, -, -⟩ := Kd.R_form hRr (by omega)
     simp only [Value.slice.injEq, true_and] at hv
     obtain ⟨rfl, rfl⟩ := hv
     obtain ⟨zk, -⟩ := Kd.R_celln (0 : Int) hRr p (by omega) (by omega)
     have hd : rdOf (0 : Int) ks p = ks[p] := by simp [rdOf, hlt]
     rw [hd] at zk
     simp only [Int.toNat_natCast] at zk
     have hinv2 := hinv.out
     rw [List.drop_eq_getElem_cons hlt] at hinv2
     obtain ⟨t, ht, hsz, hnx⟩ := loopB_cons hinv2
     have hnx2 := Lib.hid hnx
     clear hinv hinv2 hnx hd
     generalize ks[p] = kj at *
     unfold nodeB at ht
     by_cases hj : 0 ≤ kj ∧ kj < (xs.length : Int)
     ·rw [if_pos hj] at ht
      obtain ⟨j, rfl⟩ : ∃ j : Nat, kj = j := ⟨kj.toNat, by omega⟩
      have hjx : j < xs.length := by omega
      have hrdj : rd_T35 xs (j : Int) = xs[j] := by simp [rd_T35, hjx]
      rw [hrdj] at ht
      obtain ⟨gx, ox, A5, c5, ex, x0, x1, x2, x3, x4, l5, hat⟩ := row_at (Kd.C_below hr hBr) j hjx
      clear hrdj hj
      generalize xs[j] = x at *
      obtain ⟨xd, xk, xn, xt, xa⟩ := x
      simp only at x0 x1 x2 x3 x4 l5 hat ht
      first
       | subst ex
       | (simp only [Option.some.injEq, Addr.mk.injEq, and_true] at ex; obtain ⟨rfl, rfl⟩ := ex)
      have hnt := new_cells wr #[.int .i64 xd, .int .i64 xk, .string xn, .string xt, .slice A5 xa.length c5] 35
      obtain ⟨⟨p0, p1, p2, p3, p4⟩, p5⟩ := five_facts hnt
      have hBD : Below (wr.alloc (.cells #[.int .i64 xd, .int .i64 xk, .string xn, .string xt, .slice A5 xa.length c5] 35)).heap.size (wr.alloc (.cells #[.int .i64 xd, .int .i64 xk, .string xn, .string xt, .slice A5 xa.length c5] 35)) (wr.alloc (.cells #[.int .i64 xd, .int .i64 xk, .string xn, .string xt, .slice A5 xa.length c5] 35)).drew := below_drew (Below.refl _ _)
      have hBA := hB1.alloc hB1.size (.cells #[.int .i64 xd, .int .i64 xk, .string xn, .string xt, .slice A5 xa.length c5] 35)
      have a1 : decide (acc.size + t.size ≤ 9223372036854775807) = true := decide_eq_true hsz
      have a2 : (9223372036854775807 < acc.size + t.size) = False := eq_false (by omega)
      by_cases k1 : xk = 1
      ·subst k1
       rw [if_pos rfl] at ht
       rw [if_neg (by decide)] at ht
       have hwr := Lib.hid (fun W => boltingref03_Write.calls xt false t W ht)
       clear ht
       go_wp2_with (go_at_call 28; ((with_reducible refine (hwr.out _).mono ?_); rintro e W3 ⟨rfl, hb3⟩; have hB3 := Go.Proofs.YtdnbaliibiginaaDoor.below_then hBA hBA.size hb3))
       exact ⟨⟨p + 1, acc ++ t, rfl, rfl, by omega, hnx2, hB3⟩, by simp [intOf]; omega⟩
      ·rw [if_neg k1] at ht
       have k1b : (xk == 1) = false := beq_eq_false_iff_ne.2 k1
       by_cases k2 : xk = 2
       ·subst k2
        rw [if_pos rfl] at ht
        by_cases hs3 : xt.size ≤ 1000000000000
        ·rw [if_pos hs3] at ht
         obtain rfl := Option.some.inj ht
         clear ht
         have e0 : ((⟨#[60, 33, 45, 45]⟩ : ByteArray) ++ xt).size = 4 + xt.size := ByteArray.size_append
         have e1 : (((⟨#[60, 33, 45, 45]⟩ : ByteArray) ++ xt) ++ (⟨#[45, 45, 62]⟩ : ByteArray)).size = 4 + xt.size + 3 := by rw [ByteArray.size_append, e0]; rfl
         have b1 : decide (4 + xt.size ≤ 9223372036854775807) = true := decide_eq_true (by omega)
         have b2 : (9223372036854775807 < 4 + xt.size) = False := eq_false (by omega)
         have b3 : decide (((⟨#[60, 33, 45, 45]⟩ : ByteArray) ++ xt).size + 3 ≤ 9223372036854775807) = true := decide_eq_true (by omega)
         have b4 : (9223372036854775807 < ((⟨#[60, 33, 45, 45]⟩ : ByteArray) ++ xt).size + 3) = False := eq_false (by omega)
         have b5 : (9223372036854775807 < 4 + xt.size + 3) = False := eq_false (by omega)
         have b6 : (9223372036854775807 < acc.size + (4 + xt.size + 3)) = False := eq_false (by omega)
         have b7 : (acc.size + (4 + xt.size + 3) ≤ 9223372036854775807) = True := eq_true (by omega)
         clear e0 e1
         go_wp2
         exact ⟨⟨p + 1, acc ++ (((⟨#[60, 33, 45, 45]⟩ : ByteArray) ++ xt) ++ (⟨#[45, 45, 62]⟩ : ByteArray)), rfl, rfl, by omega, hnx2, hBA⟩, by simp [intOf]; omega⟩
        ·rw [if_neg hs3] at ht
         cases ht
       ·rw [if_neg k2] at ht
        have k2b : (xk == 2) = false := beq_eq_false_iff_ne.2 k2
        obtain ⟨vs, hvs, ht⟩ := Option.bind_eq_some_iff.1 ht
        obtain ⟨v, hv, ht⟩ := Option.bind_eq_some_iff.1 ht
        obtain ⟨tg, htg, ht⟩ := Option.bind_eq_some_iff.1 ht
        have hvo2 := Lib.hid (fun W => boltingref05_Void.calls vs W hvs)
        have htag := Lib.hid (fun (W : World) (hW : Below wr.heap.size wr W) => boltingref08_tag.calls (xa.length + 1) xd xk xn xt A5 c5 xa tg W (Kd.C_below hat hW) l5 htg)
        cases v with
        | true =>
         rw [if_pos rfl] at ht
         obtain rfl := Option.some.inj ht
         clear ht
         go_wp2
         first
          | go_region_held3 (fun w' => w'.cell? ⟨wr.heap.size, 2, none⟩ = some (.string xn)) (first | exact p2 | exact q2) ((first
            | (go_at_call 29; ((with_reducible refine (hvo2.out _).mono ?_); rintro e W3 ⟨vv2, rfl, hRv2, hb3⟩; obtain ⟨Av2, cv2, rfl⟩ := Kd.R_slice hRv2; have hbA3 := Go.Proofs.YtdnbaliibiginaaDoor.below_then hBD (Nat.le_refl _) hb3; have hB3 := Go.Proofs.YtdnbaliibiginaaDoor.below_then hBA hBA.size hbA3; have hn3 := heap_below hnt hbA3; have hrd3 := Kd.R_reads' hRv2; have hhas2 := Lib.hid (boltingref02_Has.calls 100 Av2 cv2 vs xn true W3 hrd3.2.2 hrd3.2.1 hv); obtain ⟨⟨q0, q1, q2, q3, q4⟩, q5⟩ := five_facts hn3; have hX3 : Below wr.heap.size wr W3 := (((Below.refl _ wr).alloc (Nat.le_refl _) _).trans (hbA3.mono (by rw [World.size_alloc]; omega)))))
            | (go_at_call 26; ((with_reducible refine hhas2.out.mono ?_); rintro e W4 ⟨rfl, hd4⟩; obtain ⟨m5, rfl⟩ := hd4.out))))
          | fail
         go_wp2_with (go_at_call 30; ((with_reducible refine (htag.out _ (pw_below_drewN hX3 m5)).mono ?_); rintro e W5 ⟨rfl, hb5⟩))
         exact ⟨⟨p + 1, acc ++ tg, rfl, rfl, by omega, hnx2, Go.Proofs.YtdnbaliibiginaaDoor.below_then (pw_below_drewN hB3 m5) (pw_below_drewN hB3 m5).size hb5⟩, by simp [intOf]; omega⟩
        | false =>
         rw [if_neg (by decide)] at ht
         obtain ⟨u, hu, ht⟩ := Option.bind_eq_some_iff.1 ht
         by_cases hs4 : tg.size + u.size + xn.size ≤ 1000000000000
         ·rw [if_pos hs4] at ht
          obtain rfl := Option.some.inj ht
          clear ht
          have e1 : (tg ++ u).size = tg.size + u.size := ByteArray.size_append
          have e2 : ((tg ++ u) ++ (⟨#[60, 47]⟩ : ByteArray)).size = tg.size + u.size + 2 := by rw [ByteArray.size_append, e1]; rfl
          have e3 : (((tg ++ u) ++ (⟨#[60, 47]⟩ : ByteArray)) ++ xn).size = tg.size + u.size + 2 + xn.size := by rw [ByteArray.size_append, e2]
          have e4 : ((((tg ++ u) ++ (⟨#[60, 47]⟩ : ByteArray)) ++ xn) ++ (⟨#[62]⟩ : ByteArray)).size = tg.size + u.size + 2 + xn.size + 1 := by rw [ByteArray.size_append, e3]; rfl
          have f1a : (9223372036854775807 < tg.size + u.size) = False := eq_false (by omega)
          have f1b : (tg.size + u.size ≤ 9223372036854775807) = True := eq_true (by omega)
          have f1c : decide (tg.size + u.size ≤ 9223372036854775807) = true := decide_eq_true (by omega)
          have f2a : (9223372036854775807 < (tg ++ u).size + 2) = False := eq_false (by omega)
          have f2b : ((tg ++ u).size + 2 ≤ 9223372036854775807) = True := eq_true (by omega)
          have f2c : decide ((tg ++ u).size + 2 ≤ 9223372036854775807) = true := decide_eq_true (by omega)
          have f3a : (9223372036854775807 < tg.size + u.size + 2) = False := eq_false (by omega)
          have f3b : (tg.size + u.size + 2 ≤ 9223372036854775807) = True := eq_true (by omega)
          have f3c : decide (tg.size + u.size + 2 ≤ 9223372036854775807) = true := decide_eq_true (by omega)
          have f4a : (9223372036854775807 < ((tg ++ u) ++ (⟨#[60, 47]⟩ : ByteArray)).size + xn.size) = False := eq_false (by omega)
          have f4b : (((tg ++ u) ++ (⟨#[60, 47]⟩ : ByteArray)).size + xn.size ≤ 9223372036854775807) = True := eq_true (by omega)
          have f4c : decide (((tg ++ u) ++ (⟨#[60, 47]⟩ : ByteArray)).size + xn.size ≤ 9223372036854775807) = true := decide_eq_true (by omega)
          have f5a : (9223372036854775807 < tg.size + u.size + 2 + xn.size) = False := eq_false (by omega)
          have f5b : (tg.size + u.size + 2 + xn.size ≤ 9223372036854775807) = True := eq_true (by omega)
          have f5c : decide (tg.size + u.size + 2 + xn.size ≤ 9223372036854775807) = true := decide_eq_true (by omega)
          have f6a : (9223372036854775807 < (((tg ++ u) ++ (⟨#[60, 47]⟩ : ByteArray)) ++ xn).size + 1) = False := eq_false (by omega)
          have f6b : ((((tg ++ u) ++ (⟨#[60, 47]⟩ : ByteArray)) ++ xn).size + 1 ≤ 9223372036854775807) = True := eq_true (by omega)
          have f6c : decide ((((tg ++ u) ++ (⟨#[60, 47]⟩ : ByteArray)) ++ xn).size + 1 ≤ 9223372036854775807) = true := decide_eq_true (by omega)
          have f7a : (9223372036854775807 < tg.size + u.size + 2 + xn.size + 1) = False := eq_false (by omega)
          have f7b : (tg.size + u.size + 2 + xn.size + 1 ≤ 9223372036854775807) = True := eq_true (by omega)
          have f7c : decide (tg.size + u.size + 2 + xn.size + 1 ≤ 9223372036854775807) = true := decide_eq_true (by omega)
          have f8a : (9223372036854775807 < acc.size + (tg.size + u.size + 2 + xn.size + 1)) = False := eq_false (by omega)
          have f8b : (acc.size + (tg.size + u.size + 2 + xn.size + 1) ≤ 9223372036854775807) = True := eq_true (by omega)
          have f8c : decide (acc.size + (tg.size + u.size + 2 + xn.size + 1) ≤ 9223372036854775807) = true := decide_eq_true (by omega)
          clear e1 e2 e3 e4
          go_wp2
          first
           | go_region_held3 (fun w' => w'.cell? ⟨wr.heap.size, 2, none⟩ = some (.string xn)) (first | exact p2 | exact q2) ((first
             | (go_at_call 29; ((with_reducible refine (hvo2.out _).mono ?_); rintro e W3 ⟨vv2, rfl, hRv2, hb3⟩; obtain ⟨Av2, cv2, rfl⟩ := Kd.R_slice hRv2; have hbA3 := Go.Proofs.YtdnbaliibiginaaDoor.below_then hBD (Nat.le_refl _) hb3; have hB3 := Go.Proofs.YtdnbaliibiginaaDoor.below_then hBA hBA.size hbA3; have hn3 := heap_below hnt hbA3; have hrd3 := Kd.R_reads' hRv2; have hhas2 := Lib.hid (boltingref02_Has.calls 100 Av2 cv2 vs xn false W3 hrd3.2.2 hrd3.2.1 hv); obtain ⟨⟨q0, q1, q2, q3, q4⟩, q5⟩ := five_facts hn3; have hX3 : Below wr.heap.size wr W3 := (((Below.refl _ wr).alloc (Nat.le_refl _) _).trans (hbA3.mono (by rw [World.size_alloc]; omega)))))
             | (go_at_call 26; ((with_reducible refine hhas2.out.mono ?_); rintro e W4 ⟨rfl, hd4⟩; obtain ⟨m5, rfl⟩ := hd4.out))))
           | fail
          have zk3 := cell_keep zk hX3
          go_wp2
          first
           | go_region_held3 (fun w' => w'.cell? ⟨gk, p, none⟩ = some (.int .i64 (j : Nat)) ∧ w'.cell? ⟨wr.heap.size, 0, none⟩ = some (.int .i64 xd) ∧ w'.cell? ⟨wr.heap.size, 1, none⟩ = some (.int .i64 xk) ∧ w'.cell? ⟨wr.heap.size, 2, none⟩ = some (.string xn) ∧ w'.cell? ⟨wr.heap.size, 3, none⟩ = some (.string xt) ∧ w'.cell? ⟨wr.heap.size, 4, none⟩ = some (.slice A5 xa.length c5)) (first | exact ⟨zk3, q0, q1, q2, q3, q4⟩ | exact ⟨zk5, t0, t1, t2, t3, t4⟩ | exact ⟨zk6, u0, u1, u2, u3, u4⟩) ((first
             | (go_at_call 30; ((refine (htag.out _ ?bb).mono ?_); (case bb => first | with_reducible exact below_drew (pw_below_drewN hX3 m5) | with_reducible exact pw_below_drewN hX3 _); rintro e W5 ⟨rfl, hb5⟩; have hX5 : Below wr.heap.size wr W5 := ⟨hb5.os.trans hX3.os, hb5.tape.trans hX3.tape, hb5.output.trans hX3.output, Nat.le_trans hX3.size hb5.size, fun q hq => (hb5.block q (Nat.lt_of_lt_of_le hq hX3.size)).trans (hX3.block q hq)⟩; have zk5 := cell_keep zk hX5; have hn5 := (hb5.block wr.heap.size (heap_lt hn3)).trans hn3; obtain ⟨⟨t0, t1, t2, t3, t4⟩, t5⟩ := five_facts hn5; have hY5 := hBr.trans (hX5.mono hBr.size); have hwi5 := Lib.hid (hf2.out (j : Int) u W5 hY5 hu)))
             | (go_at_call 11; ((with_reducible refine hwi5.out.mono ?_); rintro e W6 ⟨rfl, hb6⟩; have zk6 := cell_keep zk5 hb6; have hn6 := heap_below hn5 hb6; obtain ⟨⟨u0, u1, u2, u3, u4⟩, u5⟩ := five_facts hn6; have hX6 := hX5.trans (hb6.mono hX5.size)))))
           | fail
          go_wp2
          exact ⟨⟨p + 1, acc ++ ((((tg ++ u) ++ (⟨#[60, 47]⟩ : ByteArray)) ++ xn) ++ (⟨#[62]⟩ : ByteArray)), rfl, rfl, by omega, hnx2, hB1.trans (hX6.mono hB1.size)⟩, by simp [intOf]; omega⟩
         ·rw [if_neg hs4] at ht
          cases ht
     ·rw [if_neg hj] at ht
      cases ht
    ·have hr0 : acc = r := by
      have h1 := hinv.out
      rw [List.drop_of_length_le (by omega)] at h1
      exact Option.some.inj h1
     subst hr0
     clear hinv
     go_wp2
     go_ret
     exact ⟨rfl, hBw⟩
   -- END L2
  ·rw [if_neg h1] at hraw
   cases hraw
theorem with_all (A : Option Addr) (c : Nat) (xs : List Rw) (hcap : xs.length ≤ c) (w0 : World) (hr : k35.C w0 A xs.length xs) : ∀ d, WithC A c xs w0 (withN xs d) := by
 intro d
 induction d with
 | zero => intro j r W _ h; cases h
 | succ d ih =>
  intro j r W hW h
  simp only [withN] at h
  obtain ⟨ks, hks, h⟩ := Option.bind_eq_some_iff.1 h
  obtain ⟨raw, hraw, h⟩ := Option.bind_eq_some_iff.1 h
  exact with_step A c xs hcap w0 hr (withN xs d) ih j ks hks raw hraw r h W hW
theorem boltingref08_Within.calls (A0 : Option Addr) (c0 : Nat) (l0 : List Rw) (a1 : Int) (r : ByteArray) (w : World) (hr0 : k35.C w A0 l0.length l0) (hc0 : l0.length ≤ c0) (h : boltingref08_Within.f l0 a1 = some r) :
  Calls Tryd.prog 11 #[.slice A0 l0.length c0, .int .i64 a1] w fun e w' => e = .returned (.string r) ∧ Below w.heap.size w w' :=
 with_all A0 c0 l0 hc0 w hr0 _ a1 r w (Below.refl _ _) h
end Go.Proofs.YtdnbaliibiginaaDoorH.W8
