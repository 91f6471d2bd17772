/- Contract of token.Write: tokens, written. Nothing that lay in memory turns. Condition: at most 10^9 bytes come of it. -/
import Derived.Test.YtcipgppjhhokbaaDoorTagged
set_option linter.unusedVariables false
set_option linter.unusedSimpArgs false
namespace Go.Proofs.YtcipgppjhhokbaaDoor
open Go.RowKit Go.Proofs

theorem RdA.nil (w : World) : RdA w (.slice none 0 0) [] := ⟨none, 0, rfl, fun i hi => by simp at hi⟩
def rawAt (l : List Tok) : Nat → Bool
  | 0 => false
  | j + 1 => match l[j]? with | some t => rawT t | none => false
theorem rawAt_succ {l : List Tok} {j : Nat} (h : j < l.length) : rawAt l (j + 1) = rawT l[j] := by simp [rawAt, List.getElem?_eq_getElem h]
theorem attrsW_len (l : List (Txt × Txt)) : l.length ≤ (attrsW l).length := by
  induction l with
  | nil => simp
  | cons a l ih =>
    rw [show attrsW (a :: l) = attrsW [a] ++ attrsW l from attrsW_app [a] l]
    simp only [List.length_append, List.length_cons]
    have : 1 ≤ (attrsW [a]).length := by simp [attrsW]
    omega
theorem write_step {l : List Tok} {acc : Txt} {i : Nat} (h : i < l.length) (he : writeN false l = acc ++ writeN (rawAt l i) (l.drop i)) : writeN false l = (acc ++ tokW (rawAt l i) l[i]) ++ writeN (rawAt l (i + 1)) (l.drop (i + 1)) := by
  rw [he, List.drop_eq_getElem_cons h, writeN, rawAt_succ h, List.append_assoc]
theorem write_len {a b c : Txt} (h : a = b ++ c) (n : Nat) (hn : a.length ≤ n) : b.length ≤ n := by
  have := congrArg List.length h
  simp only [List.length_append] at this
  omega


set_option maxHeartbeats 8000000 in
set_option maxRecDepth 100000 in
theorem write_g (v : Value) (l : List Tok) (hl : l.length ≤ 9223372036854775807) (hz : (writeL l).length ≤ 1000000000) (w : World) (hT : RdT w v l) :
    Calls Tryd.prog 12 #[v] w fun e w' => e = .returned (.string ⟨(writeL l).toArray⟩) ∧ Below w.heap.size w w' := by
  unfold writeL at *
  obtain ⟨ad, cp, rfl, hT0⟩ := id hT
  have hbn := bld_new _ w (Nat.le_refl _)
  have hb0 := (Below.refl w.heap.size w).alloc (Nat.le_refl _) (.cells #[.pointer none, .slice none 0 0] 41)
  have hs0 : w.heap.size < (w.alloc (.cells #[.pointer none, .slice none 0 0] 41)).heap.size := by rw [World.size_alloc]; omega
  go_enter Tryd.func12, Tryd.ntmps12
  go_wp2
  go_loopw [8] (fun vi wr => ∃ (i : Nat) (acc : Txt), vi = .int .i64 i ∧ i ≤ l.length ∧ Lib.IsBuilderF 41 5 w.heap.size w.heap.size (Lib.byteCells acc) wr ∧ Below w.heap.size w wr ∧ Hid (writeN false l = acc ++ writeN (rawAt l i) (l.drop i))) (fun vi _ => l.length - (intOf vi).toNat)
  case atStart => exact ⟨0, [], rfl, by omega, hbn, hb0, rfl⟩
  case round =>
    obtain ⟨i, acc, rfl, hi, hI, hB, hinv⟩ := hrel
    have hsz0 := hB.size
    by_cases hlt : i < l.length
    · obtain ⟨g, o, va, rfl, z0, z1, z2, z3, z4, hA⟩ := hT0 i hlt
      have hst := Lib.hid (write_step hlt hinv.out)
      have hbl := write_len hst.out _ hz
      rw [List.length_append] at hbl
      have hacc : acc.length ≤ 1000000000 := by omega
      have hr0 := rawAt_succ hlt
      replace z0 := cell_keep z0 hB
      replace z1 := cell_keep z1 hB
      replace z2 := cell_keep z2 hB
      replace z3 := cell_keep z3 hB
      replace z4 := cell_keep z4 hB
      replace hA := hA.below hB
      have hlI : (i : Int) < l.length := by omega
      clear hinv hr0
      generalize hrw : rawAt l i = rw0 at *
      generalize htk : l[i] = tk at *
      obtain ⟨kk, nm, at0, d, sf⟩ := tk
      simp only at z0 z1 z2 z3 z4 hA
      obtain ⟨ad3, cp3, rfl, hA0⟩ := id hA
      have hg := cell_lt z0
      have hn1 : g ≠ wr.heap.size := by omega
      have Z0 := cell_al z0
      have Z1 := cell_al z1
      have Z2 := cell_al z2
      have Z3 := cell_al z3
      have Z4 := cell_al z4
      have hnt := new_cells wr #[.int .i64 kk, .string ⟨nm.toArray⟩, .string ⟨d.toArray⟩, .slice ad3 at0.length cp3, .bool sf] 30
      have hIt := hI.alloc (.cells #[.int .i64 kk, .string ⟨nm.toArray⟩, .string ⟨d.toArray⟩, .slice ad3 at0.length cp3, .bool sf] 30)
      have hBt := hB.alloc (by omega) (.cells #[.int .i64 kk, .string ⟨nm.toArray⟩, .string ⟨d.toArray⟩, .slice ad3 at0.length cp3, .bool sf] 30)
      have hAt := hA.below ((Below.refl _ wr).alloc (Nat.le_refl _) (.cells #[.int .i64 kk, .string ⟨nm.toArray⟩, .string ⟨d.toArray⟩, .slice ad3 at0.length cp3, .bool sf] 30))
      have hszt : wr.heap.size < (wr.alloc (.cells #[.int .i64 kk, .string ⟨nm.toArray⟩, .string ⟨d.toArray⟩, .slice ad3 at0.length cp3, .bool sf] 30)).heap.size := by rw [World.size_alloc]; omega
      obtain ⟨⟨p0, p1, p2, p3, p4⟩, p5⟩ := five_facts hnt
      by_cases k0 : kk = 0
      · subst k0
        have hwl := wr_ge false d
        cases rw0 with
        | false =>
          have htw : tokW false ⟨0, nm, at0, d, sf⟩ = wrL false d := rfl
          rw [htw] at hst hbl
          have ctx := Lib.hid (fun W => text_c d (by omega) W)
          generalize wrL false d = wd at *
          cases i with
          | zero =>
            simp only [Nat.zero_mul, Nat.add_zero] at z0 z1 z2 z3 z4 Z0 Z1 Z2 Z3 Z4
            go_wp2_with (first
              | (go_at_call 22; ((with_reducible refine (ctx.out _).mono ?_); rintro e w3 ⟨rfl, hb3⟩; have hI3 := bld_below hIt hb3; have hB3 := below_then hBt (by have := hBt.size; omega) hb3))
              | (go_at_call 21; ((with_reducible refine (write_l _ _ acc wd _ hI3 (by omega) (by have := hB3.size; omega)).mono ?_); rintro e w5 ⟨rfl, hI5, hb5, _⟩; have hB5 := hB3.trans hb5)))
            exact ⟨⟨0 + 1, _, rfl, by omega, hI5, hB5, hst.out⟩, by simp [intOf]; omega⟩
          | succ j =>
            obtain ⟨g', o', va', e', x0, x1, x2, x3, x4, hA'⟩ := hT0 j (by omega)
            simp only [Option.some.injEq, Addr.mk.injEq, and_true] at e'
            obtain ⟨rfl, rfl⟩ := e'
            rw [rawAt_succ (by omega)] at hrw
            replace x0 := cell_keep x0 hB
            replace x1 := cell_keep x1 hB
            have X0 := cell_al x0
            have X1 := cell_al x1
            have hjI : (j : Int) < l.length := by omega
            generalize l[j] = tj at *
            obtain ⟨kj, nj, aj, dj, sj⟩ := tj
            simp only at X0 X1
            by_cases h1 : kj = 1
            · subst h1
              have hrj : rawB nj = false := by simpa [rawT] using hrw
              have craw := Lib.hid (fun W => raw_c nj W)
              rw [hrj] at craw
              go_wp2_with (first
                | (go_at_call 20; ((with_reducible refine (craw.out _).mono ?_); rintro e w2 ⟨rfl, hb2⟩; have hI2 := bld_below hIt hb2; have hB2 := below_then hBt (by have := hBt.size; omega) hb2; obtain ⟨⟨y0, y1, y2, y3, y4⟩, y5⟩ := five_facts (heap_below hnt hb2)))
                | (go_at_call 22; ((with_reducible refine (ctx.out _).mono ?_); rintro e w3 ⟨rfl, hb3⟩; have hI3 := bld_below hI2 hb3; have hB3 := below_then hB2 (by have := hB2.size; omega) hb3))
                | (go_at_call 21; ((with_reducible refine (write_l _ _ acc wd _ hI3 (by omega) (by have := hB3.size; omega)).mono ?_); rintro e w5 ⟨rfl, hI5, hb5, _⟩; have hB5 := hB3.trans hb5)))
              exact ⟨⟨j + 1 + 1, _, rfl, by omega, hI5, hB5, hst.out⟩, by simp [intOf]; omega⟩
            · have hk1 : ¬ (kj : Int) = 1 := h1
              go_wp2_with (first
                | (go_at_call 22; ((with_reducible refine (ctx.out _).mono ?_); rintro e w3 ⟨rfl, hb3⟩; have hI3 := bld_below hIt hb3; have hB3 := below_then hBt (by have := hBt.size; omega) hb3))
                | (go_at_call 21; ((with_reducible refine (write_l _ _ acc wd _ hI3 (by omega) (by have := hB3.size; omega)).mono ?_); rintro e w5 ⟨rfl, hI5, hb5, _⟩; have hB5 := hB3.trans hb5)))
              exact ⟨⟨j + 1 + 1, _, rfl, by omega, hI5, hB5, hst.out⟩, by simp [intOf]; omega⟩
        | true =>
          have htw : tokW true ⟨0, nm, at0, d, sf⟩ = d := rfl
          rw [htw] at hst hbl
          cases i with
          | zero => cases hrw
          | succ j =>
            obtain ⟨g', o', va', e', x0, x1, x2, x3, x4, hA'⟩ := hT0 j (by omega)
            simp only [Option.some.injEq, Addr.mk.injEq, and_true] at e'
            obtain ⟨rfl, rfl⟩ := e'
            rw [rawAt_succ (by omega)] at hrw
            replace x0 := cell_keep x0 hB
            replace x1 := cell_keep x1 hB
            have X0 := cell_al x0
            have X1 := cell_al x1
            have hjI : (j : Int) < l.length := by omega
            generalize l[j] = tj at *
            obtain ⟨kj, nj, aj, dj, sj⟩ := tj
            simp only at X0 X1
            simp only [rawT, Bool.and_eq_true, beq_iff_eq] at hrw
            obtain ⟨rfl, hrj⟩ := hrw
            have craw := Lib.hid (fun W => raw_c nj W)
            rw [hrj] at craw
            go_wp2_with (first
              | (go_at_call 20; ((with_reducible refine (craw.out _).mono ?_); rintro e w2 ⟨rfl, hb2⟩; have hI2 := bld_below hIt hb2; have hB2 := below_then hBt (by have := hBt.size; omega) hb2; obtain ⟨⟨y0, y1, y2, y3, y4⟩, y5⟩ := five_facts (heap_below hnt hb2)))
              | (go_at_call 21; ((with_reducible refine (write_l _ _ acc d _ hI2 (by omega) (by have := hB2.size; omega)).mono ?_); rintro e w5 ⟨rfl, hI5, hb5, _⟩; have hB5 := hB2.trans hb5)))
            exact ⟨⟨j + 1 + 1, _, rfl, by omega, hI5, hB5, hst.out⟩, by simp [intOf]; omega⟩
      · by_cases k1 : kk = 1
        · subst k1
          have htw : tokW rw0 ⟨1, nm, at0, d, sf⟩ = taggedW [60] ⟨1, nm, at0, d, sf⟩ := rfl
          rw [htw] at hst hbl
          have hsub : at0.length ≤ 1000000000000 := by
            have := attrsW_len at0
            simp only [taggedW, List.length_append] at hbl
            omega
          have ctag := Lib.hid (fun W h => tagged_c [60] nm d 1 at0 sf (.slice ad3 at0.length cp3) (by omega) hsub W h)
          generalize taggedW [60] ⟨1, nm, at0, d, sf⟩ = tx at *
          go_wp2_with (first
            | (go_at_call 23; ((with_reducible refine (ctag.out _ (hAt)).mono ?_); rintro e w3 ⟨rfl, hb3⟩; have hI3 := bld_below hIt hb3; have hB3 := below_then hBt (by have := hBt.size; omega) hb3))
            | (go_at_call 21; ((with_reducible refine (write_l _ _ acc tx _ hI3 (by omega) (by have := hB3.size; omega)).mono ?_); rintro e w5 ⟨rfl, hI5, hb5, _⟩; have hB5 := hB3.trans hb5)))
          exact ⟨⟨i + 1, _, rfl, by omega, hI5, hB5, hst.out⟩, by simp [intOf]; omega⟩
        · by_cases k2 : kk = 2
          · subst k2
            have htw : tokW rw0 ⟨2, nm, at0, d, sf⟩ = taggedW [60, 47] ⟨0, nm, [], [], false⟩ := rfl
            rw [htw] at hst hbl
            have ctag := Lib.hid (fun W h => tagged_c [60, 47] nm [] 0 [] false (.slice none 0 0) (by omega) (by simp) W h)
            generalize taggedW [60, 47] ⟨0, nm, [], [], false⟩ = tx at *
            go_wp2_with (first
              | (go_at_call 23; ((with_reducible refine (ctag.out _ (RdA.nil _)).mono ?_); rintro e w3 ⟨rfl, hb3⟩; have hI3 := bld_below hIt hb3; have hB3 := below_then hBt (by have := hBt.size; omega) hb3))
              | (go_at_call 21; ((with_reducible refine (write_l _ _ acc tx _ hI3 (by omega) (by have := hB3.size; omega)).mono ?_); rintro e w5 ⟨rfl, hI5, hb5, _⟩; have hB5 := hB3.trans hb5)))
            exact ⟨⟨i + 1, _, rfl, by omega, hI5, hB5, hst.out⟩, by simp [intOf]; omega⟩
          · by_cases k3 : kk = 3
            · subst k3
              have htw : tokW rw0 ⟨3, nm, at0, d, sf⟩ = [60, 33, 45, 45] ++ d ++ [45, 45, 62] := rfl
              rw [htw] at hst hbl
              have hdl : d.length ≤ 1000000000 := by simp at hbl; omega
              have hcat : (⟨#[60, 33, 45, 45]⟩ : ByteArray) ++ ⟨d.toArray⟩ ++ ⟨#[45, 45, 62]⟩ = ⟨([60, 33, 45, 45] ++ d ++ [45, 45, 62]).toArray⟩ := by
                apply ByteArray.ext
                simp
              generalize [60, 33, 45, 45] ++ d ++ [45, 45, 62] = tx at *
              go_wp2_with (first
                | (go_at_call 21; ((with_reducible refine (write_l _ _ acc tx _ hIt (by omega) (by have := hBt.size; omega)).mono ?_); rintro e w5 ⟨rfl, hI5, hb5, _⟩; have hB5 := hBt.trans hb5)))
              exact ⟨⟨i + 1, _, rfl, by omega, hI5, hB5, hst.out⟩, by simp [intOf]; omega⟩
            · by_cases k4 : kk = 4
              · subst k4
                have htw : tokW rw0 ⟨4, nm, at0, d, sf⟩ = [60, 33, 100, 111, 99, 116, 121, 112, 101, 32] ++ d ++ [62] := rfl
                rw [htw] at hst hbl
                have hdl : d.length ≤ 1000000000 := by simp at hbl; omega
                have hcat : (⟨#[60, 33, 100, 111, 99, 116, 121, 112, 101, 32]⟩ : ByteArray) ++ ⟨d.toArray⟩ ++ ⟨#[62]⟩ = ⟨([60, 33, 100, 111, 99, 116, 121, 112, 101, 32] ++ d ++ [62]).toArray⟩ := by
                  apply ByteArray.ext
                  simp
                generalize [60, 33, 100, 111, 99, 116, 121, 112, 101, 32] ++ d ++ [62] = tx at *
                go_wp2_with (first
                  | (go_at_call 21; ((with_reducible refine (write_l _ _ acc tx _ hIt (by omega) (by have := hBt.size; omega)).mono ?_); rintro e w5 ⟨rfl, hI5, hb5, _⟩; have hB5 := hBt.trans hb5)))
                exact ⟨⟨i + 1, _, rfl, by omega, hI5, hB5, hst.out⟩, by simp [intOf]; omega⟩
              · have htw : tokW rw0 ⟨kk, nm, at0, d, sf⟩ = [] := by simp [tokW, k0, k1, k2, k3, k4]
                rw [htw, List.append_nil] at hst
                go_wp2
                exact ⟨⟨i + 1, _, rfl, by omega, hIt, hBt, hst.out⟩, by simp [intOf]; omega⟩
    · have hd : writeN false l = acc := by
        rw [hinv.out, List.drop_eq_nil_of_le (by omega), writeN, List.append_nil]
      have hd := Lib.hid hd
      rename_i hd0
      clear hd0
      go_wp2_with (go_at_call 24; ((with_reducible refine (Tryd.Builder_String_any_k _ _ _ _ hI (by omega)).mono ?_); rintro e w3 ⟨rfl, _, hb3, _⟩))
      go_ret
      rw [hd.out]
      exact ⟨rfl, hB.trans hb3⟩
end Go.Proofs.YtcipgppjhhokbaaDoor
