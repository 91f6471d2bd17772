/- Lemmas and walks, part 14: RTWrite. -/
import Derived.Test.YtdnbaliibiginaaDoorTWM13
import Derived.Deep.RegionHeld3
import Derived.Laws.Runes
import Derived.Deep.QuietTactic
import Derived.BigQuiet
set_option linter.unusedVariables false
set_option linter.unusedSimpArgs false

/- Contract of the reference's Write: tokens, written, as token.Write has it. Nothing that lay in memory turns. Condition: at most 10^9 bytes come of it. -/
namespace Go.Proofs.YtdnbaliibiginaaDoor
open Go.RowKit Go.Proofs


set_option maxHeartbeats 8000000 in
set_option maxRecDepth 100000 in
theorem rwrite_t (v : Value) (l : List Tok) (hl : l.length ≤ 9223372036854775807) (hz : (writeL l).length ≤ 1000000000) (w : World) (hT : RdT w v l) :
    Calls Tryd.prog 22 #[v] w fun e w' => e = .returned (.string ⟨(writeL l).toArray⟩) ∧ Below w.heap.size w w' := by
  unfold writeL at *
  obtain ⟨ad, cp, rfl, hT0⟩ := id hT
  go_enter Tryd.func22, Tryd.ntmps22
  go_wp2
  go_loopw [3, 4] (fun vs vi wr => ∃ (i : Nat) (acc : Txt), vi = .int .i64 i ∧ vs = .string ⟨acc.toArray⟩ ∧ i ≤ l.length ∧ Below w.heap.size w wr ∧ Hid (writeN false l = acc ++ writeN (rawAt l i) (l.drop i))) (fun _ vi _ => l.length - (intOf vi).toNat)
  case atStart => exact ⟨0, [], rfl, rfl, by omega, Below.refl _ _, rfl⟩
  case round =>
    obtain ⟨i, acc, rfl, rfl, hi, hB, hinv⟩ := hrel
    by_cases hlt : i < l.length
    · obtain ⟨g, o, va, rfl, z0, z1, z2, z3, z4, hA⟩ := hT0 i hlt
      have hst := Lib.hid (write_step hlt hinv.out)
      have hbl := write_len hst.out _ hz
      rw [List.length_append] at hbl
      have hacc : acc.length ≤ 1000000000 := by omega
      replace z0 := cell_keep z0 hB
      replace z1 := cell_keep z1 hB
      replace z2 := cell_keep z2 hB
      replace z3 := cell_keep z3 hB
      replace z4 := cell_keep z4 hB
      replace hA := hA.below hB
      have hlI : (i : Int) < l.length := by omega
      clear hinv
      generalize hrw : rawAt l i = rw0 at *
      generalize htk : l[i] = tk at *
      obtain ⟨kk, nm, at0, d, sf⟩ := tk
      simp only at z0 z1 z2 z3 z4 hA
      obtain ⟨ad3, cp3, rfl, hA0⟩ := id hA
      have hg := cell_lt z0
      have hn1 : g ≠ wr.heap.size := by omega
      have hnt := new_cells wr #[.int .i64 kk, .string ⟨nm.toArray⟩, .string ⟨d.toArray⟩, .slice ad3 at0.length cp3, .bool sf] 56
      have hBt := hB.alloc hB.size (.cells #[.int .i64 kk, .string ⟨nm.toArray⟩, .string ⟨d.toArray⟩, .slice ad3 at0.length cp3, .bool sf] 56)
      have hAt := hA.below ((Below.refl _ wr).alloc (Nat.le_refl _) (.cells #[.int .i64 kk, .string ⟨nm.toArray⟩, .string ⟨d.toArray⟩, .slice ad3 at0.length cp3, .bool sf] 56))
      have hszt : wr.heap.size < (wr.alloc (.cells #[.int .i64 kk, .string ⟨nm.toArray⟩, .string ⟨d.toArray⟩, .slice ad3 at0.length cp3, .bool sf] 56)).heap.size := by rw [World.size_alloc]; omega
      obtain ⟨⟨p0, p1, p2, p3, p4⟩, p5⟩ := five_facts hnt
      by_cases k0 : kk = 0
      · subst k0
        have hwl := wr_ge false d
        cases rw0 with
        | false =>
          have htw : tokW false ⟨0, nm, at0, d, sf⟩ = wrL false d := rfl
          rw [htw] at hst hbl
          have ctx := Lib.hid (fun W => rwrite_false d (by omega) W)
          generalize wrL false d = tx at *
          have hcat2 : (⟨acc.toArray⟩ : ByteArray) ++ ⟨tx.toArray⟩ = ⟨(acc ++ tx).toArray⟩ := str_app acc tx
          have htxl : tx.length ≤ 1000000000 := by omega
          cases i with
          | zero =>
            simp only [Nat.zero_mul, Nat.add_zero] at z0 z1 z2 z3 z4
            rw [show ((0 : Nat) : Int) = 0 from rfl]
            have hlI0 : (0 : Int) < (l.length : Int) := by omega
            go_wp2
            go_quiet (fail)
            all_goals
              have hBd := below_drewN hBt nq
              go_wp2_with (first
                | (go_at_call 28; ((with_reducible refine (ctx.out _).mono ?_); rintro e w3 ⟨rfl, hb3⟩; have hB3 := below_then hBd (by have := hBd.size; omega) hb3)))
              exact ⟨⟨0 + 1, _, rfl, by first | rfl | rw [hcat2], by omega, hB3, hst.out⟩, by simp [intOf]; omega⟩
          | succ j =>
            obtain ⟨g', o', va', e', x0, x1, x2, x3, x4, hA'⟩ := hT0 j (by omega)
            simp only [Option.some.injEq, Addr.mk.injEq, and_true] at e'
            obtain ⟨rfl, rfl⟩ := e'
            rw [rawAt_succ (by omega)] at hrw
            replace x0 := cell_keep x0 hB
            replace x1 := cell_keep x1 hB
            have X0 := cell_al x0
            have X1 := cell_al x1
            have hjI : (j : Int) < l.length := by omega
            have hj0 : (0 : Int) ≤ (j : Int) := by omega
            have hjl : j < l.length := by omega
            have hjm : (j : Int) + 1 - 1 = j := by omega
            have hjn : ((j + 1 : Nat) : Int) - 1 = j := by omega
            have hjp : (0 : Int) < (j : Int) + 1 := by omega
            have hjw2 : IntKind.i64.wrap (j : Int) = j := wrap_small _ (by omega) (by omega)
            have hjw : IntKind.i64.wrap ((j : Int) + 1 - 1) = j := by rw [hjm]; exact hjw2
            generalize l[j] = tj at *
            obtain ⟨kj, nj, aj, dj, sj⟩ := tj
            simp only at x0 x1 X0 X1
            by_cases h1 : kj = 1
            · subst h1
              have hrj : rawB nj = false := by simpa [rawT] using hrw
              have craw := Lib.hid (fun W => rraw_c W)
              have chas := Lib.hid (fun b W h => rhas_c b 6 rawsL nj (by rfl) (by decide) W h)
              rw [show inB rawsL nj = false from hrj] at chas
              go_wp2
              go_region_held3 (fun w' => w'.cell? ⟨wr.heap.size, 0, none⟩ = some (.int .i64 0) ∧ w'.cell? ⟨g, o + j * 5, none⟩ = some (.int .i64 1) ∧ w'.cell? ⟨g, o + j * 5 + 1, none⟩ = some (.string ⟨nj.toArray⟩)) (first | exact ⟨p0, X0 _, X1 _⟩ | exact ⟨c0, y0, y1⟩) (first
                | (go_at_call 27; ((with_reducible refine (craw.out _).mono ?_); rintro e w7 ⟨b7, rfl, hTx, hb7⟩; have hb8 : Below (wr.alloc (.cells #[.int .i64 0, .string ⟨nm.toArray⟩, .string ⟨d.toArray⟩, .slice ad3 at0.length cp3, .bool sf] 56)).heap.size (wr.alloc (.cells #[.int .i64 0, .string ⟨nm.toArray⟩, .string ⟨d.toArray⟩, .slice ad3 at0.length cp3, .bool sf] 56)) w7 := (by first | exact below_then (Below.refl _ _).drew (Nat.le_refl _) hb7 | exact hb7); have hB7 := below_then hBt hBt.size hb8; have hn7 := heap_below hnt hb8; obtain ⟨⟨c0, c1, c2, c3, c4⟩, c5⟩ := five_facts hn7; have y0 := cell_keep (X0 (.cells #[.int .i64 0, .string ⟨nm.toArray⟩, .string ⟨d.toArray⟩, .slice ad3 at0.length cp3, .bool sf] 56)) hb8; have y1 := cell_keep (X1 (.cells #[.int .i64 0, .string ⟨nm.toArray⟩, .string ⟨d.toArray⟩, .slice ad3 at0.length cp3, .bool sf] 56)) hb8))
                | (go_at_call 26; ((with_reducible refine (chas.out _ _ (by first | exact hTx | exact hTx.below (Below.refl _ _).drew)).mono ?_); rintro e w9 ⟨rfl, rfl⟩)))
              all_goals
                have hBd := hBt.drew
                go_wp2_with (first
                  | (go_at_call 28; ((with_reducible refine (ctx.out _).mono ?_); rintro e w3 ⟨rfl, hb3⟩; have hB3 := below_then hB7 (by have := hB7.size; omega) hb3)))
                exact ⟨⟨j + 1 + 1, _, rfl, by first | rfl | rw [hcat2], by omega, hB3, hst.out⟩, by simp [intOf]; omega⟩
            · have hk1 : ¬ (kj : Int) = 1 := h1
              go_wp2
              go_quiet (fail)
              all_goals
                have hBd := below_drewN hBt nq
                go_wp2_with (first
                  | (go_at_call 28; ((with_reducible refine (ctx.out _).mono ?_); rintro e w3 ⟨rfl, hb3⟩; have hB3 := below_then hBd (by have := hBd.size; omega) hb3)))
                exact ⟨⟨j + 1 + 1, _, rfl, by first | rfl | rw [hcat2], by omega, hB3, hst.out⟩, by simp [intOf]; omega⟩
        | true =>
          have htw : tokW true ⟨0, nm, at0, d, sf⟩ = d := rfl
          rw [htw] at hst hbl
          have hcat2 : (⟨acc.toArray⟩ : ByteArray) ++ ⟨d.toArray⟩ = ⟨(acc ++ d).toArray⟩ := str_app acc d
          have htxl : d.length ≤ 1000000000 := by omega
          cases i with
          | zero => cases hrw
          | succ j =>
            obtain ⟨g', o', va', e', x0, x1, x2, x3, x4, hA'⟩ := hT0 j (by omega)
            simp only [Option.some.injEq, Addr.mk.injEq, and_true] at e'
            obtain ⟨rfl, rfl⟩ := e'
            rw [rawAt_succ (by omega)] at hrw
            replace x0 := cell_keep x0 hB
            replace x1 := cell_keep x1 hB
            have X0 := cell_al x0
            have X1 := cell_al x1
            have hjI : (j : Int) < l.length := by omega
            have hj0 : (0 : Int) ≤ (j : Int) := by omega
            have hjl : j < l.length := by omega
            have hjm : (j : Int) + 1 - 1 = j := by omega
            have hjn : ((j + 1 : Nat) : Int) - 1 = j := by omega
            have hjp : (0 : Int) < (j : Int) + 1 := by omega
            have hjw2 : IntKind.i64.wrap (j : Int) = j := wrap_small _ (by omega) (by omega)
            have hjw : IntKind.i64.wrap ((j : Int) + 1 - 1) = j := by rw [hjm]; exact hjw2
            generalize l[j] = tj at *
            obtain ⟨kj, nj, aj, dj, sj⟩ := tj
            simp only at x0 x1 X0 X1
            simp only [rawT, Bool.and_eq_true, beq_iff_eq] at hrw
            obtain ⟨rfl, hrj⟩ := hrw
            have craw := Lib.hid (fun W => rraw_c W)
            have chas := Lib.hid (fun b W h => rhas_c b 6 rawsL nj (by rfl) (by decide) W h)
            rw [show inB rawsL nj = true from hrj] at chas
            go_wp2
            go_region_held3 (fun w' => w'.cell? ⟨wr.heap.size, 0, none⟩ = some (.int .i64 0) ∧ w'.cell? ⟨g, o + j * 5, none⟩ = some (.int .i64 1) ∧ w'.cell? ⟨g, o + j * 5 + 1, none⟩ = some (.string ⟨nj.toArray⟩)) (first | exact ⟨p0, X0 _, X1 _⟩ | exact ⟨c0, y0, y1⟩) (first
              | (go_at_call 27; ((with_reducible refine (craw.out _).mono ?_); rintro e w7 ⟨b7, rfl, hTx, hb7⟩; have hb8 : Below (wr.alloc (.cells #[.int .i64 0, .string ⟨nm.toArray⟩, .string ⟨d.toArray⟩, .slice ad3 at0.length cp3, .bool sf] 56)).heap.size (wr.alloc (.cells #[.int .i64 0, .string ⟨nm.toArray⟩, .string ⟨d.toArray⟩, .slice ad3 at0.length cp3, .bool sf] 56)) w7 := (by first | exact below_then (Below.refl _ _).drew (Nat.le_refl _) hb7 | exact hb7); have hB7 := below_then hBt hBt.size hb8; have hn7 := heap_below hnt hb8; obtain ⟨⟨c0, c1, c2, c3, c4⟩, c5⟩ := five_facts hn7; have y0 := cell_keep (X0 (.cells #[.int .i64 0, .string ⟨nm.toArray⟩, .string ⟨d.toArray⟩, .slice ad3 at0.length cp3, .bool sf] 56)) hb8; have y1 := cell_keep (X1 (.cells #[.int .i64 0, .string ⟨nm.toArray⟩, .string ⟨d.toArray⟩, .slice ad3 at0.length cp3, .bool sf] 56)) hb8))
              | (go_at_call 26; ((with_reducible refine (chas.out _ _ (by first | exact hTx | exact hTx.below (Below.refl _ _).drew)).mono ?_); rintro e w9 ⟨rfl, rfl⟩)))
            all_goals
              have hBd := hBt.drew
              go_wp2
              exact ⟨⟨j + 1 + 1, _, rfl, by first | rfl | rw [hcat2], by omega, (by first | exact hB7 | exact hB7.drew), hst.out⟩, by simp [intOf]; omega⟩
      · have k0I : ¬ (kk : Int) = 0 := k0
        by_cases k1 : kk = 1
        · subst k1
          have htw : tokW rw0 ⟨1, nm, at0, d, sf⟩ = taggedW [60] ⟨1, nm, at0, d, sf⟩ := rfl
          rw [htw] at hst hbl
          have hsub : at0.length ≤ 1000000000000 := by
            have := attrsW_len at0
            simp only [taggedW, List.length_append] at hbl
            omega
          have ctag := Lib.hid (fun W h => rtagged_c [60] nm d 1 at0 sf (.slice ad3 at0.length cp3) (by omega) hsub W h)
          generalize taggedW [60] ⟨1, nm, at0, d, sf⟩ = tx at *
          have hcat2 : (⟨acc.toArray⟩ : ByteArray) ++ ⟨tx.toArray⟩ = ⟨(acc ++ tx).toArray⟩ := str_app acc tx
          have htxl : tx.length ≤ 1000000000 := by omega
          go_wp2
          go_quiet (fail)
          all_goals
            have hBd := below_drewN hBt nq
            go_wp2_with (first
              | (go_at_call 47; ((with_reducible refine (ctag.out _ (hAt.below (below_drewN (Below.refl _ _) _))).mono ?_); rintro e w3 ⟨rfl, hb3⟩; have hB3 := below_then hBd (by have := hBd.size; omega) hb3)))
            exact ⟨⟨i + 1, _, rfl, by first | rfl | rw [hcat2], by omega, hB3, hst.out⟩, by simp [intOf]; omega⟩
        · have k1I : ¬ (kk : Int) = 1 := k1
          by_cases k2 : kk = 2
          · subst k2
            have htw : tokW rw0 ⟨2, nm, at0, d, sf⟩ = [60, 47] ++ nm ++ [62] := by simp [tokW, taggedW, attrsW, selfW]
            rw [htw] at hst hbl
            have hdl : nm.length ≤ 1000000000 := by simp at hbl; omega
            have hcat : (⟨#[60, 47]⟩ : ByteArray) ++ ⟨nm.toArray⟩ ++ ⟨#[62]⟩ = ⟨([60, 47] ++ nm ++ [62]).toArray⟩ := by
              apply ByteArray.ext
              simp
            generalize [60, 47] ++ nm ++ [62] = tx at *
            have hcat2 : (⟨acc.toArray⟩ : ByteArray) ++ ⟨tx.toArray⟩ = ⟨(acc ++ tx).toArray⟩ := str_app acc tx
            have htxl : tx.length ≤ 1000000000 := by omega
            go_wp2
            go_quiet (fail)
            all_goals
              have hBd := below_drewN hBt nq
              go_wp2
              exact ⟨⟨i + 1, _, rfl, by first | rfl | rw [hcat2], by omega, hBd, hst.out⟩, by simp [intOf]; omega⟩
          · have k2I : ¬ (kk : Int) = 2 := k2
            by_cases k3 : kk = 3
            · subst k3
              have htw : tokW rw0 ⟨3, nm, at0, d, sf⟩ = [60, 33, 45, 45] ++ d ++ [45, 45, 62] := rfl
              rw [htw] at hst hbl
              have hdl : d.length ≤ 1000000000 := by simp at hbl; omega
              have hcat : (⟨#[60, 33, 45, 45]⟩ : ByteArray) ++ ⟨d.toArray⟩ ++ ⟨#[45, 45, 62]⟩ = ⟨([60, 33, 45, 45] ++ d ++ [45, 45, 62]).toArray⟩ := by
                apply ByteArray.ext
                simp
              generalize [60, 33, 45, 45] ++ d ++ [45, 45, 62] = tx at *
              have hcat2 : (⟨acc.toArray⟩ : ByteArray) ++ ⟨tx.toArray⟩ = ⟨(acc ++ tx).toArray⟩ := str_app acc tx
              have htxl : tx.length ≤ 1000000000 := by omega
              go_wp2
              go_quiet (fail)
              all_goals
                have hBd := below_drewN hBt nq
                go_wp2
                exact ⟨⟨i + 1, _, rfl, by first | rfl | rw [hcat2], by omega, hBd, hst.out⟩, by simp [intOf]; omega⟩
            · have k3I : ¬ (kk : Int) = 3 := k3
              by_cases k4 : kk = 4
              · subst k4
                have htw : tokW rw0 ⟨4, nm, at0, d, sf⟩ = [60, 33, 100, 111, 99, 116, 121, 112, 101, 32] ++ d ++ [62] := rfl
                rw [htw] at hst hbl
                have hdl : d.length ≤ 1000000000 := by simp at hbl; omega
                have hcat : (⟨#[60, 33, 100, 111, 99, 116, 121, 112, 101, 32]⟩ : ByteArray) ++ ⟨d.toArray⟩ ++ ⟨#[62]⟩ = ⟨([60, 33, 100, 111, 99, 116, 121, 112, 101, 32] ++ d ++ [62]).toArray⟩ := by
                  apply ByteArray.ext
                  simp
                generalize [60, 33, 100, 111, 99, 116, 121, 112, 101, 32] ++ d ++ [62] = tx at *
                have hcat2 : (⟨acc.toArray⟩ : ByteArray) ++ ⟨tx.toArray⟩ = ⟨(acc ++ tx).toArray⟩ := str_app acc tx
                have htxl : tx.length ≤ 1000000000 := by omega
                go_wp2
                go_quiet (fail)
                all_goals
                  have hBd := below_drewN hBt nq
                  go_wp2
                  exact ⟨⟨i + 1, _, rfl, by first | rfl | rw [hcat2], by omega, hBd, hst.out⟩, by simp [intOf]; omega⟩
              · have k4I : ¬ (kk : Int) = 4 := k4
                have htw : tokW rw0 ⟨kk, nm, at0, d, sf⟩ = [] := by simp [tokW, k0, k1, k2, k3, k4]
                rw [htw, List.append_nil] at hst
                have hcat2 : True := trivial
                go_wp2
                go_quiet (fail)
                all_goals
                  have hBd := below_drewN hBt nq
                  go_wp2
                  exact ⟨⟨i + 1, _, rfl, by first | rfl | rw [hcat2], by omega, hBd, hst.out⟩, by simp [intOf]; omega⟩
    · have hd : writeN false l = acc := by
        rw [hinv.out, List.drop_eq_nil_of_le (by omega), writeN, List.append_nil]
      have hd := Lib.hid hd
      rename_i hd0
      clear hd0
      go_wp2
      go_ret
      rw [hd.out]
      exact ⟨rfl, hB⟩
end Go.Proofs.YtdnbaliibiginaaDoor
