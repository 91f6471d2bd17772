/- Lemmas and walks, part 12: ScanI. -/
import Derived.Test.YtdnbaliibiginaaGreatDoorTIM11
set_option linter.unusedVariables false
set_option linter.unusedSimpArgs false

/- Contracts of token.Cut and In: the tokens lie in blocks that the call made. What lay in memory does not turn. -/
namespace Go.Proofs.YtdnbaliibiginaaGreatDoor
open Go.RowKit Go.Proofs

theorem sc_new (s : Txt) (w : World) : Sc (w.alloc (.cells #[.string ⟨s.toArray⟩, .string ⟨#[]⟩, .slice none 0 0] 64)) w.heap.size w.heap.size s [] [] := ⟨Nat.le_refl _, _, new_cells _ _ _, Toks.nil _ _⟩
theorem env_new {w : World} (hS : Std w) (o : Obj) : Env (w.alloc o) w.heap.size := ⟨w, hS, rfl, (Below.refl _ w).alloc (Nat.le_refl _) o⟩

set_option maxHeartbeats 1000000 in
set_option maxRecDepth 100000 in
theorem cut_g (s : Txt) (hs : s.length ≤ 900000000) (w : World) (hS : Std w) :
    Calls Tryz.prog 11 #[.string ⟨s.toArray⟩] w fun e w' => ∃ v, e = .returned v ∧ Toks w' w.heap.size v (cutL s) ∧ Below w.heap.size w w' := by
  have hsc := sc_new s w
  have hE := env_new hS (.cells #[.string ⟨s.toArray⟩, .string ⟨#[]⟩, .slice none 0 0] 64)
  have hB := (Below.refl _ w).alloc (Nat.le_refl _) (.cells #[.string ⟨s.toArray⟩, .string ⟨#[]⟩, .slice none 0 0] 64)
  have hall := Lib.hid (all_c w.heap.size w.heap.size s [] [] (by simpa using hs) (by simp) _ hsc hE)
  unfold cutL
  rw [List.nil_append] at hall
  generalize runF [] s = l at *
  go_enter Tryz.func11, Tryz.ntmps11
  go_wp2_with (go_at_call 45; ((with_reducible refine (hall.out).mono ?_); rintro e w3 ⟨v, rfl, hT3, hb3⟩; obtain ⟨ad, cp, rfl⟩ := hT3.len))
  go_ret
  exact ⟨_, rfl, hT3, hB.trans hb3⟩

theorem short_of {L : List Txt} (h : L.all (fun l => decide (l.length ≤ 1000000000)) = true) {l : Txt} (hi : inB L l = true) : l.length ≤ 1000000000 := by
  rw [List.all_eq_true] at h
  have := h l (by simpa [inB] using hi)
  simpa using this
theorem raws_short : rawsL.all (fun l => decide (l.length ≤ 1000000000)) = true := by decide +kernel
theorem softs_short : softsL.all (fun l => decide (l.length ≤ 1000000000)) = true := by decide +kernel

set_option maxHeartbeats 1000000 in
set_option maxRecDepth 100000 in
theorem in_any (s nm : Txt) (hs : s.length ≤ 900000000) (w : World) (hS : Std w) :
    Calls Tryz.prog 15 #[.string ⟨s.toArray⟩, .string ⟨nm.toArray⟩] w fun e w' => ∃ v, e = .returned v ∧ Toks w' w.heap.size v (inL s nm) ∧ Below w.heap.size w w' := by
  have hsc := sc_new s w
  have hE := env_new hS (.cells #[.string ⟨s.toArray⟩, .string ⟨#[]⟩, .slice none 0 0] 64)
  have hB := (Below.refl _ w).alloc (Nat.le_refl _) (.cells #[.string ⟨s.toArray⟩, .string ⟨#[]⟩, .slice none 0 0] 64)
  have hle := hE.le
  have hraw := Lib.hid (fun W => raw_c nm W)
  have hsoft := Lib.hid (fun W => soft_c nm W)
  have hil : (insideT nm s).length ≤ 10 := by unfold insideT; split <;> simp
  have hrl := insideR_le nm s
  have hins0 := fun W h1 h2 (hnm : nm.length ≤ 1000000000) => inside_c w.heap.size w.heap.size s [] nm [] (by omega) hnm (by simp) W h1 h2
  rw [List.nil_append] at hins0
  have hins := Lib.hid hins0
  clear hins0
  have hall1 := Lib.hid (fun W h1 h2 => all_c w.heap.size w.heap.size (insideR nm s) [] (insideT nm s) (by simp; omega) hil W h1 h2)
  have hall2 := Lib.hid (fun W h1 h2 => all_c w.heap.size w.heap.size s [] [] (by simpa using hs) (by simp) W h1 h2)
  rw [List.nil_append] at hall2
  unfold inL
  generalize runF [] s = l at *
  generalize runF [] (insideR nm s) = l2 at *
  generalize hq1 : rawB nm = b1 at *
  generalize hq2 : softB nm = b2 at *
  cases b1 with
  | true =>
    have hn1 : nm.length ≤ 1000000000 := short_of raws_short hq1
    clear hq1 hq2
    simp only [Bool.true_or, if_true]
    go_enter Tryz.func15, Tryz.ntmps15
    go_wp2_with (first
      | (go_at_call 47; ((with_reducible refine (hraw.out _).mono ?_); rintro e w1 ⟨rfl, hb1⟩; have hsc1 := hsc.below hb1; have hB1 := below_then hB hle hb1; have hE1 := hE.below (below_up hb1 hle)))
      | (go_at_call 49; ((with_reducible refine (hins.out _ hsc1 hE1 hn1).mono ?_); rintro e w3 ⟨rfl, hsc3, hb3⟩; have hE3 := hE1.below hb3))
      | (go_at_call 45; ((with_reducible refine (hall1.out _ hsc3 hE3).mono ?_); rintro e w4 ⟨v, rfl, hT4, hb4⟩; obtain ⟨ad, cp, rfl⟩ := hT4.len; rw [List.length_append] at hT4)))
    go_ret
    exact ⟨_, rfl, hT4, (hB1.trans hb3).trans hb4⟩
  | false =>
    clear hq1
    cases b2 with
    | true =>
      have hn1 : nm.length ≤ 1000000000 := short_of softs_short hq2
      clear hq2
      simp only [Bool.false_or, if_true]
      go_enter Tryz.func15, Tryz.ntmps15
      go_wp2_with (first
        | (go_at_call 47; ((with_reducible refine (hraw.out _).mono ?_); rintro e w0 ⟨rfl, hb0⟩; have hsc0 := hsc.below hb0; have hB0 := below_then hB hle hb0; have hE0 := hE.below (below_up hb0 hle); have hle0 := hE0.le))
        | (go_at_call 48; ((with_reducible refine (hsoft.out _).mono ?_); rintro e w1 ⟨rfl, hb1⟩; have hsc1 := hsc0.below hb1; have hB1 := below_then hB0 hle0 hb1; have hE1 := hE0.below (below_up hb1 hle0)))
        | (go_at_call 49; ((with_reducible refine (hins.out _ hsc1 hE1 hn1).mono ?_); rintro e w3 ⟨rfl, hsc3, hb3⟩; have hE3 := hE1.below hb3))
        | (go_at_call 45; ((with_reducible refine (hall1.out _ hsc3 hE3).mono ?_); rintro e w4 ⟨v, rfl, hT4, hb4⟩; obtain ⟨ad, cp, rfl⟩ := hT4.len; rw [List.length_append] at hT4)))
      go_ret
      exact ⟨_, rfl, hT4, (hB1.trans hb3).trans hb4⟩
    | false =>
      clear hq2
      simp only [Bool.false_or, Bool.false_eq_true, if_false]
      go_enter Tryz.func15, Tryz.ntmps15
      go_wp2_with (first
        | (go_at_call 47; ((with_reducible refine (hraw.out _).mono ?_); rintro e w0 ⟨rfl, hb0⟩; have hsc0 := hsc.below hb0; have hB0 := below_then hB hle hb0; have hE0 := hE.below (below_up hb0 hle); have hle0 := hE0.le))
        | (go_at_call 48; ((with_reducible refine (hsoft.out _).mono ?_); rintro e w1 ⟨rfl, hb1⟩; have hsc1 := hsc0.below hb1; have hB1 := below_then hB0 hle0 hb1; have hE1 := hE0.below (below_up hb1 hle0)))
        | (go_at_call 45; ((with_reducible refine (hall2.out _ hsc1 hE1).mono ?_); rintro e w4 ⟨v, rfl, hT4, hb4⟩; obtain ⟨ad, cp, rfl⟩ := hT4.len)))
      go_ret
      exact ⟨_, rfl, hT4, hB1.trans hb4⟩
theorem in_g (s nm : Txt) (hs : s.length ≤ 900000000) (hnm : nm.length ≤ 1000000000) (w : World) (hS : Std w) :
    Calls Tryz.prog 15 #[.string ⟨s.toArray⟩, .string ⟨nm.toArray⟩] w fun e w' => ∃ v, e = .returned v ∧ Toks w' w.heap.size v (inL s nm) ∧ Below w.heap.size w w' := in_any s nm hs w hS
end Go.Proofs.YtdnbaliibiginaaGreatDoor
