/- Contracts of token's scanner: until, isDoctype. What lay below the scanner's own blocks does not turn. -/
import Derived.Test.YtcipgppjhhokbaaDoorOpened
import Derived.Test.YtcipgppjhhokbaaDoorNames
set_option linter.unusedVariables false
set_option linter.unusedSimpArgs false
namespace Go.Proofs.YtcipgppjhhokbaaDoor
open Go.RowKit Go.Proofs

/-- The blocks from base on are the call's own; below them lies what lay at its start. -/
def Env (w : World) (base : Nat) : Prop := ∃ w0, Std w0 ∧ w0.heap.size = base ∧ Below base w0 w
theorem Env.std {w : World} {base : Nat} (h : Env w base) : Std w := by
  obtain ⟨w0, h1, rfl, h3⟩ := h
  exact h1.below h3
theorem Env.below {w w' : World} {base : Nat} (h : Env w base) (hb : Below base w w') : Env w' base := by
  obtain ⟨w0, h1, h2, h3⟩ := h
  exact ⟨w0, h1, h2, h3.trans hb⟩
theorem Env.le {w : World} {base : Nat} (h : Env w base) : base ≤ w.heap.size := by
  obtain ⟨w0, h1, rfl, h3⟩ := h
  exact h3.size
theorem below_up {w w' : World} {base : Nat} (hb : Below w.heap.size w w') (h : base ≤ w.heap.size) : Below base w w' := ⟨hb.os, hb.tape, hb.output, hb.size, fun i hi => hb.block i (by omega)⟩
theorem three_facts {w : World} {b : Nat} {v0 v1 v2 : Value} {t : TypeId} (h : w.heap[b]? = some (.cells #[v0, v1, v2] t (0, 0))) :
    (w.cell? ⟨b, 0, none⟩ = some v0 ∧ w.cell? ⟨b, 1, none⟩ = some v1 ∧ w.cell? ⟨b, 2, none⟩ = some v2) ∧ (∀ j, w.frozen? ⟨b, j, none⟩ = false) := by
  refine ⟨⟨?_, ?_, ?_⟩, fun j => frozen_of_row w b j _ _ h⟩ <;> (rw [Lib.cell_of_heap h]; rfl)

theorem cutg_c (s e : Txt) (hs : s.length ≤ 1000000000) (w : World) (hS : Std w) :
    Calls Tryd.prog 55 #[.string ⟨s.toArray⟩, .string ⟨e.toArray⟩] w fun r w' => r = .returned (.tuple #[.string ⟨(Lib.cut s e).1.toArray⟩, .string ⟨(Lib.cut s e).2.1.toArray⟩, .bool (Lib.cut s e).2.2]) ∧ Below w.heap.size w w' := by
  obtain ⟨m, hm⟩ := hS.maxLen
  refine (Tryd.strings_Cut ⟨s.toArray⟩ ⟨e.toArray⟩ m w (by rw [mk_size]; omega) hm).mono ?_
  rintro e w' ⟨rfl, n, rfl⟩
  refine ⟨?_, below_drewN (Below.refl _ _) n⟩
  rw [mk_data_list, mk_data_list]
theorem cut_false {s e : Txt} (h : (Lib.cut s e).2.2 = false) : Lib.cut s e = (s, [], false) := by
  unfold Lib.cut at *
  split
  · rename_i h0
    rw [if_pos h0] at h
    simp at h
  · rfl

set_option maxHeartbeats 1000000 in
set_option maxRecDepth 100000 in
theorem until_c (base b : Nat) (s t e : Txt) (l : List Tok) (hs : s.length ≤ 1000000000) (w : World) (hsc : Sc w base b s t l) (hE : Env w base) :
    Calls Tryd.prog 60 #[.pointer (some ⟨b, 0, none⟩), .string ⟨e.toArray⟩] w fun r w' => r = .returned (.string ⟨(untilF s e).1.toArray⟩) ∧ Sc w' base b (untilF s e).2 t l ∧ Below base w w' := by
  have hS := hE.std
  have hle := hE.le
  have hbb := hsc.1
  have hcut := Lib.hid (fun W hS => cutg_c s e hs W hS)
  unfold untilF
  have hcf := Lib.hid (fun h => cut_false (s := s) (e := e) h)
  generalize Lib.cut s e = c at *
  obtain ⟨v1, v2, fd⟩ := c
  obtain ⟨_, v, hh, hT⟩ := id hsc
  obtain ⟨⟨c0, c1, c2⟩, c5⟩ := three_facts hh
  cases fd with
  | true =>
    go_enter Tryd.func60, Tryd.ntmps60
    go_wp2_with (go_at_call 55; ((with_reducible refine (hcut.out _ hS).mono ?_); rintro e w2 ⟨rfl, hb2⟩; have hsc2 := hsc.below hb2; obtain ⟨_, v2', hh2, hT2⟩ := id hsc2; obtain ⟨⟨d0, d1, d2⟩, d5⟩ := three_facts hh2))
    go_ret
    exact ⟨rfl, hsc2.set_s v2, below_set (below_up hb2 hle) hbb _⟩
  | false =>
    have hcc := hcf.out rfl
    simp only [Prod.mk.injEq] at hcc
    obtain ⟨rfl, rfl, _⟩ := hcc
    go_enter Tryd.func60, Tryd.ntmps60
    go_wp2_with (go_at_call 55; ((with_reducible refine (hcut.out _ hS).mono ?_); rintro e w2 ⟨rfl, hb2⟩; have hsc2 := hsc.below hb2; obtain ⟨_, v2', hh2, hT2⟩ := id hsc2; obtain ⟨⟨d0, d1, d2⟩, d5⟩ := three_facts hh2))
    go_ret
    exact ⟨rfl, hsc2.set_s [], below_set (below_up hb2 hle) hbb _⟩

set_option maxHeartbeats 1000000 in
set_option maxRecDepth 100000 in
theorem isDoctype_c (s : Txt) (hs : s.length ≤ 1000000000) (w : World) :
    Calls Tryd.prog 52 #[.string ⟨s.toArray⟩] w fun r w' => r = .returned (.bool (isDoctypeB s)) ∧ Below w.heap.size w w' := by
  have h1 := Lib.hid (fun W => fsame_c (s.take 8) [33, 100, 111, 99, 116, 121, 112, 101] (by simp; omega) (by simp) W)
  have h2 := Lib.hid (fun W => letter_c (s.drop 8) W)
  have hd : Hid (isDoctypeB s = (decide (8 ≤ s.length) && sameB (s.take 8) [33, 100, 111, 99, 116, 121, 112, 101] && !letterL (s.drop 8))) := rfl
  generalize isDoctypeB s = r at *
  generalize sameB (s.take 8) [33, 100, 111, 99, 116, 121, 112, 101] = q at *
  generalize letterL (s.drop 8) = p at *
  by_cases hl : 8 ≤ s.length
  · have hlI : (8 : Int) ≤ s.length := by omega
    cases q with
    | true =>
      have hr := hd.out
      simp only [hl, decide_true, Bool.true_and] at hr
      have hr := Lib.hid hr
      rename_i hr0
      clear hr0
      go_enter Tryd.func52, Tryd.ntmps52
      go_wp2_with (first
        | (go_at_call 43; ((with_reducible refine (h1.out _).mono ?_); rintro e w1 ⟨rfl, hb⟩))
        | (go_at_call 49; ((with_reducible refine (h2.out _).mono ?_); rintro e w2 ⟨rfl, rfl⟩)))
      go_ret
      rw [hr.out]
      exact ⟨rfl, hb⟩
    | false =>
      have hr := hd.out
      simp only [Bool.and_false, Bool.false_and] at hr
      subst hr
      go_enter Tryd.func52, Tryd.ntmps52
      go_wp2_with (first
        | (go_at_call 43; ((with_reducible refine (h1.out _).mono ?_); rintro e w1 ⟨rfl, hb⟩))
        | (go_at_call 49; ((with_reducible refine (h2.out _).mono ?_); rintro e w2 ⟨rfl, rfl⟩)))
      go_ret
      exact ⟨rfl, hb⟩
  · have hlI : ¬ (8 : Int) ≤ s.length := by omega
    have hr := hd.out
    simp only [hl, decide_false, Bool.false_and] at hr
    subst hr
    go_enter Tryd.func52, Tryd.ntmps52
    go_wp2
    go_ret
    exact ⟨rfl, Below.refl _ _⟩
end Go.Proofs.YtcipgppjhhokbaaDoor
