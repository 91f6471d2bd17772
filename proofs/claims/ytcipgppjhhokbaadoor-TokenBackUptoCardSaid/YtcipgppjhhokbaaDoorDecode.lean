/- Contract of refs.Decode: a text with characters in the place of their references; nothing that lay in memory turns. Condition: at most 10^9 bytes. -/
import Derived.Test.YtcipgppjhhokbaaDoorDec
set_option linter.unusedVariables false
set_option linter.unusedSimpArgs false
namespace Go.Proofs.YtcipgppjhhokbaaDoor
open Go.RowKit Go.Proofs

theorem grown_of_below {w w1 : World} (h : Below w.heap.size w w1) (row : Option Nat) : w.grownBy w1 row := ⟨h.os, h.tape, h.output, h.size, fun i hi _ => h.block i hi⟩
theorem bld_below {T e : TypeId} {B b : Nat} {bs : List Value} {w w1 : World} (h : Lib.IsBuilderF T e B b bs w) (hb : Below w.heap.size w w1) : Lib.IsBuilderF T e B b bs w1 := by
  have key : ∀ p, Lib.BuilderAtF T e B b p bs w → Lib.BuilderAtF T e B b p bs w1 := by
    intro p hp
    have hlt := hp.lt
    obtain ⟨hB, v, hv, hown, hne⟩ := hp
    exact ⟨hB, v, (hb.block b hlt).trans hv, hown.kept (grown_of_below hb none) (by cases hv : v.ownBlock <;> simp), hne⟩
  exact h.elim (fun x => .inl (key _ x)) (fun x => .inr (key _ x))
def strLen : Value → Nat | .string s => s.size | _ => 0
theorem strLen_mk (l : List UInt8) : strLen (.string ⟨l.toArray⟩) = l.length := mk_size l
theorem bld_new (B : Nat) (w : World) (h : B ≤ w.heap.size) : Lib.IsBuilderF 41 5 B w.heap.size (Lib.byteCells []) (w.alloc (.cells #[.pointer none, .slice none 0 0] 41)) := by
  refine .inl ⟨h, .slice none 0 0, ?_, World.ownsRowF_nil _ _ _ _, by simp [Value.ownBlock]⟩
  show (w.heap.push _)[w.heap.size]? = _
  simp

/-- The relation of Decode's loop. -/
def DecRel (l : List UInt8) (w : World) (v : Value) (wr : World) : Prop :=
  ∃ (rest acc : List UInt8), v = .string ⟨rest.toArray⟩ ∧ Lib.IsBuilderF 41 5 w.heap.size w.heap.size (Lib.byteCells acc) wr ∧ Below w.heap.size w wr ∧ w.heap.size < wr.heap.size ∧ decL l = acc ++ decL rest ∧ rest.length ≤ l.length ∧ acc.length + 5 * rest.length ≤ 5 * l.length

set_option maxHeartbeats 1000000 in
set_option maxRecDepth 100000 in
theorem decode_c (l : List UInt8) (hl : l.length ≤ 1000000000) (w : World) (hS : Std w) :
    Calls Tryd.prog 45 #[.string ⟨l.toArray⟩] w fun e w' => e = .returned (.string ⟨(decL l).toArray⟩) ∧ Below w.heap.size w w' := by
  go_enter Tryd.func45, Tryd.ntmps45
  go_wp2
  go_loopw [0] (fun v wr => DecRel l w v wr) (fun v wr => strLen v)
  case atStart =>
    exact ⟨l, [], rfl, bld_new _ _ (Nat.le_refl _), (Below.refl _ w).alloc (Nat.le_refl _) _, by simp, rfl, Nat.le_refl _, by simp⟩
  case round =>
    obtain ⟨rest, acc, rfl, hI, hbw, hsz, hdec, hr1, hr2⟩ := hrel
    have hSr := hS.below hbw
    have hcl := cut1_len 38 rest
    have hcut := Lib.hid (cut_c rest 38 (by omega) wr hSr)
    cases hf : (cut1 38 rest).2.2 with
    | false =>
      rw [hf] at hcut
      have hd := Lib.hid (hdec.trans (by rw [decL_miss hf]))
      clear hdec hf
      have hcl1 : (cut1 38 rest).1.length ≤ rest.length := by omega
      clear hcl
      generalize (cut1 38 rest).1 = before at *
      generalize (cut1 38 rest).2.1 = after at *
      go_wp2_with (go_at_call 55; ((with_reducible refine hcut.out.mono ?_); rintro e w1 ⟨rfl, hb1⟩))
      have hI1 := bld_below hI hb1
      have hz1 := hb1.size
      go_wp2_with (go_at_call 21; ((with_reducible refine (write_l _ _ acc before _ hI1 (by omega) (by omega)).mono ?_); rintro e w2 ⟨rfl, hI2, hb2, _⟩))
      have hz2 := hb2.size
      go_wp2_with (go_at_call 24; ((with_reducible refine (Tryd.Builder_String_any_k _ _ _ _ hI2 (by omega)).mono ?_); rintro e w3 ⟨rfl, _, hb3, _⟩))
      go_wp2
      go_ret
      rw [hd.out]
      exact ⟨rfl, ((below_then hbw (by omega) hb1).trans hb2).trans hb3⟩
    | true =>
      rw [hf] at hcut
      have hd := hdec.trans (by rw [decL_hit hf])
      clear hdec
      rw [if_pos hf] at hcl
      clear hf
      generalize (cut1 38 rest).1 = before at *
      generalize (cut1 38 rest).2.1 = r2 at *
      have hml := meantL_len (cut1 59 r2).1
      have hcut2 := Lib.hid (fun W hS => cut_c r2 59 (by omega) W hS)
      have hm := Lib.hid (fun W hS => meant_c (cut1 59 r2).1 (by have := cut1_len 59 r2; omega) W hS)
      have hlen2 := cut1_len 59 r2
      have hd1 := Lib.hid (fun h1 h2 => hd.trans (by rw [decL_ref h1 h2]))
      have hd2 := Lib.hid (fun h => hd.trans (by rw [decL_amp h]))
      clear hd
      generalize (cut1 59 r2).2.2 = ends at *
      generalize (cut1 59 r2).1 = name at *
      generalize (cut1 59 r2).2.1 = after at *
      generalize (meantL name).2 = is at *
      generalize (meantL name).1 = t at *
      cases ends <;> cases is
      all_goals
        go_wp2_with (go_at_call 55; ((with_reducible refine hcut.out.mono ?_); rintro e w1 ⟨rfl, hb1⟩))
        have hI1 := bld_below hI hb1
        have hz1 := hb1.size
        go_wp2_with (go_at_call 21; ((with_reducible refine (write_l _ _ acc before _ hI1 (by omega) (by omega)).mono ?_); rintro e w2 ⟨rfl, hI2, hb2, _⟩))
        have hz2 := hb2.size
        have hbw2 := (below_then hbw (by omega) hb1).trans hb2
        have hS2 := hS.below hbw2
        go_wp2_with (go_at_call 55; ((with_reducible refine (hcut2.out _ hS2).mono ?_); rintro e w3 ⟨rfl, hb3⟩))
        have hS3 := hS2.below hb3
        have hI3 := bld_below hI2 hb3
        have hz3 := hb3.size
        go_wp2_with (go_at_call 56; ((with_reducible refine (hm.out _ hS3).mono ?_); rintro e w4 ⟨rfl, hb4⟩))
        have hI4 := bld_below hI3 hb4
        have hz4 := hb4.size
        have hbw4 := below_then (below_then hbw2 (by omega) hb3) (by omega) hb4
        first
          | (have hd : Hid (decL l = acc ++ (before ++ 38 :: decL r2)) := by first | exact hd2.out rfl | exact hd2.out trivial | exact hd2.out
             go_wp2_with (go_at_call 21; ((with_reducible refine (write_l _ _ _ [38] _ hI4 (by simp; omega) (by omega)).mono ?_); rintro e w5 ⟨rfl, hI5, hb5, _⟩))
             go_wp2
             go_roundw
             case rel => exact ⟨r2, acc ++ before ++ [38], rfl, hI5, hbw4.trans hb5, by have := hb5.size; omega, by rw [hd.out]; simp, by omega, by simp; omega⟩
             case measure => rw [strLen_mk, strLen_mk]; omega)
          | (have hd : Hid (decL l = acc ++ (before ++ (t ++ decL after))) := by first | exact hd1.out rfl rfl | exact hd1.out trivial trivial | exact hd1.out
             go_wp2_with (go_at_call 21; ((with_reducible refine (write_l _ _ _ t _ hI4 (by simp; omega) (by omega)).mono ?_); rintro e w5 ⟨rfl, hI5, hb5, _⟩))
             go_wp2
             go_roundw
             case rel => exact ⟨after, acc ++ before ++ t, rfl, hI5, hbw4.trans hb5, by have := hb5.size; omega, by rw [hd.out]; simp, by simp at hlen2; omega, by simp at hlen2 ⊢; omega⟩
             case measure => rw [strLen_mk, strLen_mk]; simp at hlen2; omega)
end Go.Proofs.YtcipgppjhhokbaaDoor
