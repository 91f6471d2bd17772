/- The walk of boltinglaw03.RefsSafe: it returns true, whatever it is given; nothing that lay in memory turns. -/
import Derived.Test.YtmneibbpbibhcaaDoorMoreP
import Derived.Test.YtmneibbpbibhcaaDoorLRefsBack
set_option linter.unusedVariables false
set_option linter.unusedSimpArgs false
namespace Go.Proofs.YtmneibbpbibhcaaDoor
open Go.RowKit Go.Proofs

set_option maxHeartbeats 1000000 in
set_option maxRecDepth 100000 in
theorem refsSafe_w (l : List UInt8) (hl : l.length ≤ 9223372036854775807) (w : World) (hS : Std w) :
    Calls Tryd.prog 13 #[.string ⟨l.toArray⟩] w fun e w' => e = .returned (.bool true) ∧ Below w.heap.size w w' := by
  go_enter Tryd.func13, Tryd.ntmps13
  go_wp2_with fail
  have hx := take_min_len l 1000
  generalize List.take (min (l.length : Int) 1000).toNat l = x at *
  have hxx : x.length ≤ 1000 := hx
  clear hx
  have l1 := wr_ge false x
  have l2 := wr_ge2 x
  have l3 := wr_len true x
  have st := Lib.hid (fun W => text_c x (by omega) W)
  have sv := Lib.hid (fun W => value_c x (by omega) W)
  have st2 := Lib.hid (fun W => text_c (wrL false x) (by omega) W)
  have h34 : hasL x 34 = true ∨ wrL false x = wrL true x := by
    cases h : hasL x 34 with
    | true => exact .inl rfl
    | false => exact .inr (wr_quote x (hasL_mem (c := 34) h))
  have hB := Below.refl w.heap.size w
  have h2 := Lib.hid (wr_twice x)
  by_cases he : wrL false x = x
  · rw [he] at st st2 l1 l2 h34
    rw [he] at st2
    clear he h2
    generalize wrL true x = v at *
    rcases h34 with h34 | rfl
    all_goals
      go_wp2_with (first
      | (go_at_call 33; first
          | ((with_reducible refine (st.out _).mono ?_); rintro e w1 ⟨rfl, hb⟩; replace hB := below_seq hB hb; replace hS := hS.below hb; clear hb)
          | ((with_reducible refine (st2.out _).mono ?_); rintro e w1 ⟨rfl, hb⟩; replace hB := below_seq hB hb; replace hS := hS.below hb; clear hb))
      | (go_at_call 35; ((with_reducible refine (sv.out _).mono ?_); rintro e w1 ⟨rfl, hb⟩; replace hB := below_seq hB hb; replace hS := hS.below hb; clear hb))
      | (go_at_call 36; ((with_reducible refine (has_i _ _ (by omega) (by omega) _).mono ?_); rintro e w5 ⟨rfl, rfl⟩))
      | (go_at_call 28; ((with_reducible refine (fixed_c _ hS).mono ?_); rintro e w1 ⟨rfl, hb⟩; replace hB := below_seq hB hb; replace hS := hS.below hb; clear hb)))
      all_goals go_ret
      all_goals exact ⟨rfl, hB⟩
  · have he2 : ¬ wrL false (wrL false x) = wrL false x := fun e => he (h2.out.1 e)
    have hb1 : ((wrL false x) == x) = false := by simpa using he
    have hb2 : ((wrL false (wrL false x)) == wrL false x) = false := by simpa using he2
    clear he he2 h2
    generalize wrL false (wrL false x) = u at *
    generalize wrL false x = t at *
    generalize wrL true x = v at *
    rcases h34 with h34 | rfl
    all_goals
      go_wp2_with (first
      | (go_at_call 33; first
          | ((with_reducible refine (st.out _).mono ?_); rintro e w1 ⟨rfl, hb⟩; replace hB := below_seq hB hb; replace hS := hS.below hb; clear hb)
          | ((with_reducible refine (st2.out _).mono ?_); rintro e w1 ⟨rfl, hb⟩; replace hB := below_seq hB hb; replace hS := hS.below hb; clear hb))
      | (go_at_call 35; ((with_reducible refine (sv.out _).mono ?_); rintro e w1 ⟨rfl, hb⟩; replace hB := below_seq hB hb; replace hS := hS.below hb; clear hb))
      | (go_at_call 36; ((with_reducible refine (has_i _ _ (by omega) (by omega) _).mono ?_); rintro e w5 ⟨rfl, rfl⟩))
      | (go_at_call 28; ((with_reducible refine (fixed_c _ hS).mono ?_); rintro e w1 ⟨rfl, hb⟩; replace hB := below_seq hB hb; replace hS := hS.below hb; clear hb)))
      all_goals go_ret
      all_goals exact ⟨rfl, hB⟩
end Go.Proofs.YtmneibbpbibhcaaDoor
