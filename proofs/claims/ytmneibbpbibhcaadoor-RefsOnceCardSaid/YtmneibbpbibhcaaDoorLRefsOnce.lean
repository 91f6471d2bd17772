/- The walk of boltinglaw03.RefsOnce: it returns true, whatever it is given; nothing that lay in memory turns. -/
import Derived.Test.YtmneibbpbibhcaaDoorMoreP
import Derived.Test.YtmneibbpbibhcaaDoorLRefsBack
set_option linter.unusedVariables false
set_option linter.unusedSimpArgs false
namespace Go.Proofs.YtmneibbpbibhcaaDoor
open Go.RowKit Go.Proofs

set_option maxHeartbeats 1000000 in
set_option maxRecDepth 100000 in
theorem refsOnce_w (l : List UInt8) (hl : l.length ≤ 9223372036854775807) (w : World) (hS : Std w) :
    Calls Tryd.prog 12 #[.string ⟨l.toArray⟩] w fun e w' => e = .returned (.bool true) ∧ Below w.heap.size w w' := by
  go_enter Tryd.func12, Tryd.ntmps12
  go_wp2_with fail
  have hx := take_min_len l 1000
  generalize List.take (min (l.length : Int) 1000).toNat l = x at *
  have hxx : x.length ≤ 1000 := hx
  clear hx
  have hd := decL_len _ x (Nat.le_refl _)
  have sd := Lib.hid (fun W hS => decode_c x (by omega) W hS)
  by_cases he : decL x = x
  · rw [he] at sd
    clear hd he
    go_wp2_with (first
      | (go_at_call 31; ((with_reducible refine (sd.out _ hS).mono ?_); rintro e w3 ⟨rfl, hb3⟩; have hS3 := hS.below hb3))
      | (go_at_call 36; ((with_reducible refine (has_i _ _ (by omega) (by omega) _).mono ?_); rintro e w5 ⟨rfl, rfl⟩))
      | (go_at_call 28; ((with_reducible refine (fixed_c _ hS3).mono ?_); rintro e w6 ⟨rfl, hb6⟩)))
    all_goals go_ret
    all_goals exact ⟨rfl, below_seq hb3 hb6⟩
  · have h1 : hasL x 38 = true := by
      cases h : hasL x 38 with
      | true => rfl
      | false => exact absurd (decL_amp0 h) he
    have h2 : hasL x 59 = true := by
      cases h : hasL x 59 with
      | true => rfl
      | false => exact absurd (decL_semi h) he
    clear he
    generalize decL x = d at *
    go_wp2_with (first
      | (go_at_call 31; ((with_reducible refine (sd.out _ hS).mono ?_); rintro e w3 ⟨rfl, hb3⟩; have hS3 := hS.below hb3))
      | (go_at_call 36; ((with_reducible refine (has_i _ _ (by omega) (by omega) _).mono ?_); rintro e w5 ⟨rfl, rfl⟩))
      | (go_at_call 28; ((with_reducible refine (fixed_c _ hS3).mono ?_); rintro e w6 ⟨rfl, hb6⟩)))
    all_goals go_ret
    all_goals exact ⟨rfl, below_seq hb3 hb6⟩
end Go.Proofs.YtmneibbpbibhcaaDoor
