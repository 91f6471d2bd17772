/- The walk of boltinglaw03.RefsWrites: it returns true, whatever it is given; nothing that lay in memory turns. -/
import Derived.Test.YtmneibbpbibhcaaDoorRWrite
import Derived.Test.YtmneibbpbibhcaaDoorLRefsBack
set_option linter.unusedVariables false
set_option linter.unusedSimpArgs false
namespace Go.Proofs.YtmneibbpbibhcaaDoor
open Go.RowKit Go.Proofs

set_option maxHeartbeats 1000000 in
set_option maxRecDepth 100000 in
theorem refsWrites_w (l : List UInt8) (hl : l.length ≤ 9223372036854775807) (w : World) (hS : Std w) :
    Calls Tryd.prog 8 #[.string ⟨l.toArray⟩] w fun e w' => e = .returned (.bool true) ∧ Below w.heap.size w w' := by
  have hB := Below.refl w.heap.size w
  go_enter Tryd.func8, Tryd.ntmps8
  go_wp2_with fail
  have hx := take_min_len l 2000
  generalize List.take (min (l.length : Int) 2000).toNat l = x at *
  have hxx : x.length ≤ 2000 := hx
  clear hx
  have ct := Lib.hid (fun W => text_c x (by omega) W)
  have cv := Lib.hid (fun W => value_c x (by omega) W)
  have rt := Lib.hid (fun W => rwrite_false x (by omega) W)
  have rv := Lib.hid (fun W => rwrite_true x (by omega) W)
  generalize wrL false x = t at *
  generalize wrL true x = v at *
  go_wp2_with (first
    | (go_at_call 33; ((with_reducible refine (ct.out _).mono ?_); rintro e w1 ⟨rfl, hb⟩; replace hB := below_seq hB hb; replace hS := hS.below hb; clear hb))
    | (go_at_call 35; ((with_reducible refine (cv.out _).mono ?_); rintro e w1 ⟨rfl, hb⟩; replace hB := below_seq hB hb; replace hS := hS.below hb; clear hb))
    | (go_at_call 34; first
        | ((with_reducible refine (rt.out _).mono ?_); rintro e w1 ⟨rfl, hb⟩; replace hB := below_seq hB hb; replace hS := hS.below hb; clear hb)
        | ((with_reducible refine (rv.out _).mono ?_); rintro e w1 ⟨rfl, hb⟩; replace hB := below_seq hB hb; replace hS := hS.below hb; clear hb))
    | (go_at_call 28; ((with_reducible refine (fixed_c _ hS).mono ?_); rintro e w1 ⟨rfl, hb⟩; replace hB := below_seq hB hb; replace hS := hS.below hb; clear hb)))
  go_ret
  exact ⟨rfl, hB⟩
end Go.Proofs.YtmneibbpbibhcaaDoor
