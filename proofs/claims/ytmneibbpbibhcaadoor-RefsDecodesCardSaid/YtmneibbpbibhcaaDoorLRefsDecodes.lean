/- The walk of boltinglaw03.RefsDecodes: it returns true, whatever it is given; nothing that lay in memory turns. -/
import Derived.Test.YtmneibbpbibhcaaDoorRDec
import Derived.Test.YtmneibbpbibhcaaDoorLRefsBack
set_option linter.unusedVariables false
set_option linter.unusedSimpArgs false
namespace Go.Proofs.YtmneibbpbibhcaaDoor
open Go.RowKit Go.Proofs

set_option maxHeartbeats 1000000 in
set_option maxRecDepth 100000 in
theorem refsDecodes_w (l : List UInt8) (hl : l.length ≤ 9223372036854775807) (w : World) (hS : Std w) :
    Calls Tryd.prog 7 #[.string ⟨l.toArray⟩] w fun e w' => e = .returned (.bool true) ∧ Below w.heap.size w w' := by
  have hB := Below.refl w.heap.size w
  go_enter Tryd.func7, Tryd.ntmps7
  go_wp2_with fail
  have hx := take_min_len l 1000
  generalize List.take (min (l.length : Int) 1000).toNat l = x at *
  have hxx : x.length ≤ 1000 := hx
  clear hx
  have cd := Lib.hid (fun W hS => decode_c x (by omega) W hS)
  have rd := Lib.hid (fun W => rdecode_c x (by omega) W)
  generalize decL x = d at *
  go_wp2_with (first
    | (go_at_call 31; ((with_reducible refine (cd.out _ hS).mono ?_); rintro e w1 ⟨rfl, hb⟩; replace hB := below_seq hB hb; replace hS := hS.below hb; clear hb))
    | (go_at_call 32; ((with_reducible refine (rd.out _).mono ?_); rintro e w1 ⟨rfl, hb⟩; replace hB := below_seq hB hb; replace hS := hS.below hb; clear hb))
    | (go_at_call 28; ((with_reducible refine (fixed_c _ hS).mono ?_); rintro e w1 ⟨rfl, hb⟩; replace hB := below_seq hB hb; replace hS := hS.below hb; clear hb)))
  go_ret
  exact ⟨rfl, hB⟩
end Go.Proofs.YtmneibbpbibhcaaDoor
