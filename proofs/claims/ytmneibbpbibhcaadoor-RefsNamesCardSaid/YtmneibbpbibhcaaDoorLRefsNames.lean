/- The walk of boltinglaw03.RefsNames: it returns true, whatever it is given; nothing that lay in memory turns. -/
import Derived.Test.YtmneibbpbibhcaaDoorRef3B
set_option linter.unusedVariables false
set_option linter.unusedSimpArgs false
namespace Go.Proofs.YtmneibbpbibhcaaDoor
open Go.RowKit Go.Proofs

set_option maxHeartbeats 1000000 in
set_option maxRecDepth 100000 in
theorem refsNames_w (l : List UInt8) (hl : l.length ≤ 9223372036854775807) (n : Int) (hn0 : -9223372036854775808 ≤ n) (hn1 : n ≤ 9223372036854775807) (w : World) (hS : Std w) :
    Calls Tryd.prog 6 #[.string ⟨l.toArray⟩, .int .i64 n] w fun e w' => e = .returned (.bool true) ∧ Below w.heap.size w w' := by
  have hB := Below.refl w.heap.size w
  have cn := Lib.hid (fun W => named_l l W)
  have rn := Lib.hid (fun W => rnamed_c l W)
  have cc := Lib.hid (fun W => code_c n W hn0 hn1)
  have rc := Lib.hid (fun W => rcode_c n hn0 hn1 W)
  generalize namedL l = r at *
  obtain ⟨r1, r2⟩ := r
  generalize codeL n = c at *
  simp only at cn rn
  go_enter Tryd.func6, Tryd.ntmps6
  go_wp2_with (first
    | (go_at_call 26; ((with_reducible refine (cn.out _).mono ?_); rintro e w2 ⟨rfl, rfl⟩))
    | (go_at_call 27; ((with_reducible refine (rn.out _).mono ?_); rintro e w1 ⟨rfl, hb⟩; replace hB := below_seq hB hb; replace hS := hS.below hb; clear hb))
    | (go_at_call 28; ((with_reducible refine (fixed_c _ hS).mono ?_); rintro e w1 ⟨rfl, hb⟩; replace hB := below_seq hB hb; replace hS := hS.below hb; clear hb))
    | (go_at_call 29; ((with_reducible refine (cc.out _).mono ?_); rintro e w2 ⟨rfl, rfl⟩))
    | (go_at_call 30; ((with_reducible refine (rc.out _).mono ?_); rintro e w1 ⟨rfl, hb⟩; replace hB := below_seq hB hb; replace hS := hS.below hb; clear hb)))
  go_ret
  exact ⟨rfl, hB⟩
end Go.Proofs.YtmneibbpbibhcaaDoor
