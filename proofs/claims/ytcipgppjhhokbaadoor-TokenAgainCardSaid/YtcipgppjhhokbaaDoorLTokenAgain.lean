/- The walk of boltinglaw06.TokenAgain: it returns true, whatever it is given; nothing that lay in memory turns. -/
import Derived.Test.YtcipgppjhhokbaaDoorLTokenEnds
import Derived.Test.YtcipgppjhhokbaaDoorTokZ
set_option linter.unusedVariables false
set_option linter.unusedSimpArgs false
namespace Go.Proofs.YtcipgppjhhokbaaDoor
open Go.RowKit Go.Proofs

set_option maxHeartbeats 4000000 in
set_option maxRecDepth 100000 in
theorem tokenAgain_w (l1 : Txt) (hl1 : l1.length ≤ 9223372036854775807) (w : World) (hS : Std w) :
    Calls Tryd.prog 6 #[.string ⟨l1.toArray⟩] w fun e w' => e = .returned (.bool true) ∧ Below w.heap.size w w' := by
  have hfix := Lib.hid (fun W hS => fixed6_c W hS)
  have hx : (List.take (min (l1.length : Int) 300).toNat l1).length ≤ 300 := take_min_len l1 300
  obtain ⟨x, hxe⟩ : ∃ x, List.take (min (l1.length : Int) 300).toNat l1 = x := ⟨_, rfl⟩
  rw [hxe] at hx
  have hx1 : x.length ≤ 300 := hx
  have z1 := write_cut_len x
  have z2 := write_cut_len (writeL (cutL x))
  have z3 := write_cut_len (writeL (cutL (writeL (cutL x))))
  have ha := again_law x
  have c1 := Lib.hid (fun W hS => cut_g x (by omega) W hS)
  have c2 := Lib.hid (fun W hS => cut_g (writeL (cutL x)) (by omega) W hS)
  have c3 := Lib.hid (fun W hS => cut_g (writeL (cutL (writeL (cutL x)))) (by omega) W hS)
  have d1 := Lib.hid (fun v W h1 h => write_g v (cutL x) h1 (by omega) W h)
  have d2 := Lib.hid (fun v W h1 h => write_g v (cutL (writeL (cutL x))) h1 (by omega) W h)
  have d3 := Lib.hid (fun v W h1 h => write_g v (cutL (writeL (cutL (writeL (cutL x))))) h1 (by omega) W h)
  rw [← ha] at d3
  generalize cutL (writeL (cutL (writeL (cutL x)))) = L3 at *
  clear ha z1 z2 z3
  generalize writeL (cutL (writeL (cutL x))) = s2 at *
  generalize cutL (writeL (cutL x)) = L2 at *
  generalize writeL (cutL x) = s1 at *
  generalize cutL x = L1 at *
  have hbe : (s2 == s2) = true := by simp
  go_enter Tryd.func6, Tryd.ntmps6
  go_wp2_with (first
    | (go_at_call 14; first
      | ((with_reducible refine (c1.out _ hS).mono ?_); rintro e w1 ⟨v1, rfl, hT1, hb1⟩; have hS1 := hS.below hb1)
      | ((with_reducible refine (c2.out _ hS2).mono ?_); rintro e w3 ⟨v3, rfl, hT3, hb3⟩; have hS3 := hS2.below hb3; have hB3 := below_seq hB2 hb3)
      | ((with_reducible refine (c3.out _ hS4).mono ?_); rintro e w5 ⟨v5, rfl, hT5, hb5⟩; have hS5 := hS4.below hb5; have hB5 := below_seq hB4 hb5))
    | (go_at_call 12; first
      | ((with_reducible refine (d1.out _ _ hT1.bound.1 hT1.rd).mono ?_); rintro e w2 ⟨rfl, hb2⟩; have hS2 := hS1.below hb2; have hB2 := below_seq hb1 hb2)
      | ((with_reducible refine (d2.out _ _ hT3.bound.1 hT3.rd).mono ?_); rintro e w4 ⟨rfl, hb4⟩; have hS4 := hS3.below hb4; have hB4 := below_seq hB3 hb4)
      | ((with_reducible refine (d3.out _ _ hT5.bound.1 hT5.rd).mono ?_); rintro e w6 ⟨rfl, hb6⟩; have hS6 := hS5.below hb6; have hB6 := below_seq hB5 hb6))
    | (go_at_call 11; ((with_reducible refine (hfix.out _ hS6).mono ?_); rintro e w7 ⟨rfl, hb7⟩)))
  go_ret
  exact ⟨rfl, below_seq hB6 hb7⟩
end Go.Proofs.YtcipgppjhhokbaaDoor
