/- The walk of boltinglaw03.RefsBack: it returns true, whatever it is given; nothing that lay in memory turns. -/
import Derived.Test.YtmneibbpbibhcaaDoorBackP
set_option linter.unusedVariables false
set_option linter.unusedSimpArgs false
namespace Go.Proofs.YtmneibbpbibhcaaDoor
open Go.RowKit Go.Proofs

theorem take_min_len (l : List UInt8) (n : Nat) : (List.take (min (l.length : Int) n).toNat l).length ≤ n := by
  rw [List.length_take]
  omega

set_option maxHeartbeats 1000000 in
set_option maxRecDepth 100000 in
theorem refsBack_w (l : List UInt8) (hl : l.length ≤ 9223372036854775807) (w : World) (hS : Std w) :
    Calls Tryd.prog 9 #[.string ⟨l.toArray⟩] w fun e w' => e = .returned (.bool true) ∧ Below w.heap.size w w' := by
  go_enter Tryd.func9, Tryd.ntmps9
  go_wp2_with fail
  have hx := take_min_len l 2000
  generalize List.take (min (l.length : Int) 2000).toNat l = x at *
  have hxx : x.length ≤ 2000 := hx
  clear hx
  have ct := Lib.hid (fun W => text_c x (by omega) W)
  have cv := Lib.hid (fun W => value_c x (by omega) W)
  have l1 := wr_len false x
  have l2 := wr_len true x
  have d1 := dec_wr false x
  have d2 := dec_wr true x
  have n1 := wr_no false 60 (by simp) x
  have n2 := wr_no false 62 (by simp) x
  have n3 := wr_no true 60 (by simp) x
  have n4 := wr_no true 62 (by simp) x
  have n5 := wr_no true 34 (by simp) x
  generalize wrL false x = t at *
  generalize wrL true x = v at *
  have s1 := Lib.hid (fun W hS => decode_c t (by omega) W hS)
  have s2 := Lib.hid (fun W hS => decode_c v (by omega) W hS)
  have t1 : t.length ≤ 12000 := by omega
  have t2 : v.length ≤ 12000 := by omega
  clear l1 l2
  go_wp2_with (first
    | (go_at_call 33; ((with_reducible refine (ct.out _).mono ?_); rintro e w1 ⟨rfl, hb1⟩; have hS1 := hS.below hb1))
    | (go_at_call 35; ((with_reducible refine (cv.out _).mono ?_); rintro e w2 ⟨rfl, hb2⟩; have hS2 := hS1.below hb2))
    | (go_at_call 31; first
        | ((with_reducible refine (s1.out _ hS2).mono ?_); rintro e w3 ⟨rfl, hb3⟩; have hS3 := hS2.below hb3)
        | ((with_reducible refine (s2.out _ hS3).mono ?_); rintro e w4 ⟨rfl, hb4⟩; have hS4 := hS3.below hb4))
    | (go_at_call 36; ((with_reducible refine (has_i _ _ (by omega) (by omega) _).mono ?_); rintro e w5 ⟨rfl, rfl⟩))
    | (go_at_call 28; ((with_reducible refine (fixed_c _ hS4).mono ?_); rintro e w6 ⟨rfl, hb6⟩)))
  go_ret
  exact ⟨rfl, below_seq (below_seq (below_seq (below_seq hb1 hb2) hb3) hb4) hb6⟩
end Go.Proofs.YtmneibbpbibhcaaDoor
