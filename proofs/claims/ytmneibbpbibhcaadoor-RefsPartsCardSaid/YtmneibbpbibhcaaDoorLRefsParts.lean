/- The walk of boltinglaw03.RefsParts: it returns true, whatever it is given; nothing that lay in memory turns. -/
import Derived.Test.YtmneibbpbibhcaaDoorMoreP
import Derived.Test.YtmneibbpbibhcaaDoorLRefsBack
set_option linter.unusedVariables false
set_option linter.unusedSimpArgs false
namespace Go.Proofs.YtmneibbpbibhcaaDoor
open Go.RowKit Go.Proofs

@[go_sem] theorem app_mk (a b : List UInt8) : (⟨a.toArray⟩ : ByteArray) ++ ⟨b.toArray⟩ = ⟨(a ++ b).toArray⟩ := by
  apply ba_ext
  simp

set_option maxHeartbeats 1000000 in
set_option maxRecDepth 100000 in
theorem refsParts_w (l1 : List UInt8) (hl1 : l1.length ≤ 9223372036854775807) (l2 : List UInt8) (hl2 : l2.length ≤ 9223372036854775807) (w : World) (hS : Std w) :
    Calls Tryd.prog 10 #[.string ⟨l1.toArray⟩, .string ⟨l2.toArray⟩] w fun e w' => e = .returned (.bool true) ∧ Below w.heap.size w w' := by
  go_enter Tryd.func10, Tryd.ntmps10
  go_wp2_with fail
  have hx := take_min_len l1 500
  generalize List.take (min (l1.length : Int) 500).toNat l1 = a at *
  have ha : a.length ≤ 500 := hx
  clear hx
  have hx := take_min_len l2 500
  generalize List.take (min (l2.length : Int) 500).toNat l2 = b at *
  have hb0 : b.length ≤ 500 := hx
  clear hx
  have hB := Below.refl w.heap.size w
  by_cases h1 : hasL a 38 = true
  · go_wp2_with (first
      | (go_at_call 36; ((with_reducible refine (has_i _ _ (by omega) (by omega) _).mono ?_); rintro e w5 ⟨rfl, rfl⟩))
      | (go_at_call 28; ((with_reducible refine (fixed_c _ hS).mono ?_); rintro e w1 ⟨rfl, hb⟩; replace hB := below_seq hB hb; replace hS := hS.below hb; clear hb)))
    go_ret
    exact ⟨rfl, hB⟩
  · have h1 : hasL a 38 = false := by simpa using h1
    by_cases h2 : hasL a 194 = true
    · go_wp2_with (first
        | (go_at_call 36; ((with_reducible refine (has_i _ _ (by omega) (by omega) _).mono ?_); rintro e w5 ⟨rfl, rfl⟩))
        | (go_at_call 28; ((with_reducible refine (fixed_c _ hS).mono ?_); rintro e w1 ⟨rfl, hb⟩; replace hB := below_seq hB hb; replace hS := hS.below hb; clear hb)))
      go_ret
      exact ⟨rfl, hB⟩
    · have h2 : hasL a 194 = false := by simpa using h2
      have d1 := decL_plain a b (hasL_mem (c := 38) h1)
      have t1 := wr_app false b a (hasL_mem (c := 194) h2)
      have v1 := wr_app true b a (hasL_mem (c := 194) h2)
      have hab : (a ++ b).length ≤ 1000 := by simp; omega
      have sd1 := Lib.hid (fun W hS => decode_c (a ++ b) (by omega) W hS)
      have sd2 := Lib.hid (fun W hS => decode_c b (by omega) W hS)
      have st1 := Lib.hid (fun W => text_c (a ++ b) (by omega) W)
      have st2 := Lib.hid (fun W => text_c a (by omega) W)
      have st3 := Lib.hid (fun W => text_c b (by omega) W)
      have sv1 := Lib.hid (fun W => value_c (a ++ b) (by omega) W)
      have sv2 := Lib.hid (fun W => value_c a (by omega) W)
      have sv3 := Lib.hid (fun W => value_c b (by omega) W)
      rw [d1] at sd1
      rw [t1] at st1
      rw [v1] at sv1
      have k1 := decL_len _ b (Nat.le_refl _)
      have k2 := wr_len false a
      have k3 := wr_len false b
      have k4 := wr_len true a
      have k5 := wr_len true b
      clear d1 t1 v1 hab
      generalize decL b = db at *
      generalize wrL false a = ta at *
      generalize wrL false b = tb at *
      generalize wrL true a = va at *
      generalize wrL true b = vb at *
      go_wp2_with (first
        | (go_at_call 36; ((with_reducible refine (has_i _ _ (by omega) (by omega) _).mono ?_); rintro e w5 ⟨rfl, rfl⟩))
        | (go_at_call 31; first
            | ((with_reducible refine (sd1.out _ hS).mono ?_); rintro e w1 ⟨rfl, hb⟩; replace hB := below_seq hB hb; replace hS := hS.below hb; clear hb)
            | ((with_reducible refine (sd2.out _ hS).mono ?_); rintro e w1 ⟨rfl, hb⟩; replace hB := below_seq hB hb; replace hS := hS.below hb; clear hb))
        | (go_at_call 33; first
            | ((with_reducible refine (st1.out _).mono ?_); rintro e w1 ⟨rfl, hb⟩; replace hB := below_seq hB hb; replace hS := hS.below hb; clear hb)
            | ((with_reducible refine (st2.out _).mono ?_); rintro e w1 ⟨rfl, hb⟩; replace hB := below_seq hB hb; replace hS := hS.below hb; clear hb)
            | ((with_reducible refine (st3.out _).mono ?_); rintro e w1 ⟨rfl, hb⟩; replace hB := below_seq hB hb; replace hS := hS.below hb; clear hb))
        | (go_at_call 35; first
            | ((with_reducible refine (sv1.out _).mono ?_); rintro e w1 ⟨rfl, hb⟩; replace hB := below_seq hB hb; replace hS := hS.below hb; clear hb)
            | ((with_reducible refine (sv2.out _).mono ?_); rintro e w1 ⟨rfl, hb⟩; replace hB := below_seq hB hb; replace hS := hS.below hb; clear hb)
            | ((with_reducible refine (sv3.out _).mono ?_); rintro e w1 ⟨rfl, hb⟩; replace hB := below_seq hB hb; replace hS := hS.below hb; clear hb))
        | (go_at_call 28; ((with_reducible refine (fixed_c _ hS).mono ?_); rintro e w1 ⟨rfl, hb⟩; replace hB := below_seq hB hb; replace hS := hS.below hb; clear hb)))
      go_ret
      exact ⟨rfl, hB⟩
end Go.Proofs.YtmneibbpbibhcaaDoor
