/- The walk of boltinglaw03.RefsNumbers: it returns true, whatever it is given; nothing that lay in memory turns. -/
import Derived.Test.YtmneibbpbibhcaaDoorNumP
import Derived.Test.YtmneibbpbibhcaaDoorRef3A
import Derived.Test.YtmneibbpbibhcaaDoorLRefsParts
set_option linter.unusedVariables false
set_option linter.unusedSimpArgs false
namespace Go.Proofs.YtmneibbpbibhcaaDoor
open Go.RowKit Go.Proofs

def hexs : List UInt8 := [48, 49, 50, 51, 52, 53, 54, 55, 56, 57, 97, 98, 99, 100, 101, 102]
theorem hex_at (d : Nat) (h : d < 16) : digN 16 (hexs.getD d 0).toNat = true ∧ digV (hexs.getD d 0).toNat = d := by
  have h' : ∀ d : Fin 16, digN 16 (hexs.getD d 0).toNat = true ∧ digV (hexs.getD d 0).toNat = d := by decide +kernel
  exact h' ⟨d, h⟩
theorem hex_cut (d : Nat) (h : d < 16) : (⟨#[48, 49, 50, 51, 52, 53, 54, 55, 56, 57, 97, 98, 99, 100, 101, 102]⟩ : ByteArray).extract d (d + 1) = ⟨[hexs.getD d 0].toArray⟩ := by
  have e := Lib.extract_eq (⟨hexs.toArray⟩ : ByteArray) d (d + 1)
  rw [mk_data_list, show d + 1 - d = 1 from by omega, List.drop_eq_getElem_cons (show d < hexs.length from h)] at e
  refine e.trans ?_
  rw [show List.take 1 (hexs[d] :: List.drop (d + 1) hexs) = [hexs[d]] from rfl]
  simp [List.getD, List.getElem?_eq_getElem (show d < hexs.length from h)]
  rfl
theorem num_one (n : Int) : strOfNums [n] = ⟨[UInt8.ofNat n.toNat].toArray⟩ := rfl
theorem ten_at (d : Nat) : digN 10 (UInt8.ofNat (48 + d % 10)).toNat = true ∧ digV (UInt8.ofNat (48 + d % 10)).toNat = d % 10 := by
  have h : (UInt8.ofNat (48 + d % 10)).toNat = 48 + d % 10 := by
    simp; omega
  rw [h]
  refine ⟨decide_eq_true (by omega), ?_⟩
  unfold digV
  rw [if_pos (by omega)]
  omega

set_option maxHeartbeats 1000000 in
set_option maxRecDepth 100000 in
theorem refsNumbers_w (n : Int) (hn0 : -9223372036854775808 ≤ n) (hn1 : n ≤ 9223372036854775807) (z : Int) (hz0 : -9223372036854775808 ≤ z) (hz1 : z ≤ 9223372036854775807) (w : World) (hS : Std w) :
    Calls Tryd.prog 11 #[.int .i64 n, .int .i64 z] w fun e w' => e = .returned (.bool true) ∧ Below w.heap.size w w' := by
  obtain ⟨k, hk, hk1⟩ := mask21 n
  obtain ⟨m, hm, hm1⟩ := mask4 z
  go_enter Tryd.func11, Tryd.ntmps11
  go_wp2
  go_loopw [6, 7, 8] (fun vt vd vi wr => ∃ (i d : Nat) (s : List UInt8), vt = .string ⟨s.toArray⟩ ∧ vd = .int .i64 d ∧ vi = .int .i64 i ∧ i ≤ 8 ∧ d ≤ 2097151 ∧ Below w.heap.size w wr ∧ s.length ≤ 8 ∧ Hid (Digs 10 i k d s)) (fun _ _ vi _ => 8 - (intOf vi).toNat)
  case atStart => exact ⟨0, k, [], rfl, rfl, rfl, by omega, hk1, Below.refl _ _, by simp, by simp, rfl, by simp [numN, numFrom]⟩
  case round =>
    obtain ⟨i, d, s, rfl, rfl, rfl, hi, hd, hbw, hsl, hdg⟩ := hrel
    by_cases hlt : i < 8
    · have hcv := conv_new wr [48 + (d : Int) % 10] #[.int .u8 (48 + (d : Int) % 10)] 1 rfl rfl
      rw [num_one, show (48 + (d : Int) % 10).toNat = 48 + d % 10 from by omega] at hcv
      obtain ⟨t1, t2⟩ := ten_at d
      have hst := Lib.hid (hdg.out.step _ t1 t2)
      clear t1 t2
      generalize UInt8.ofNat (48 + d % 10) = c at *
      go_wp2
      refine ⟨⟨i + 1, d / 10, c :: s, rfl, by first | rfl | (congr 1; omega), by first | rfl | (congr 1; omega), by omega, by omega, hbw.alloc hbw.size _, Nat.le_trans (Nat.le_of_eq hst.out.2.1) (by omega), hst⟩, by simp [intOf]; omega⟩
    · have h8 : i = 8 := by omega
      subst h8
      have hten := Lib.hid (And.intro (hdg.out.dg (by omega)) hdg.out.2.1)
      clear hdg hd
      have hS := hS.below hbw
      go_wp2
      go_loop [7, 9, 10] (fun vd vs vi => ∃ (i d : Nat) (x : List UInt8), vs = .string ⟨x.toArray⟩ ∧ vd = .int .i64 d ∧ vi = .int .i64 i ∧ i ≤ 6 ∧ d ≤ 2097151 ∧ x.length ≤ 6 ∧ Hid (Digs 16 i k d x)) (fun _ _ vi => 6 - (intOf vi).toNat)
      case atStart => exact ⟨0, k, [], rfl, rfl, rfl, by omega, hk1, by simp, by simp, rfl, by simp [numN, numFrom]⟩
      case round =>
        obtain ⟨i, d, x, rfl, rfl, rfl, hi, hd, hxl, hdg⟩ := hrel
        by_cases hlt : i < 6
        · have hcut := hex_cut (d % 16) (by omega)
          obtain ⟨t1, t2⟩ := hex_at (d % 16) (by omega)
          have hst := Lib.hid (hdg.out.step _ t1 t2)
          clear t1 t2
          generalize hexs.getD (d % 16) 0 = c at *
          go_wp2
          refine ⟨⟨i + 1, d / 16, c :: x, rfl, by first | rfl | (congr 1; omega), by first | rfl | (congr 1; omega), by omega, by omega, Nat.le_trans (Nat.le_of_eq hst.out.2.1) (by omega), hst⟩, by simp [intOf]; omega⟩
        · have h6 : i = 6 := by omega
          subst h6
          have hsix := Lib.hid (And.intro (hdg.out.dg (by omega)) hdg.out.2.1)
          clear hdg hd
          go_wp2
          go_loop [6, 9, 11] (fun vt vs vi => ∃ (j : Nat) (t y : List UInt8), vt = .string ⟨t.toArray⟩ ∧ vs = .string ⟨y.toArray⟩ ∧ vi = .int .i64 j ∧ j ≤ m ∧ t.length ≤ 8 + j ∧ y.length ≤ 6 + j ∧ Hid (Dg 10 k t ∧ Dg 16 k y ∧ 0 < t.length ∧ 0 < y.length)) (fun _ _ vi => m - (intOf vi).toNat)
          case atStart => exact ⟨0, s, x, rfl, rfl, rfl, by omega, by omega, by omega, hten.out.1, hsix.out.1, by rw [hten.out.2]; omega, by rw [hsix.out.2]; omega⟩
          case round =>
            obtain ⟨j, t, y, rfl, rfl, rfl, hj, htl, hyl, hdg⟩ := hrel
            by_cases hlt : j < m
            · have hst : Hid (Dg 10 k (48 :: t) ∧ Dg 16 k (48 :: y) ∧ 0 < (48 :: t).length ∧ 0 < (48 :: y).length) := ⟨hdg.out.1.zero, hdg.out.2.1.zero, by simp, by simp⟩
              go_wp2
              refine ⟨⟨j + 1, 48 :: t, 48 :: y, rfl, rfl, rfl, by omega, by simp; omega, by simp; omega, hst⟩, by simp [intOf]; omega⟩
            · obtain ⟨g1, g2, g3, g4⟩ := hdg.out
              have e1 := dec_ten g1 g3
              have e2 := dec_six g2 g4
              have e3 := dec_many g1
              have e4 := dec_open g1
              have c1 := Lib.hid (fun W hS => decode_c ([38, 35] ++ t ++ [59]) (by simp; omega) W hS)
              have c2 := Lib.hid (fun W hS => decode_c ([38, 35, 120] ++ y ++ [59]) (by simp; omega) W hS)
              have c3 := Lib.hid (fun W hS => decode_c ([38, 35, 57] ++ t ++ (zeros18 ++ [59])) (by simp [zeros18]; omega) W hS)
              have c4 := Lib.hid (fun W hS => decode_c ([38, 35] ++ t) (by simp; omega) W hS)
              rw [e1] at c1
              rw [e2] at c2
              rw [e3] at c3
              rw [e4] at c4
              have r1 := Lib.hid (fun W => rcode_c (k : Int) (by omega) (by omega) W)
              have r2 := Lib.hid (fun W => rcode_c (-1) (by omega) (by omega) W)
              clear g1 g2 g3 g4 hdg e1 e2 e3 e4 hten hsix hsl hxl
              generalize codeL (k : Int) = u at *
              generalize codeL (-1) = v at *
              simp only [zeros18, List.cons_append, List.nil_append, List.append_assoc] at c1 c2 c3 c4
              have hB := hbw
              go_wp2_with (first
                | (go_at_call 31; first
                    | ((with_reducible refine (c1.out _ hS).mono ?_); rintro e w1 ⟨rfl, hb⟩; replace hB := below_seq hB hb; replace hS := hS.below hb; clear hb)
                    | ((with_reducible refine (c2.out _ hS).mono ?_); rintro e w1 ⟨rfl, hb⟩; replace hB := below_seq hB hb; replace hS := hS.below hb; clear hb)
                    | ((with_reducible refine (c3.out _ hS).mono ?_); rintro e w1 ⟨rfl, hb⟩; replace hB := below_seq hB hb; replace hS := hS.below hb; clear hb)
                    | ((with_reducible refine (c4.out _ hS).mono ?_); rintro e w1 ⟨rfl, hb⟩; replace hB := below_seq hB hb; replace hS := hS.below hb; clear hb))
                | (go_at_call 30; first
                    | ((with_reducible refine (r1.out _).mono ?_); rintro e w1 ⟨rfl, hb⟩; replace hB := below_seq hB hb; replace hS := hS.below hb; clear hb)
                    | ((with_reducible refine (r2.out _).mono ?_); rintro e w1 ⟨rfl, hb⟩; replace hB := below_seq hB hb; replace hS := hS.below hb; clear hb))
                | (go_at_call 28; ((with_reducible refine (fixed_c _ hS).mono ?_); rintro e w1 ⟨rfl, hb⟩; replace hB := below_seq hB hb; replace hS := hS.below hb; clear hb)))
              go_ret
              exact ⟨rfl, hB⟩
end Go.Proofs.YtmneibbpbibhcaaDoor
