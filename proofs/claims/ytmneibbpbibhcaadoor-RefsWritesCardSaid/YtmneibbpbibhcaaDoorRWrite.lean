/- Contract of boltingref03.Write: a text with what may not stand so written out, as refs has it. Nothing that lay in memory turns. -/
import Derived.Test.YtmneibbpbibhcaaDoorOwn
set_option linter.unusedVariables false
set_option linter.unusedSimpArgs false
namespace Go.Proofs.YtmneibbpbibhcaaDoor
open Go.RowKit Go.Proofs

theorem ext_one (l : List UInt8) (k : Nat) (h : k < l.length) : (⟨l.toArray⟩ : ByteArray).extract k (k + 1) = ⟨#[l[k]]⟩ := by
  rw [Lib.extract_eq, mk_data_list, List.drop_eq_getElem_cons h, show k + 1 - k = 1 from by omega]
  rfl
theorem hard_two {l : List UInt8} {k : Nat} {c d : UInt8} (h : k < l.length) (h2 : k + 1 < l.length) (hc : l[k] = c) (hd : l[k + 1] = d) : hardL (l.drop k) = (c == 194 && d == 160) := by
  rw [List.drop_eq_getElem_cons h, List.drop_eq_getElem_cons h2, hc, hd]
  simp only [hardL, Lib.hasPrefix, List.isPrefixOf, Bool.and_true]
  rw [BEq.comm (a := (194 : UInt8)), BEq.comm (a := (160 : UInt8))]
theorem hardT {x : List UInt8} {c d : UInt8} (h : hardL x = (c == 194 && d == 160)) (hc : c.toNat = 194) (hd : d.toNat = 160) : hardL x = true := by
  rw [h, u8_eq hc (by omega), u8_eq hd (by omega)]
  rfl
theorem hardF {x : List UInt8} {c d : UInt8} (h : hardL x = (c == 194 && d == 160)) (hd : d.toNat ≠ 160) : hardL x = false := by
  rw [h]
  have : (d == 160) = false := by
    rw [beq_eq_false_iff_ne]
    intro e
    exact hd (by rw [e]; rfl)
  rw [this, Bool.and_false]
theorem hard_end {l : List UInt8} {k : Nat} (h2 : ¬ k + 1 < l.length) : hardL (l.drop k) = false := by
  cases hh : hardL (l.drop k) with
  | false => rfl
  | true => exact absurd (hard_len hh) (by omega)

set_option maxHeartbeats 1000000 in
set_option maxRecDepth 100000 in
theorem rwrite_false (l : List UInt8) (hl : l.length ≤ 1000000000) (w : World) :
    Calls Tryd.prog 34 #[.string ⟨l.toArray⟩, .bool false] w fun e w' => e = .returned (.string ⟨(wrL false l).toArray⟩) ∧ Below w.heap.size w w' := by
  go_enter Tryd.func34, Tryd.ntmps34
  go_wp2
  go_loopw [5, 6] (fun vb vi wr => ∃ (k : Nat) (acc : List UInt8), vi = .int .i64 k ∧ k ≤ l.length ∧ Bts wr w.heap.size vb acc ∧ Below w.heap.size w wr ∧ Hid (wrL false l = acc ++ wrL false (l.drop k)) ∧ acc.length ≤ 6 * k) (fun _ vi _ => l.length - (intOf vi).toNat)
  case atStart =>
    exact ⟨0, [], rfl, by omega, Bts.new _ _ (Nat.le_refl _), (Below.refl _ w).alloc (Nat.le_refl _) _, rfl, by simp⟩
  case round =>
    obtain ⟨k, acc, rfl, hk, hI, hbw, hdec, hal⟩ := hrel
    have hsz := hbw.size
    by_cases hlt : k < l.length
    · have hx1 := ext_one l k hlt
      obtain ⟨c, hc⟩ : ∃ c, l[k] = c := ⟨_, rfl⟩
      rw [hc] at hx1
      have hc' := Lib.hid hc
      by_cases hlt2 : k + 1 < l.length
      · obtain ⟨d, hd⟩ : ∃ d, l[k + 1] = d := ⟨_, rfl⟩
        have hh2 := Lib.hid (hard_two hlt hlt2 hc hd)
        go_wp2_with (at_builtin; refine app_text rfl _ _ rfl w.heap.size _ acc _ rfl hI rfl (by simp; omega) hsz ?_; intro v' w5 hI5 hb5 hz5)
        all_goals (simp only [beq_iff_eq, beq_eq_false_iff_ne, ne_eq] at *)
        all_goals first
          | (refine ⟨⟨k + 1, acc ++ _, rfl, by omega, hI5, hbw.trans hb5, wr_at hlt hc'.out hdec.out (hard_no hlt hc'.out (by omega)) (esc38 (by omega)), by simp; omega⟩, by simp [intOf]; omega⟩)
          | (refine ⟨⟨k + 1, acc ++ _, rfl, by omega, hI5, hbw.trans hb5, wr_at hlt hc'.out hdec.out (hard_no hlt hc'.out (by omega)) (esc60 (by omega)), by simp; omega⟩, by simp [intOf]; omega⟩)
          | (refine ⟨⟨k + 1, acc ++ _, rfl, by omega, hI5, hbw.trans hb5, wr_at hlt hc'.out hdec.out (hard_no hlt hc'.out (by omega)) (esc62 (by omega)), by simp; omega⟩, by simp [intOf]; omega⟩)
          | (refine ⟨⟨k + 1, acc ++ _, rfl, by omega, hI5, hbw.trans hb5, wr_at hlt hc'.out hdec.out (hard_no hlt hc'.out (by omega)) (esc34f (by omega)), by simp; omega⟩, by simp [intOf]; omega⟩)
          | (refine ⟨⟨k + 1, acc ++ _, rfl, by omega, hI5, hbw.trans hb5, wr_at hlt hc'.out hdec.out (hard_no hlt hc'.out (by omega)) (escNo (by omega) (by omega) (by omega) (by simp; try omega)), by simp; omega⟩, by simp [intOf]; omega⟩)
          | (refine ⟨⟨k + 1, acc ++ _, rfl, by omega, hI5, hbw.trans hb5, wr_at hlt hc'.out hdec.out (hardF hh2.out (by omega)) (escNo (by omega) (by omega) (by omega) (by simp; try omega)), by simp; omega⟩, by simp [intOf]; omega⟩)
          | (refine ⟨⟨k + 1 + 1, acc ++ _, by first | rfl | (congr 1; omega), by omega, hI5, hbw.trans hb5, wr_hard hdec.out (hardT hh2.out (by omega) (by omega)), by simp; omega⟩, by simp [intOf]; omega⟩)
          | skip
      · have hh2 := Lib.hid (hard_end hlt2)
        go_wp2_with (at_builtin; refine app_text rfl _ _ rfl w.heap.size _ acc _ rfl hI rfl (by simp; omega) hsz ?_; intro v' w5 hI5 hb5 hz5)
        all_goals (simp only [beq_iff_eq, beq_eq_false_iff_ne, ne_eq] at *)
        all_goals first
          | (refine ⟨⟨k + 1, acc ++ _, rfl, by omega, hI5, hbw.trans hb5, wr_at hlt hc'.out hdec.out hh2.out (esc38 (by omega)), by simp; omega⟩, by simp [intOf]; omega⟩)
          | (refine ⟨⟨k + 1, acc ++ _, rfl, by omega, hI5, hbw.trans hb5, wr_at hlt hc'.out hdec.out hh2.out (esc60 (by omega)), by simp; omega⟩, by simp [intOf]; omega⟩)
          | (refine ⟨⟨k + 1, acc ++ _, rfl, by omega, hI5, hbw.trans hb5, wr_at hlt hc'.out hdec.out hh2.out (esc62 (by omega)), by simp; omega⟩, by simp [intOf]; omega⟩)
          | (refine ⟨⟨k + 1, acc ++ _, rfl, by omega, hI5, hbw.trans hb5, wr_at hlt hc'.out hdec.out hh2.out (esc34f (by omega)), by simp; omega⟩, by simp [intOf]; omega⟩)
          | (refine ⟨⟨k + 1, acc ++ _, rfl, by omega, hI5, hbw.trans hb5, wr_at hlt hc'.out hdec.out hh2.out (escNo (by omega) (by omega) (by omega) (by simp; try omega)), by simp; omega⟩, by simp [intOf]; omega⟩)
          | skip
    · have hd : wrL false l = acc := by
        rw [hdec.out, List.drop_eq_nil_of_le (by omega)]
        simp [wrL]
      have hd := Lib.hid hd
      rename_i hd0
      clear hd0
      have hcv := conv_own hI
      go_wp2
      go_ret
      rw [hd.out]
      exact ⟨rfl, hbw⟩

set_option maxHeartbeats 1000000 in
set_option maxRecDepth 100000 in
theorem rwrite_true (l : List UInt8) (hl : l.length ≤ 1000000000) (w : World) :
    Calls Tryd.prog 34 #[.string ⟨l.toArray⟩, .bool true] w fun e w' => e = .returned (.string ⟨(wrL true l).toArray⟩) ∧ Below w.heap.size w w' := by
  go_enter Tryd.func34, Tryd.ntmps34
  go_wp2
  go_loopw [5, 6] (fun vb vi wr => ∃ (k : Nat) (acc : List UInt8), vi = .int .i64 k ∧ k ≤ l.length ∧ Bts wr w.heap.size vb acc ∧ Below w.heap.size w wr ∧ Hid (wrL true l = acc ++ wrL true (l.drop k)) ∧ acc.length ≤ 6 * k) (fun _ vi _ => l.length - (intOf vi).toNat)
  case atStart =>
    exact ⟨0, [], rfl, by omega, Bts.new _ _ (Nat.le_refl _), (Below.refl _ w).alloc (Nat.le_refl _) _, rfl, by simp⟩
  case round =>
    obtain ⟨k, acc, rfl, hk, hI, hbw, hdec, hal⟩ := hrel
    have hsz := hbw.size
    by_cases hlt : k < l.length
    · have hx1 := ext_one l k hlt
      obtain ⟨c, hc⟩ : ∃ c, l[k] = c := ⟨_, rfl⟩
      rw [hc] at hx1
      have hc' := Lib.hid hc
      by_cases hlt2 : k + 1 < l.length
      · obtain ⟨d, hd⟩ : ∃ d, l[k + 1] = d := ⟨_, rfl⟩
        have hh2 := Lib.hid (hard_two hlt hlt2 hc hd)
        go_wp2_with (at_builtin; refine app_text rfl _ _ rfl w.heap.size _ acc _ rfl hI rfl (by simp; omega) hsz ?_; intro v' w5 hI5 hb5 hz5)
        all_goals (simp only [beq_iff_eq, beq_eq_false_iff_ne, ne_eq] at *)
        all_goals first
          | (refine ⟨⟨k + 1, acc ++ _, rfl, by omega, hI5, hbw.trans hb5, wr_at hlt hc'.out hdec.out (hard_no hlt hc'.out (by omega)) (esc38 (by omega)), by simp; omega⟩, by simp [intOf]; omega⟩)
          | (refine ⟨⟨k + 1, acc ++ _, rfl, by omega, hI5, hbw.trans hb5, wr_at hlt hc'.out hdec.out (hard_no hlt hc'.out (by omega)) (esc60 (by omega)), by simp; omega⟩, by simp [intOf]; omega⟩)
          | (refine ⟨⟨k + 1, acc ++ _, rfl, by omega, hI5, hbw.trans hb5, wr_at hlt hc'.out hdec.out (hard_no hlt hc'.out (by omega)) (esc62 (by omega)), by simp; omega⟩, by simp [intOf]; omega⟩)
          | (refine ⟨⟨k + 1, acc ++ _, rfl, by omega, hI5, hbw.trans hb5, wr_at hlt hc'.out hdec.out (hard_no hlt hc'.out (by omega)) (esc34 (by omega)), by simp; omega⟩, by simp [intOf]; omega⟩)
          | (refine ⟨⟨k + 1, acc ++ _, rfl, by omega, hI5, hbw.trans hb5, wr_at hlt hc'.out hdec.out (hard_no hlt hc'.out (by omega)) (escNo (by omega) (by omega) (by omega) (by simp; try omega)), by simp; omega⟩, by simp [intOf]; omega⟩)
          | (refine ⟨⟨k + 1, acc ++ _, rfl, by omega, hI5, hbw.trans hb5, wr_at hlt hc'.out hdec.out (hardF hh2.out (by omega)) (escNo (by omega) (by omega) (by omega) (by simp; try omega)), by simp; omega⟩, by simp [intOf]; omega⟩)
          | (refine ⟨⟨k + 1 + 1, acc ++ _, by first | rfl | (congr 1; omega), by omega, hI5, hbw.trans hb5, wr_hard hdec.out (hardT hh2.out (by omega) (by omega)), by simp; omega⟩, by simp [intOf]; omega⟩)
          | skip
      · have hh2 := Lib.hid (hard_end hlt2)
        go_wp2_with (at_builtin; refine app_text rfl _ _ rfl w.heap.size _ acc _ rfl hI rfl (by simp; omega) hsz ?_; intro v' w5 hI5 hb5 hz5)
        all_goals (simp only [beq_iff_eq, beq_eq_false_iff_ne, ne_eq] at *)
        all_goals first
          | (refine ⟨⟨k + 1, acc ++ _, rfl, by omega, hI5, hbw.trans hb5, wr_at hlt hc'.out hdec.out hh2.out (esc38 (by omega)), by simp; omega⟩, by simp [intOf]; omega⟩)
          | (refine ⟨⟨k + 1, acc ++ _, rfl, by omega, hI5, hbw.trans hb5, wr_at hlt hc'.out hdec.out hh2.out (esc60 (by omega)), by simp; omega⟩, by simp [intOf]; omega⟩)
          | (refine ⟨⟨k + 1, acc ++ _, rfl, by omega, hI5, hbw.trans hb5, wr_at hlt hc'.out hdec.out hh2.out (esc62 (by omega)), by simp; omega⟩, by simp [intOf]; omega⟩)
          | (refine ⟨⟨k + 1, acc ++ _, rfl, by omega, hI5, hbw.trans hb5, wr_at hlt hc'.out hdec.out hh2.out (esc34 (by omega)), by simp; omega⟩, by simp [intOf]; omega⟩)
          | (refine ⟨⟨k + 1, acc ++ _, rfl, by omega, hI5, hbw.trans hb5, wr_at hlt hc'.out hdec.out hh2.out (escNo (by omega) (by omega) (by omega) (by simp; try omega)), by simp; omega⟩, by simp [intOf]; omega⟩)
          | skip
    · have hd : wrL true l = acc := by
        rw [hdec.out, List.drop_eq_nil_of_le (by omega)]
        simp [wrL]
      have hd := Lib.hid hd
      rename_i hd0
      clear hd0
      have hcv := conv_own hI
      go_wp2
      go_ret
      rw [hd.out]
      exact ⟨rfl, hbw⟩
end Go.Proofs.YtmneibbpbibhcaaDoor
