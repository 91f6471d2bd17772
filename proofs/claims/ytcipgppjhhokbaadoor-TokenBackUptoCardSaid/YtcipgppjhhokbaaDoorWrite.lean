/- Contracts of refs.written, Text and Value: a text with what may not stand so written out; nothing that lay in memory turns. Condition: at most 10^9 bytes. -/
import Derived.Test.YtcipgppjhhokbaaDoorDecode
set_option linter.unusedVariables false
set_option linter.unusedSimpArgs false
namespace Go.Proofs.YtcipgppjhhokbaaDoor
open Go.RowKit Go.Proofs

def escL (q : Bool) (c : UInt8) : List UInt8 :=
  if c = 38 then [38, 97, 109, 112, 59] else if c = 60 then [38, 108, 116, 59] else if c = 62 then [38, 103, 116, 59] else if c = 34 ∧ q = true then [38, 113, 117, 111, 116, 59] else [c]
def wrL (q : Bool) : List UInt8 → List UInt8
  | [] => []
  | [c] => escL q c
  | c :: d :: l => if c = 194 ∧ d = 160 then [38, 110, 98, 115, 112, 59] ++ wrL q l else escL q c ++ wrL q (d :: l)
def hardL (l : List UInt8) : Bool := Lib.hasPrefix l [194, 160]
theorem wrL_hard {q : Bool} {l : List UInt8} (h : hardL l = true) : wrL q l = [38, 110, 98, 115, 112, 59] ++ wrL q (l.drop 2) := by
  obtain ⟨r, rfl⟩ := List.isPrefixOf_iff_prefix.1 h
  simp [wrL]
theorem wrL_step {q : Bool} {c : UInt8} {l : List UInt8} (h : hardL (c :: l) = false) : wrL q (c :: l) = escL q c ++ wrL q l := by
  cases l with
  | nil => simp [wrL]
  | cons d l =>
    rw [wrL, if_neg]
    rintro ⟨rfl, rfl⟩
    simp [hardL, Lib.hasPrefix] at h

theorem u8_eq {c : UInt8} {n : Nat} (h : c.toNat = n) (hn : n < 256) : c = UInt8.ofNat n := by
  apply UInt8.toNat_inj.1
  rw [h]
  simp [Nat.mod_eq_of_lt hn]
theorem esc38 {q : Bool} {c : UInt8} (h : c.toNat = 38) : escL q c = [38, 97, 109, 112, 59] := by rw [u8_eq h (by omega)]; rfl
theorem esc60 {q : Bool} {c : UInt8} (h : c.toNat = 60) : escL q c = [38, 108, 116, 59] := by rw [u8_eq h (by omega)]; rfl
theorem esc62 {q : Bool} {c : UInt8} (h : c.toNat = 62) : escL q c = [38, 103, 116, 59] := by rw [u8_eq h (by omega)]; rfl
theorem esc34 {c : UInt8} (h : c.toNat = 34) : escL true c = [38, 113, 117, 111, 116, 59] := by rw [u8_eq h (by omega)]; rfl
theorem escNo {q : Bool} {c : UInt8} (h1 : c.toNat ≠ 38) (h2 : c.toNat ≠ 60) (h3 : c.toNat ≠ 62) (h4 : ¬ (c.toNat = 34 ∧ q = true)) : escL q c = [c] := by
  unfold escL
  rw [if_neg (fun e => h1 (by rw [e]; rfl)), if_neg (fun e => h2 (by rw [e]; rfl)), if_neg (fun e => h3 (by rw [e]; rfl)), if_neg (fun e => h4 ⟨by rw [e.1]; rfl, e.2⟩)]
theorem wr_at {q : Bool} {l acc : List UInt8} {k : Nat} {c : UInt8} (hk : k < l.length) (hc : l[k] = c) (hdec : wrL q l = acc ++ wrL q (l.drop k)) (h : hardL (l.drop k) = false) {e : List UInt8} (he : escL q c = e) : wrL q l = (acc ++ e) ++ wrL q (l.drop (k + 1)) := by
  have hd : l.drop k = c :: l.drop (k + 1) := by rw [← hc]; exact List.drop_eq_getElem_cons hk
  rw [hd] at h hdec
  rw [hdec, wrL_step h, he, List.append_assoc]
theorem hard_no {l : List UInt8} {k : Nat} {c : UInt8} (hk : k < l.length) (hc : l[k] = c) (h : c.toNat ≠ 194) : hardL (l.drop k) = false := by
  have hd : l.drop k = c :: l.drop (k + 1) := by rw [← hc]; exact List.drop_eq_getElem_cons hk
  rw [hd]
  have : (194 : UInt8) ≠ c := fun e => h (by rw [← e]; rfl)
  simp [hardL, Lib.hasPrefix, List.isPrefixOf, this]
theorem wr_hard {q : Bool} {l acc : List UInt8} {k : Nat} (hdec : wrL q l = acc ++ wrL q (l.drop k)) (h : hardL (l.drop k) = true) : wrL q l = (acc ++ [38, 110, 98, 115, 112, 59]) ++ wrL q (l.drop (k + 1 + 1)) := by
  rw [hdec, wrL_hard h, List.drop_drop, List.append_assoc]
theorem hard_len {l : List UInt8} {k : Nat} (h : hardL (l.drop k) = true) : k + 2 ≤ l.length := by
  have := pre_len h
  simp at this
  omega
/-- WriteByte, in lists of bytes. -/
theorem byte_l (B b : Nat) (acc : List UInt8) (c : UInt8) (w : World) (h : Lib.IsBuilderF 41 5 B b (Lib.byteCells acc) w) (hlen : acc.length + 1 ≤ 140737488355328) (hBw : B ≤ w.heap.size) :
    Calls Tryd.prog 48 #[.pointer (some ⟨b, 0, none⟩), .int .u8 c.toNat] w fun e w' => e = .returned .nilIface ∧ (Lib.IsBuilderF 41 5 B b (Lib.byteCells (acc ++ [c])) w' ∧ Below B w w' ∧ Lib.OthersKept 5 (some b) w w') := by
  refine (writeByte_k B b _ c.toNat w h (by rw [Lib.byteCells_length]; exact hlen) hBw).mono ?_
  rintro e w' ⟨rfl, h1, h2, h3⟩
  exact ⟨rfl, by rw [Lib.byteCells_append]; exact h1, h2, h3⟩

theorem esc34f {c : UInt8} (h : c.toNat = 34) : escL false c = [34] := by rw [u8_eq h (by omega)]; rfl
theorem byte_34 (B b : Nat) (acc : List UInt8) (w : World) (h : Lib.IsBuilderF 41 5 B b (Lib.byteCells acc) w) (hlen : acc.length + 1 ≤ 140737488355328) (hBw : B ≤ w.heap.size) :
    Calls Tryd.prog 48 #[.pointer (some ⟨b, 0, none⟩), .int .u8 34] w fun e w' => e = .returned .nilIface ∧ (Lib.IsBuilderF 41 5 B b (Lib.byteCells (acc ++ [34])) w' ∧ Below B w w' ∧ Lib.OthersKept 5 (some b) w w') := byte_l B b acc 34 w h hlen hBw

set_option maxHeartbeats 1000000 in
set_option maxRecDepth 100000 in
theorem written_false (l : List UInt8) (hl : l.length ≤ 1000000000) (w : World) :
    Calls Tryd.prog 36 #[.string ⟨l.toArray⟩, .bool false] w fun e w' => e = .returned (.string ⟨(wrL false l).toArray⟩) ∧ Below w.heap.size w w' := by
  go_enter Tryd.func36, Tryd.ntmps36
  go_wp2
  go_loopw [6] (fun v wr => ∃ (k : Nat) (acc : List UInt8), v = .int .i64 k ∧ k ≤ l.length ∧ Lib.IsBuilderF 41 5 w.heap.size w.heap.size (Lib.byteCells acc) wr ∧ Below w.heap.size w wr ∧ w.heap.size < wr.heap.size ∧ Hid (wrL false l = acc ++ wrL false (l.drop k)) ∧ acc.length ≤ 6 * k) (fun v _ => l.length - (intOf v).toNat)
  case atStart =>
    exact ⟨0, [], rfl, by omega, bld_new _ _ (Nat.le_refl _), (Below.refl _ w).alloc (Nat.le_refl _) _, by simp, rfl, by simp⟩
  case round =>
    obtain ⟨k, acc, rfl, hk, hI, hbw, hsz, hdec, hal⟩ := hrel
    by_cases hlt : k < l.length
    · obtain ⟨c, hc⟩ : ∃ c, l[k] = c := ⟨_, rfl⟩
      have hc' := Lib.hid hc
      have hhl := Lib.hid (@hard_len l k)
      go_wp2_with (first
        | (go_at_call 47; ((with_reducible refine (prefix_c _ _ _).mono ?_); rintro e w1 ⟨rfl, rfl⟩))
        | (go_at_call 21; ((with_reducible refine (write_l _ _ acc _ _ hI (by simp; omega) (by omega)).mono ?_); rintro e w5 ⟨rfl, hI5, hb5, _⟩))
        | (go_at_call 48; ((with_reducible refine (byte_l _ _ acc c _ hI (by omega) (by omega)).mono ?_); rintro e w5 ⟨rfl, hI5, hb5, _⟩))
        | (go_at_call 48; ((with_reducible refine (byte_34 _ _ acc _ hI (by omega) (by omega)).mono ?_); rintro e w5 ⟨rfl, hI5, hb5, _⟩)))
      all_goals (simp only [beq_iff_eq, beq_eq_false_iff_ne, ne_eq] at *)
      all_goals first
        | (refine ⟨⟨k + 1, acc ++ _, rfl, by omega, hI5, hbw.trans hb5, by have := hb5.size; omega, wr_at hlt hc'.out hdec.out (hard_no hlt hc'.out (by omega)) (esc38 (by omega)), by simp; omega⟩, by simp [intOf]; omega⟩)
        | (refine ⟨⟨k + 1, acc ++ _, rfl, by omega, hI5, hbw.trans hb5, by have := hb5.size; omega, wr_at hlt hc'.out hdec.out (hard_no hlt hc'.out (by omega)) (esc60 (by omega)), by simp; omega⟩, by simp [intOf]; omega⟩)
        | (refine ⟨⟨k + 1, acc ++ _, rfl, by omega, hI5, hbw.trans hb5, by have := hb5.size; omega, wr_at hlt hc'.out hdec.out (hard_no hlt hc'.out (by omega)) (esc62 (by omega)), by simp; omega⟩, by simp [intOf]; omega⟩)
        | (refine ⟨⟨k + 1, acc ++ _, rfl, by omega, hI5, hbw.trans hb5, by have := hb5.size; omega, wr_at hlt hc'.out hdec.out (hard_no hlt hc'.out (by omega)) (esc34 (by omega)), by simp; omega⟩, by simp [intOf]; omega⟩)
        | (refine ⟨⟨k + 1, acc ++ _, rfl, by omega, hI5, hbw.trans hb5, by have := hb5.size; omega, wr_at hlt hc'.out hdec.out (hard_no hlt hc'.out (by omega)) (esc34f (by omega)), by simp; omega⟩, by simp [intOf]; omega⟩)
        | (refine ⟨⟨k + 1, acc ++ _, rfl, by omega, hI5, hbw.trans hb5, by have := hb5.size; omega, wr_at hlt hc'.out hdec.out (by assumption) (escNo (by omega) (by omega) (by omega) (by simp; try omega)), by simp; omega⟩, by simp [intOf]; omega⟩)
        | (have h2 := hhl.out (by assumption); refine ⟨⟨k + 1 + 1, acc ++ _, by first | rfl | (congr 1; omega), by omega, hI5, hbw.trans hb5, by have := hb5.size; omega, wr_hard hdec.out (by assumption), by simp; omega⟩, by simp [intOf]; omega⟩)
        | skip
    · have hd : wrL false l = acc := by
        rw [hdec.out, List.drop_eq_nil_of_le (by omega)]
        simp [wrL]
      have hd := Lib.hid hd
      rename_i hd0
      clear hd0
      go_wp2_with (go_at_call 24; ((with_reducible refine (Tryd.Builder_String_any_k _ _ _ _ hI (by omega)).mono ?_); rintro e w3 ⟨rfl, _, hb3, _⟩))
      go_ret
      rw [hd.out]
      exact ⟨rfl, hbw.trans hb3⟩

theorem text_c (l : List UInt8) (hl : l.length ≤ 1000000000) (w : World) :
    Calls Tryd.prog 22 #[.string ⟨l.toArray⟩] w fun e w' => e = .returned (.string ⟨(wrL false l).toArray⟩) ∧ Below w.heap.size w w' := by
  go_enter Tryd.func22, Tryd.ntmps22
  go_wp2_with (go_at_call 36; ((with_reducible refine (written_false l hl _).mono ?_); rintro e w3 ⟨rfl, hb3⟩))
  go_ret
  exact ⟨rfl, hb3⟩

set_option maxHeartbeats 1000000 in
set_option maxRecDepth 100000 in
theorem written_true (l : List UInt8) (hl : l.length ≤ 1000000000) (w : World) :
    Calls Tryd.prog 36 #[.string ⟨l.toArray⟩, .bool true] w fun e w' => e = .returned (.string ⟨(wrL true l).toArray⟩) ∧ Below w.heap.size w w' := by
  go_enter Tryd.func36, Tryd.ntmps36
  go_wp2
  go_loopw [6] (fun v wr => ∃ (k : Nat) (acc : List UInt8), v = .int .i64 k ∧ k ≤ l.length ∧ Lib.IsBuilderF 41 5 w.heap.size w.heap.size (Lib.byteCells acc) wr ∧ Below w.heap.size w wr ∧ w.heap.size < wr.heap.size ∧ Hid (wrL true l = acc ++ wrL true (l.drop k)) ∧ acc.length ≤ 6 * k) (fun v _ => l.length - (intOf v).toNat)
  case atStart =>
    exact ⟨0, [], rfl, by omega, bld_new _ _ (Nat.le_refl _), (Below.refl _ w).alloc (Nat.le_refl _) _, by simp, rfl, by simp⟩
  case round =>
    obtain ⟨k, acc, rfl, hk, hI, hbw, hsz, hdec, hal⟩ := hrel
    by_cases hlt : k < l.length
    · obtain ⟨c, hc⟩ : ∃ c, l[k] = c := ⟨_, rfl⟩
      have hc' := Lib.hid hc
      have hhl := Lib.hid (@hard_len l k)
      go_wp2_with (first
        | (go_at_call 47; ((with_reducible refine (prefix_c _ _ _).mono ?_); rintro e w1 ⟨rfl, rfl⟩))
        | (go_at_call 21; ((with_reducible refine (write_l _ _ acc _ _ hI (by simp; omega) (by omega)).mono ?_); rintro e w5 ⟨rfl, hI5, hb5, _⟩))
        | (go_at_call 48; ((with_reducible refine (byte_l _ _ acc c _ hI (by omega) (by omega)).mono ?_); rintro e w5 ⟨rfl, hI5, hb5, _⟩))
        | (go_at_call 48; ((with_reducible refine (byte_34 _ _ acc _ hI (by omega) (by omega)).mono ?_); rintro e w5 ⟨rfl, hI5, hb5, _⟩)))
      all_goals (simp only [beq_iff_eq, beq_eq_false_iff_ne, ne_eq] at *)
      all_goals first
        | (refine ⟨⟨k + 1, acc ++ _, rfl, by omega, hI5, hbw.trans hb5, by have := hb5.size; omega, wr_at hlt hc'.out hdec.out (hard_no hlt hc'.out (by omega)) (esc38 (by omega)), by simp; omega⟩, by simp [intOf]; omega⟩)
        | (refine ⟨⟨k + 1, acc ++ _, rfl, by omega, hI5, hbw.trans hb5, by have := hb5.size; omega, wr_at hlt hc'.out hdec.out (hard_no hlt hc'.out (by omega)) (esc60 (by omega)), by simp; omega⟩, by simp [intOf]; omega⟩)
        | (refine ⟨⟨k + 1, acc ++ _, rfl, by omega, hI5, hbw.trans hb5, by have := hb5.size; omega, wr_at hlt hc'.out hdec.out (hard_no hlt hc'.out (by omega)) (esc62 (by omega)), by simp; omega⟩, by simp [intOf]; omega⟩)
        | (refine ⟨⟨k + 1, acc ++ _, rfl, by omega, hI5, hbw.trans hb5, by have := hb5.size; omega, wr_at hlt hc'.out hdec.out (hard_no hlt hc'.out (by omega)) (esc34 (by omega)), by simp; omega⟩, by simp [intOf]; omega⟩)
        | (refine ⟨⟨k + 1, acc ++ _, rfl, by omega, hI5, hbw.trans hb5, by have := hb5.size; omega, wr_at hlt hc'.out hdec.out (hard_no hlt hc'.out (by omega)) (esc34f (by omega)), by simp; omega⟩, by simp [intOf]; omega⟩)
        | (refine ⟨⟨k + 1, acc ++ _, rfl, by omega, hI5, hbw.trans hb5, by have := hb5.size; omega, wr_at hlt hc'.out hdec.out (by assumption) (escNo (by omega) (by omega) (by omega) (by simp; try omega)), by simp; omega⟩, by simp [intOf]; omega⟩)
        | (have h2 := hhl.out (by assumption); refine ⟨⟨k + 1 + 1, acc ++ _, by first | rfl | (congr 1; omega), by omega, hI5, hbw.trans hb5, by have := hb5.size; omega, wr_hard hdec.out (by assumption), by simp; omega⟩, by simp [intOf]; omega⟩)
        | skip
    · have hd : wrL true l = acc := by
        rw [hdec.out, List.drop_eq_nil_of_le (by omega)]
        simp [wrL]
      have hd := Lib.hid hd
      rename_i hd0
      clear hd0
      go_wp2_with (go_at_call 24; ((with_reducible refine (Tryd.Builder_String_any_k _ _ _ _ hI (by omega)).mono ?_); rintro e w3 ⟨rfl, _, hb3, _⟩))
      go_ret
      rw [hd.out]
      exact ⟨rfl, hbw.trans hb3⟩

theorem value_c (l : List UInt8) (hl : l.length ≤ 1000000000) (w : World) :
    Calls Tryd.prog 37 #[.string ⟨l.toArray⟩] w fun e w' => e = .returned (.string ⟨(wrL true l).toArray⟩) ∧ Below w.heap.size w w' := by
  go_enter Tryd.func37, Tryd.ntmps37
  go_wp2_with (go_at_call 36; ((with_reducible refine (written_true l hl _).mono ?_); rintro e w3 ⟨rfl, hb3⟩))
  go_ret
  exact ⟨rfl, hb3⟩

end Go.Proofs.YtcipgppjhhokbaaDoor
