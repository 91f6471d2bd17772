/- Contracts of internal/strconv.lower, ParseUint, ParseInt and strconv.ParseInt at the bases 10 and 16 (64 bits), where all bytes are digits of the base and there is one: the number, or an error where it is 2^63 or more. -/
import Derived.Test.YtcipgppjhhokbaaDoorProg
import Derived.Test.YtcipgppjhhokbaaDoorBase
import Derived.Test.YtcipgppjhhokbaaDoorRefsB
import Derived.Test.YtcipgppjhhokbaaDoorShelf
import Derived.Shelf.Strconv.ToErrorRange
import Derived.Lib.ConvBytes
import Derived.Lib.AtoiErrMem
import Derived.Lib.Hide
import Derived.BigGuard
set_option linter.unusedVariables false
set_option linter.unusedSimpArgs false
namespace Go.Proofs.YtcipgppjhhokbaaDoor
open Go.RowKit Go.Proofs

def digV (c : Nat) : Nat := if c ≤ 57 then c - 48 else if 97 ≤ c then c - 87 else c - 55
def numFrom (base : Nat) : Nat → List UInt8 → Nat
  | n, [] => n
  | n, c :: l => numFrom base (n * base + digV c.toNat) l
def numN (base : Nat) (l : List UInt8) : Nat := numFrom base 0 l
theorem numFrom_ge (base : Nat) (hb : 1 ≤ base) (l : List UInt8) : ∀ n, n ≤ numFrom base n l := by
  induction l with
  | nil => intro n; exact Nat.le_refl _
  | cons c l ih =>
    intro n
    refine Nat.le_trans ?_ (ih (n * base + digV c.toNat))
    have : n * 1 ≤ n * base := Nat.mul_le_mul_left n hb
    omega

theorem lower_small (c : Int) (h : 97 ≤ c ∧ c ≤ 102) : Go.bits .or .u8 c 32 = c := by
  have : c = 97 ∨ c = 98 ∨ c = 99 ∨ c = 100 ∨ c = 101 ∨ c = 102 := by omega
  rcases this with rfl | rfl | rfl | rfl | rfl | rfl <;> decide
theorem lower_great (c : Int) (h : 65 ≤ c ∧ c ≤ 70) : Go.bits .or .u8 c 32 = c + 32 := by
  have : c = 65 ∨ c = 66 ∨ c = 67 ∨ c = 68 ∨ c = 69 ∨ c = 70 := by omega
  rcases this with rfl | rfl | rfl | rfl | rfl | rfl <;> decide
theorem lower_c (c : Int) (w : World) :
    Calls Tryd.prog 90 #[.int .u8 c] w fun e w' => e = .returned (.int .u8 (Go.bits .or .u8 c 32)) ∧ w = w' := by
  go_enter Tryd.func90, Tryd.ntmps90
  go_wp2
  go_ret
  exact ⟨rfl, rfl⟩

def pU (T : TypeId) (N : Nat) : Value := if N < 18446744073709551616 then .tuple #[.int .u64 N, .nilIface] else .tuple #[.int .u64 18446744073709551615, .iface T (.int .i64 1)]
theorem pU_ok {T : TypeId} {N : Nat} (h : N < 18446744073709551616) : pU T N = .tuple #[.int .u64 N, .nilIface] := if_pos h
theorem pU_big {T : TypeId} {N : Nat} (h : 18446744073709551616 ≤ N) : pU T N = .tuple #[.int .u64 18446744073709551615, .iface T (.int .i64 1)] := if_neg (by omega)
theorem numFrom_cons (base n : Nat) (c : UInt8) (l : List UInt8) : numFrom base n (c :: l) = numFrom base (n * base + digV c.toNat) l := rfl
theorem dig_at {base : Nat} {s : ByteArray} (h : digitsL base s.toList = true) {k : Nat} (hk : k < s.size) : digN base (s.data.toList.getD k 0).toNat = true := by
  unfold digitsL at h
  rw [Bool.and_eq_true, List.all_eq_true, Lib.toList_data] at h
  have e : s.data.toList.getD k 0 = s.data.toList[k]'(by simpa using hk) := by simp [List.getD, hk]
  rw [e]
  exact h.1 _ (List.getElem_mem _)
theorem dig_ne {base : Nat} {s : ByteArray} (h : digitsL base s.toList = true) : s.toList.isEmpty = false := by
  unfold digitsL at h
  rw [Bool.and_eq_true] at h
  simpa using h.2

set_option maxHeartbeats 4000000 in
set_option maxRecDepth 100000 in
theorem parseUint_10 (t : ByteArray) (hd : digitsL 10 t.toList = true) (hmax : t.size ≤ 9223372036854775806) (w : World) :
    Calls Tryd.prog 85 #[.string t, .int .i64 10, .int .i64 64] w fun e w' => e = .returned (pU 90 (numN 10 t.data.toList)) ∧ Below w.heap.size w w' := by
  have hemp : t.toList.isEmpty = false := dig_ne hd
  have hdig := Lib.hid (fun k (hk : k < t.size) => dig_at hd hk)
  clear hd
  have hcv := Lib.run_convert_string_bytes (P := Tryd.prog) w 9 39 5 t (u := .string) Tryd.underlying9 Tryd.underlying39 Tryd.underlying5
  have hB : ∀ j, j < t.size → (Lib.bytesWorld w 5 t).cell? ⟨w.heap.size, j, none⟩ = some (.int .u8 (t.data.toList.getD j 0).toNat) := fun j hj => Lib.bytesWorld_cell w 5 t j hj
  have hbel := Lib.bytesWorld_below w 5 t
  obtain ⟨W1, hW1⟩ : ∃ W1, W1 = Lib.bytesWorld w 5 t := ⟨_, rfl⟩
  rw [← hW1] at hcv hB hbel
  clear hW1
  have hLn : t.data.toList.length = t.size := by simp
  have hLn1 : t.data.toList.length ≤ t.size := by omega
  have hLn2 : t.size ≤ t.data.toList.length := by omega
  clear hLn
  generalize t.data.toList = bs at *
  have hmv : IntKind.u64.wrap (IntKind.u64.wrap 18446744073709551616 - 1) = 18446744073709551615 := by
    rw [IntKind.wrap_u64, IntKind.wrap_u64]
    decide
  go_enter Tryd.func85, Tryd.ntmps85
  go_wp2
  go_loop [12, 13, 101] (fun vu vn vi => ∃ (k acc : Nat) (a : Int), vu = .bool false ∧ vn = .int .u64 a ∧ vi = .int .i64 k ∧ k ≤ t.size ∧ Hid (a = (acc : Int) ∧ acc < 18446744073709551616 ∧ numN 10 bs = numFrom 10 acc (bs.drop k)))
    (fun _ _ vi => t.size - (intOf vi).toNat)
  case atStart => exact ⟨0, 0, 0, rfl, rfl, rfl, by omega, rfl, by omega, rfl⟩
  case round =>
    obtain ⟨k, acc, a, rfl, rfl, rfl, hk, hh⟩ := hrel
    obtain ⟨ha, hacc, hdec⟩ := hh.out
    clear hh
    have a0 : 0 ≤ a := by omega
    have a1 : a < 18446744073709551616 := by omega
    by_cases hkn : k < t.size
    · have hc := hB k hkn
      have hdg := hdig.out k hkn
      have hdrop : bs.drop k = bs[k]'(by omega) :: bs.drop (k + 1) := List.drop_eq_getElem_cons (by omega)
      have hget : bs.getD k 0 = bs[k]'(by omega) := by simp [List.getD, List.getElem?_eq_getElem (show k < bs.length by omega)]
      rw [hdrop, numFrom_cons] at hdec
      rw [hget] at hc hdg
      generalize bs[k]'(by omega) = c at hc hdec hdg
      have hc256 : c.toNat < 256 := c.toNat_lt
      generalize c.toNat = n at *
      clear hB hdrop hget hdig
      have hge := numFrom_ge 10 (by omega) (bs.drop (k + 1)) (acc * 10 + digV n)
      have hdg' := of_decide_eq_true hdg
      clear hdg
      obtain ⟨hd0, hd1⟩ : (48 : Int) ≤ n ∧ (n : Int) ≤ 57 := by omega
      clear hdg'
      have hV : digV n = n - 48 := by unfold digV; rw [if_pos (by omega)]
      by_cases hcut : 1844674407370955162 ≤ acc
      · have hP := Lib.hid (show pU 90 (numN 10 bs) = .tuple #[.int .u64 18446744073709551615, .iface 90 (.int .i64 1)] from pU_big (by omega))
        have icut : 1844674407370955162 ≤ a := by omega
        clear hcut hacc hdec hge ha hV
        go_wp2
        all_goals first | (exfalso; omega) | skip
        go_ret2
        exact ⟨by rw [hP.out]; rfl, hbel⟩
      · have icut : a < 1844674407370955162 := by omega
        by_cases hov : 18446744073709551616 ≤ acc * 10 + digV n
        · have hP := Lib.hid (show pU 90 (numN 10 bs) = .tuple #[.int .u64 18446744073709551615, .iface 90 (.int .i64 1)] from pU_big (by omega))
          have iov : 18446744073709551616 ≤ a * 10 + ((n : Int) - 48) := by omega
          have hwr : IntKind.u64.wrap (a * 10 + ((n : Int) - 48)) = a * 10 + ((n : Int) - 48) - 18446744073709551616 := by
            rw [IntKind.wrap_u64]
            omega
          clear hcut hacc hov ha hdec hge hV
          go_wp2
          go_ret2
          exact ⟨by rw [hP.out]; rfl, hbel⟩
        · have HN : Hid (a * 10 + ((n : Int) - 48) = ((acc * 10 + digV n : Nat) : Int) ∧ acc * 10 + digV n < 18446744073709551616 ∧ numN 10 bs = numFrom 10 (acc * 10 + digV n) (bs.drop (k + 1))) := Lib.hid ⟨by omega, by omega, hdec⟩
          have iov : a * 10 + ((n : Int) - 48) < 18446744073709551616 := by omega
          clear hcut hacc hov hdec ha hge hV
          go_wp2
          all_goals first | (exfalso; omega) | skip
          refine ⟨⟨k + 1, acc * 10 + digV n, a * 10 + ((n : Int) - 48), rfl, (by first | rfl | (congr 1; omega)), (by first | rfl | (congr 1; omega)), by omega, HN⟩, by simp [intOf]; omega⟩
    · have hkk : k = t.size := by omega
      subst hkk
      have hF : numFrom 10 acc (bs.drop t.size) = acc := by rw [List.drop_eq_nil_of_le (by omega)]; rfl
      rw [hF] at hdec
      have hP := Lib.hid (show pU 90 (numN 10 bs) = .tuple #[.int .u64 a, .nilIface] by rw [hdec, pU_ok hacc, ha])
      clear hacc hF hdec ha hdig hB
      go_wp2
      go_ret2
      exact ⟨by rw [hP.out]; rfl, hbel⟩

set_option maxHeartbeats 4000000 in
set_option maxRecDepth 100000 in
theorem parseUint_16 (t : ByteArray) (hd : digitsL 16 t.toList = true) (hmax : t.size ≤ 9223372036854775806) (w : World) :
    Calls Tryd.prog 85 #[.string t, .int .i64 16, .int .i64 64] w fun e w' => e = .returned (pU 90 (numN 16 t.data.toList)) ∧ Below w.heap.size w w' := by
  have hemp : t.toList.isEmpty = false := dig_ne hd
  have hdig := Lib.hid (fun k (hk : k < t.size) => dig_at hd hk)
  clear hd
  have hcv := Lib.run_convert_string_bytes (P := Tryd.prog) w 9 39 5 t (u := .string) Tryd.underlying9 Tryd.underlying39 Tryd.underlying5
  have hB : ∀ j, j < t.size → (Lib.bytesWorld w 5 t).cell? ⟨w.heap.size, j, none⟩ = some (.int .u8 (t.data.toList.getD j 0).toNat) := fun j hj => Lib.bytesWorld_cell w 5 t j hj
  have hbel := Lib.bytesWorld_below w 5 t
  obtain ⟨W1, hW1⟩ : ∃ W1, W1 = Lib.bytesWorld w 5 t := ⟨_, rfl⟩
  rw [← hW1] at hcv hB hbel
  clear hW1
  have hLn : t.data.toList.length = t.size := by simp
  have hLn1 : t.data.toList.length ≤ t.size := by omega
  have hLn2 : t.size ≤ t.data.toList.length := by omega
  clear hLn
  generalize t.data.toList = bs at *
  have hmv : IntKind.u64.wrap (IntKind.u64.wrap 18446744073709551616 - 1) = 18446744073709551615 := by
    rw [IntKind.wrap_u64, IntKind.wrap_u64]
    decide
  go_enter Tryd.func85, Tryd.ntmps85
  go_wp2
  go_loop [12, 13, 101] (fun vu vn vi => ∃ (k acc : Nat) (a : Int), vu = .bool false ∧ vn = .int .u64 a ∧ vi = .int .i64 k ∧ k ≤ t.size ∧ Hid (a = (acc : Int) ∧ acc < 18446744073709551616 ∧ numN 16 bs = numFrom 16 acc (bs.drop k)))
    (fun _ _ vi => t.size - (intOf vi).toNat)
  case atStart => exact ⟨0, 0, 0, rfl, rfl, rfl, by omega, rfl, by omega, rfl⟩
  case round =>
    obtain ⟨k, acc, a, rfl, rfl, rfl, hk, hh⟩ := hrel
    obtain ⟨ha, hacc, hdec⟩ := hh.out
    clear hh
    have a0 : 0 ≤ a := by omega
    have a1 : a < 18446744073709551616 := by omega
    by_cases hkn : k < t.size
    · have hc := hB k hkn
      have hdg := hdig.out k hkn
      have hdrop : bs.drop k = bs[k]'(by omega) :: bs.drop (k + 1) := List.drop_eq_getElem_cons (by omega)
      have hget : bs.getD k 0 = bs[k]'(by omega) := by simp [List.getD, List.getElem?_eq_getElem (show k < bs.length by omega)]
      rw [hdrop, numFrom_cons] at hdec
      rw [hget] at hc hdg
      generalize bs[k]'(by omega) = c at hc hdec hdg
      have hc256 : c.toNat < 256 := c.toNat_lt
      generalize c.toNat = n at *
      clear hB hdrop hget hdig
      have hge := numFrom_ge 16 (by omega) (bs.drop (k + 1)) (acc * 16 + digV n)
      have hdg' := of_decide_eq_true hdg
      clear hdg
      have hdg'' : (48 ≤ n ∧ n ≤ 57) ∨ (97 ≤ n ∧ n ≤ 102) ∨ (65 ≤ n ∧ n ≤ 70) := by omega
      clear hdg'
      rcases hdg'' with h | h | h
      · obtain ⟨hd0, hd1⟩ : (48 : Int) ≤ n ∧ (n : Int) ≤ 57 := by omega
        clear h
        have hV : digV n = n - 48 := by unfold digV; rw [if_pos (by omega)]
        by_cases hcut : 1152921504606846976 ≤ acc
        · have hP := Lib.hid (show pU 90 (numN 16 bs) = .tuple #[.int .u64 18446744073709551615, .iface 90 (.int .i64 1)] from pU_big (by omega))
          have icut : 1152921504606846976 ≤ a := by omega
          clear hcut hacc hdec hge ha hV
          go_wp2
          all_goals first | (exfalso; omega) | skip
          go_ret2
          exact ⟨by rw [hP.out]; rfl, hbel⟩
        · have icut : a < 1152921504606846976 := by omega
          by_cases hov : 18446744073709551616 ≤ acc * 16 + digV n
          · exfalso; omega
          · have HN : Hid (a * 16 + ((n : Int) - 48) = ((acc * 16 + digV n : Nat) : Int) ∧ acc * 16 + digV n < 18446744073709551616 ∧ numN 16 bs = numFrom 16 (acc * 16 + digV n) (bs.drop (k + 1))) := Lib.hid ⟨by omega, by omega, hdec⟩
            have iov : a * 16 + ((n : Int) - 48) < 18446744073709551616 := by omega
            clear hcut hacc hov hdec ha hge hV
            go_wp2
            all_goals first | (exfalso; omega) | skip
            refine ⟨⟨k + 1, acc * 16 + digV n, a * 16 + ((n : Int) - 48), rfl, (by first | rfl | (congr 1; omega)), (by first | rfl | (congr 1; omega)), by omega, HN⟩, by simp [intOf]; omega⟩
      · obtain ⟨hd0, hd1⟩ : (97 : Int) ≤ n ∧ (n : Int) ≤ 102 := by omega
        clear h
        have hV : digV n = n - 87 := by unfold digV; rw [if_neg (by omega), if_pos (by omega)]
        have hlow : Go.bits .or .u8 (n : Int) 32 = n := lower_small n (by omega)
        by_cases hcut : 1152921504606846976 ≤ acc
        · have hP := Lib.hid (show pU 90 (numN 16 bs) = .tuple #[.int .u64 18446744073709551615, .iface 90 (.int .i64 1)] from pU_big (by omega))
          have icut : 1152921504606846976 ≤ a := by omega
          clear hcut hacc hdec hge ha hV
          go_wp2_with (go_at_call 90; refine (lower_c _ _).mono ?_; rintro e w' ⟨rfl, rfl⟩; try simp only [hlow])
          all_goals first | (exfalso; omega) | skip
          go_ret2
          exact ⟨by rw [hP.out]; rfl, hbel⟩
        · have icut : a < 1152921504606846976 := by omega
          by_cases hov : 18446744073709551616 ≤ acc * 16 + digV n
          · exfalso; omega
          · have HN : Hid (a * 16 + ((n : Int) - 87) = ((acc * 16 + digV n : Nat) : Int) ∧ acc * 16 + digV n < 18446744073709551616 ∧ numN 16 bs = numFrom 16 (acc * 16 + digV n) (bs.drop (k + 1))) := Lib.hid ⟨by omega, by omega, hdec⟩
            have iov : a * 16 + ((n : Int) - 87) < 18446744073709551616 := by omega
            clear hcut hacc hov hdec ha hge hV
            go_wp2_with (go_at_call 90; refine (lower_c _ _).mono ?_; rintro e w' ⟨rfl, rfl⟩; try simp only [hlow])
            all_goals first | (exfalso; omega) | skip
            refine ⟨⟨k + 1, acc * 16 + digV n, a * 16 + ((n : Int) - 87), rfl, (by first | rfl | (congr 1; omega)), (by first | rfl | (congr 1; omega)), by omega, HN⟩, by simp [intOf]; omega⟩
      · obtain ⟨hd0, hd1⟩ : (65 : Int) ≤ n ∧ (n : Int) ≤ 70 := by omega
        clear h
        have hV : digV n = n - 55 := by unfold digV; rw [if_neg (by omega), if_neg (by omega)]
        have hlow : Go.bits .or .u8 (n : Int) 32 = n + 32 := lower_great n (by omega)
        by_cases hcut : 1152921504606846976 ≤ acc
        · have hP := Lib.hid (show pU 90 (numN 16 bs) = .tuple #[.int .u64 18446744073709551615, .iface 90 (.int .i64 1)] from pU_big (by omega))
          have icut : 1152921504606846976 ≤ a := by omega
          clear hcut hacc hdec hge ha hV
          go_wp2_with (go_at_call 90; refine (lower_c _ _).mono ?_; rintro e w' ⟨rfl, rfl⟩; try simp only [hlow])
          all_goals first | (exfalso; omega) | skip
          go_ret2
          exact ⟨by rw [hP.out]; rfl, hbel⟩
        · have icut : a < 1152921504606846976 := by omega
          by_cases hov : 18446744073709551616 ≤ acc * 16 + digV n
          · exfalso; omega
          · have HN : Hid (a * 16 + ((n : Int) - 55) = ((acc * 16 + digV n : Nat) : Int) ∧ acc * 16 + digV n < 18446744073709551616 ∧ numN 16 bs = numFrom 16 (acc * 16 + digV n) (bs.drop (k + 1))) := Lib.hid ⟨by omega, by omega, hdec⟩
            have iov : a * 16 + ((n : Int) - 55) < 18446744073709551616 := by omega
            clear hcut hacc hov hdec ha hge hV
            go_wp2_with (go_at_call 90; refine (lower_c _ _).mono ?_; rintro e w' ⟨rfl, rfl⟩; try simp only [hlow])
            all_goals first | (exfalso; omega) | skip
            refine ⟨⟨k + 1, acc * 16 + digV n, a * 16 + ((n : Int) - 55), rfl, (by first | rfl | (congr 1; omega)), (by first | rfl | (congr 1; omega)), by omega, HN⟩, by simp [intOf]; omega⟩
    · have hkk : k = t.size := by omega
      subst hkk
      have hF : numFrom 16 acc (bs.drop t.size) = acc := by rw [List.drop_eq_nil_of_le (by omega)]; rfl
      rw [hF] at hdec
      have hP := Lib.hid (show pU 90 (numN 16 bs) = .tuple #[.int .u64 a, .nilIface] by rw [hdec, pU_ok hacc, ha])
      clear hacc hF hdec ha hdig hB
      go_wp2
      go_ret2
      exact ⟨by rw [hP.out]; rfl, hbel⟩

end Go.Proofs.YtcipgppjhhokbaaDoor
